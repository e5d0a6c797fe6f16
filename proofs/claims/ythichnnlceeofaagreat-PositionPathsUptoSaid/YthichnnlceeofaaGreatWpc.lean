/-
  What the claim stands on, part 3: Package property: find, Group, groups, Fits, CheckValue, Get. Package property: Check, Get, Clone. Package document: in, when, first, all, increasing. Packages codepoint, document and obeluslaw13: names, authors, texts, ids. Pointers that may be nil. Regions that draw the order of their operations, in which each operation has its own part of what is owned: the layout is told by what is done. Regions that draw the order of their operations, in which one operation among the others makes what is owned more. Maps that a call owns. Drawn regions in which one operation makes what is owned more, and others look into what is owned. Drawn regions in which one operation, not the last, stores into what is owned. Package leveltext: the scanner's builder. Drawn regions in which two operations make what is owned more. Drawn regions in which a call turns what is owned, and an operation behind it makes it more. Package leveltext: the scanner's flush and place. Regions that draw the order of their operations, of which some write slots that others read before; the beginning of a string. Package leveltext: the scanner's percent. Package leveltext: the scanner's scan. The bytes of a string as a slice that is only read. Package leveltext: Parse, Check, CheckLevels. Package leveltext: CheckLevels. Package document: checkLists.
-/
import Derived.Test.YthichnnlceeofaaGreatWpb
import Derived.MapKept
import Derived.Lib.ConvBytes
namespace Go.Proofs.YthichnnlceeofaaGreat
section
open Go.RowKit
theorem Yr:∀ args w,(callFunc 130 args).run Tryz.prog w=.ok (.enter 130 args) w:=enters Tryz.func130 rfl (by kernel_rfl)
theorem Yt:∀ args w,(callFunc 131 args).run Tryz.prog w=.ok (.enter 131 args) w:=enters Tryz.func131 rfl (by kernel_rfl)
theorem qQ:Tryz.prog.underlying 70=some (.slice 3):=by kernel_rfl
theorem Yv:∀ args w,(callFunc 133 args).run Tryz.prog w=.ok (.enter 133 args) w:=enters Tryz.func133 rfl (by kernel_rfl)
theorem PO:∀ args w,(callFunc 120 args).run Tryz.prog w=.ok (.enter 120 args) w:=enters Tryz.func120 rfl (by kernel_rfl)
theorem Yj:∀ args w,(callFunc 122 args).run Tryz.prog w=.ok (.enter 122 args) w:=enters Tryz.func122 rfl (by kernel_rfl)
theorem Z8:bO Tryz.prog 197 1 1:=⟨by kernel_rfl⟩
theorem Yi:∀ args w,(callFunc 121 args).run Tryz.prog w=.ok (.enter 121 args) w:=enters Tryz.func121 rfl (by kernel_rfl)
theorem Z9:bO Tryz.prog 197 2 2:=⟨by kernel_rfl⟩
theorem aac:bO Tryz.prog 197 3 3:=⟨by kernel_rfl⟩
def kz:iG:=⟨0,0,0,0,0,⟨#[]⟩⟩
def Af:List Int:=Ag.map iG.num
/-- The entry of a key, and whether there is one. -/
def jK (k:Int):iG × Bool:=if yN Af k=true then (Ag.getD (vF Af k) kz,true) else (kz,false)
theorem find_spec (G:GH) (w0:World) (hG:Hold G w0) (k:Int):Calls Tryz.prog 120 #[vi k] w0 (aU w0 G fun u G'=>u=.tuple #[.agg (jK k).1.cells.toArray,.bool (jK k).2]):=by
 refine eN [(0,_)] Tryz.func120 rfl Tryz.ntmps120 rfl rfl hG ?_;intro a H;refine aY (fun _ K1=>?_);refine bX pE H wn rfl ?_;clear H;intro b2 a w hb2 H;refine kH H (Ra rfl (Kz K1 (SR fun _ K2=>?_)));clear H K1;intro a H;refine s_call Yr H wn rfl (aci _ _ H.hp.ro) rfl ?_;clear H;rintro v7 G7 a w hv7 xC H;obtain ⟨A,c,rfl,hc1,hc2,-⟩:=hv7.slice;rw [List.length_map] at *;refine kH H (Ra rfl (Kz K2 (SR fun _ K3=>Rm rfl (Rm rfl ?_))));clear H K2;intro a H;refine s_call Yt H wn rfl (Wi _ _ H.hp.ro Ag k _ hv7 (by decide)) rfl ?_;clear H;rintro v11 qj a w rfl xq H;have hv7:=hv7.mono xq;have hkn:Ag.map iG.num=Af:=rfl;rw [hkn] at H;obtain ⟨n,hn⟩:∃ n,n=vF Af k:=⟨_,rfl⟩;obtain ⟨q,hq⟩:∃ q,q=yN Af k:=⟨_,rfl⟩;rw [← hn,← hq] at H;refine kH H (Rm rfl ?_);clear H;intro a H;(iterate 2 refine gV H wn rfl rfl rfl ?_;clear H;intro a H);refine kH H (Ra rfl (Ra rfl (Kz K3 (SQ fun _ K4=>SR fun _ K5=>Rm rfl (Rn rfl (Kz K5 (Cd rfl ?_ ?_))))))) <;> clear H K3 K5
 ·intro iM a H
  try have kQ:=dT iM
  refine aY (fun _ K6=>?_);refine iP Uh [_,_,_,_,_,_] H wn rfl rfl rfl rfl ?_;clear H;intro a H;refine aP pE 0 (vs:=[_,_,_,_,_,_]) _ H wn rfl rfl rfl rfl rfl rfl rfl rfl ?_;clear H;intro w H;dsimp only [List.set,setRow] at H;refine kH H (Ra rfl (Kz K6 ?_));clear H K6;intro a H;refine aR ?_;refine (bU H Tryz.results120 (.cons (uQ pE (cs:=[_,_,_,_,_,_]) H rfl rfl (H.hp.bF 0 rfl rfl)) (.cons (aF H rfl) .nil)) ?_).1;exact H.hp.ret (by rw [jK,if_neg (by rw [← hq];simpa using iM)];rfl)
 intro iM a H
 try have kQ:=dF iM
 have hlt:n < Ag.length:=by have:=aaM (ks:=Af) (t:=k) (by rw [← hq];simpa using iM);rw [← hn] at this;simpa [Af] using this
 obtain ⟨b,o,rfl,hrow⟩:=MQ hv7 hlt;refine kP H (Kc K4 (SR fun _ K7=>Rm rfl (Rm rfl (Ri EU pE rfl rfl ?_))));clear H K4;intro a H;refine aK pE (cs:=[_,_,_,_,_,_]) H wn rfl rfl (fun j v hj=>H.hp.aB (hrow j v hj)) rfl ?_;clear H;intro a H;refine aP pE 0 (vs:=[_,_,_,_,_,_]) _ H wn rfl rfl rfl rfl rfl rfl rfl rfl ?_;clear H;intro w H;dsimp only [List.set,setRow] at H;refine kH H (Ra rfl (Kz K7 ?_));clear H K7;intro a H;refine aR ?_;refine (bU H Tryz.results120 (.cons (uQ pE (cs:=[_,_,_,_,_,_]) H rfl rfl (H.hp.bF 0 rfl rfl)) (.cons (aF H rfl) .nil)) ?_).1;exact H.hp.ret (by rw [jK,if_pos (by rw [← hq];simpa using iM),← hn,List.getD_eq_getElem?_getD,List.getElem?_eq_getElem hlt];rfl)
def bZ (e:Int):List Int:=if e=1∨e=4∨e=5∨e=6 then [1] else if e=2 then [1,2] else if e=3 then [3] else if e=7 then [6] else if e=9 then [4] else if e=10 then [5] else []
theorem dP (G:GH) (A:List Int):eU G 1 (A.map fun k=>[li k]) (A.map vi):=by
 refine ⟨A.map fun k=>[vi k],?_,by simp,fun j r cs hr hc=>?_⟩
 ·induction A with
  | nil=>rfl
  | cons a A ih=>simpa using ih
 rw [List.getElem?_map] at hr hc
 cases h:A[j]? with
 | none=>rw [h] at hr;cases hr
 | some x =>
  rw [h] at hr hc
  cases hr;cases hc
  exact ⟨by simp only [aO];exact ⟨_,_,rfl,by simp [ah,Value.oneCell'],rfl⟩,rfl⟩
theorem aaw (G:GH) (w0:World) (hG:Hold G w0) (e:Int):Calls Tryz.prog 122 #[vi e] w0 (aU w0 G fun u G'=>ah G' (.sl 1 ((bZ e).map fun k=>[li k])) u):=by
  refine eN [(0,_)] Tryz.func122 rfl Tryz.ntmps122 rfl rfl hG ?_;intro a H;refine kP H (SR fun _ K1=>Ra rfl (Kz K1 (SQ fun _ K2=>SR fun _ K3=>Rm rfl (Kz K3 (SB (SQ fun _ K4=>SR fun _ K5=>Rc rfl (Ra rfl (Kz K5 (Cd rfl ?_ ?_))))))))) <;> clear H K1 K3 K5
  · intro h4 a H
    try have p4:=dT h4
    refine kP H (Kc K4 (Ct rfl h4 (SR fun _ K6=>?_)));clear H K4;intro a H;refine fM qQ ak [_] [_] H wn rfl rfl rfl rfl rfl (by intro i q h;match i,h with|0,h=>exact h|n+1,h=>simp at h) rfl rfl ?_;clear H;intro b9 a w rH H;refine kH H (Ra rfl (Kz K6 ?_));clear H K6;intro a H;refine lr H Tryz.results122 rfl ?_
    first
      | exact H.hp.ret (by rw [bZ,if_neg (by omega),if_neg (by omega),if_neg (by omega),if_neg (by omega),if_neg (by omega),if_neg (by omega)];exact ah.gq rfl (by decide))
      | (obtain ⟨Gz,hmz,hbz,H⟩:=H.dB
         first
           | exact H.hp.ret (by rw [bZ,if_pos (by omega)];exact ah.dG (n:=1) (cap:=1) hbz rfl (Nat.le_refl _) (show 1≤maxLen by decide) rfl (dP _ [1]))
           | exact H.hp.ret (by rw [bZ,if_neg (by omega),if_pos (by omega)];exact ah.dG (n:=2) (cap:=2) hbz rfl (Nat.le_refl _) (show 2≤maxLen by decide) rfl (dP _ [1,2]))
           | exact H.hp.ret (by rw [bZ,if_neg (by omega),if_neg (by omega),if_pos (by omega)];exact ah.dG (n:=1) (cap:=1) hbz rfl (Nat.le_refl _) (show 1≤maxLen by decide) rfl (dP _ [3]))
           | exact H.hp.ret (by rw [bZ,if_neg (by omega),if_neg (by omega),if_neg (by omega),if_pos (by omega)];exact ah.dG (n:=1) (cap:=1) hbz rfl (Nat.le_refl _) (show 1≤maxLen by decide) rfl (dP _ [6]))
           | exact H.hp.ret (by rw [bZ,if_neg (by omega),if_neg (by omega),if_neg (by omega),if_neg (by omega),if_pos (by omega)];exact ah.dG (n:=1) (cap:=1) hbz rfl (Nat.le_refl _) (show 1≤maxLen by decide) rfl (dP _ [4]))
           | exact H.hp.ret (by rw [bZ,if_neg (by omega),if_neg (by omega),if_neg (by omega),if_neg (by omega),if_neg (by omega),if_pos (by omega)];exact ah.dG (n:=1) (cap:=1) hbz rfl (Nat.le_refl _) (show 1≤maxLen by decide) rfl (dP _ [5])))
  intro h4 a H
  try have p4:=dF h4
  refine kP H (SR fun _ K7=>Rc rfl (Ra rfl (Kz K7 (Cd rfl ?_ ?_)))) <;> clear H K7
  · intro h4 a H
    try have p4:=dT h4
    refine kP H (Kc K4 (Ct rfl h4 (SR fun _ K8=>?_)));clear H K4;intro a H;refine fM qQ ak [_] [_] H wn rfl rfl rfl rfl rfl (by intro i q h;match i,h with|0,h=>exact h|n+1,h=>simp at h) rfl rfl ?_;clear H;intro b9 a w rH H;refine kH H (Ra rfl (Kz K8 ?_));clear H K8;intro a H;refine lr H Tryz.results122 rfl ?_
    first
      | exact H.hp.ret (by rw [bZ,if_neg (by omega),if_neg (by omega),if_neg (by omega),if_neg (by omega),if_neg (by omega),if_neg (by omega)];exact ah.gq rfl (by decide))
      | (obtain ⟨Gz,hmz,hbz,H⟩:=H.dB
         first
           | exact H.hp.ret (by rw [bZ,if_pos (by omega)];exact ah.dG (n:=1) (cap:=1) hbz rfl (Nat.le_refl _) (show 1≤maxLen by decide) rfl (dP _ [1]))
           | exact H.hp.ret (by rw [bZ,if_neg (by omega),if_pos (by omega)];exact ah.dG (n:=2) (cap:=2) hbz rfl (Nat.le_refl _) (show 2≤maxLen by decide) rfl (dP _ [1,2]))
           | exact H.hp.ret (by rw [bZ,if_neg (by omega),if_neg (by omega),if_pos (by omega)];exact ah.dG (n:=1) (cap:=1) hbz rfl (Nat.le_refl _) (show 1≤maxLen by decide) rfl (dP _ [3]))
           | exact H.hp.ret (by rw [bZ,if_neg (by omega),if_neg (by omega),if_neg (by omega),if_pos (by omega)];exact ah.dG (n:=1) (cap:=1) hbz rfl (Nat.le_refl _) (show 1≤maxLen by decide) rfl (dP _ [6]))
           | exact H.hp.ret (by rw [bZ,if_neg (by omega),if_neg (by omega),if_neg (by omega),if_neg (by omega),if_pos (by omega)];exact ah.dG (n:=1) (cap:=1) hbz rfl (Nat.le_refl _) (show 1≤maxLen by decide) rfl (dP _ [4]))
           | exact H.hp.ret (by rw [bZ,if_neg (by omega),if_neg (by omega),if_neg (by omega),if_neg (by omega),if_neg (by omega),if_pos (by omega)];exact ah.dG (n:=1) (cap:=1) hbz rfl (Nat.le_refl _) (show 1≤maxLen by decide) rfl (dP _ [5])))
  intro h4 a H
  try have p4:=dF h4
  refine kP H (SR fun _ K9=>Rc rfl (Ra rfl (Kz K9 (Cd rfl ?_ ?_)))) <;> clear H K9
  · intro h4 a H
    try have p4:=dT h4
    refine kP H (Kc K4 (Ct rfl h4 (SR fun _ aH=>?_)));clear H K4;intro a H;refine fM qQ ak [_] [_] H wn rfl rfl rfl rfl rfl (by intro i q h;match i,h with|0,h=>exact h|n+1,h=>simp at h) rfl rfl ?_;clear H;intro b9 a w rH H;refine kH H (Ra rfl (Kz aH ?_));clear H aH;intro a H;refine lr H Tryz.results122 rfl ?_
    first
      | exact H.hp.ret (by rw [bZ,if_neg (by omega),if_neg (by omega),if_neg (by omega),if_neg (by omega),if_neg (by omega),if_neg (by omega)];exact ah.gq rfl (by decide))
      | (obtain ⟨Gz,hmz,hbz,H⟩:=H.dB
         first
           | exact H.hp.ret (by rw [bZ,if_pos (by omega)];exact ah.dG (n:=1) (cap:=1) hbz rfl (Nat.le_refl _) (show 1≤maxLen by decide) rfl (dP _ [1]))
           | exact H.hp.ret (by rw [bZ,if_neg (by omega),if_pos (by omega)];exact ah.dG (n:=2) (cap:=2) hbz rfl (Nat.le_refl _) (show 2≤maxLen by decide) rfl (dP _ [1,2]))
           | exact H.hp.ret (by rw [bZ,if_neg (by omega),if_neg (by omega),if_pos (by omega)];exact ah.dG (n:=1) (cap:=1) hbz rfl (Nat.le_refl _) (show 1≤maxLen by decide) rfl (dP _ [3]))
           | exact H.hp.ret (by rw [bZ,if_neg (by omega),if_neg (by omega),if_neg (by omega),if_pos (by omega)];exact ah.dG (n:=1) (cap:=1) hbz rfl (Nat.le_refl _) (show 1≤maxLen by decide) rfl (dP _ [6]))
           | exact H.hp.ret (by rw [bZ,if_neg (by omega),if_neg (by omega),if_neg (by omega),if_neg (by omega),if_pos (by omega)];exact ah.dG (n:=1) (cap:=1) hbz rfl (Nat.le_refl _) (show 1≤maxLen by decide) rfl (dP _ [4]))
           | exact H.hp.ret (by rw [bZ,if_neg (by omega),if_neg (by omega),if_neg (by omega),if_neg (by omega),if_neg (by omega),if_pos (by omega)];exact ah.dG (n:=1) (cap:=1) hbz rfl (Nat.le_refl _) (show 1≤maxLen by decide) rfl (dP _ [5])))
  intro h4 a H
  try have p4:=dF h4
  refine kP H (SC (Rc rfl (Ra rfl (Kn K4 (Cd rfl ?_ ?_))))) <;> clear H K4
  · intro h4 a H
    try have p4:=dT h4
    refine aY (fun _ aX=>?_);refine fM qQ ak [_] [_] H wn rfl rfl rfl rfl rfl (by intro i q h;match i,h with|0,h=>exact h|n+1,h=>simp at h) rfl rfl ?_;clear H;intro b9 a w rH H;refine kH H (Ra rfl (Kz aX ?_));clear H aX;intro a H;refine lr H Tryz.results122 rfl ?_
    first
      | exact H.hp.ret (by rw [bZ,if_neg (by omega),if_neg (by omega),if_neg (by omega),if_neg (by omega),if_neg (by omega),if_neg (by omega)];exact ah.gq rfl (by decide))
      | (obtain ⟨Gz,hmz,hbz,H⟩:=H.dB
         first
           | exact H.hp.ret (by rw [bZ,if_pos (by omega)];exact ah.dG (n:=1) (cap:=1) hbz rfl (Nat.le_refl _) (show 1≤maxLen by decide) rfl (dP _ [1]))
           | exact H.hp.ret (by rw [bZ,if_neg (by omega),if_pos (by omega)];exact ah.dG (n:=2) (cap:=2) hbz rfl (Nat.le_refl _) (show 2≤maxLen by decide) rfl (dP _ [1,2]))
           | exact H.hp.ret (by rw [bZ,if_neg (by omega),if_neg (by omega),if_pos (by omega)];exact ah.dG (n:=1) (cap:=1) hbz rfl (Nat.le_refl _) (show 1≤maxLen by decide) rfl (dP _ [3]))
           | exact H.hp.ret (by rw [bZ,if_neg (by omega),if_neg (by omega),if_neg (by omega),if_pos (by omega)];exact ah.dG (n:=1) (cap:=1) hbz rfl (Nat.le_refl _) (show 1≤maxLen by decide) rfl (dP _ [6]))
           | exact H.hp.ret (by rw [bZ,if_neg (by omega),if_neg (by omega),if_neg (by omega),if_neg (by omega),if_pos (by omega)];exact ah.dG (n:=1) (cap:=1) hbz rfl (Nat.le_refl _) (show 1≤maxLen by decide) rfl (dP _ [4]))
           | exact H.hp.ret (by rw [bZ,if_neg (by omega),if_neg (by omega),if_neg (by omega),if_neg (by omega),if_neg (by omega),if_pos (by omega)];exact ah.dG (n:=1) (cap:=1) hbz rfl (Nat.le_refl _) (show 1≤maxLen by decide) rfl (dP _ [5])))
  intro h4 a H
  try have p4:=dF h4
  refine kP H (SR fun _ bD=>Rc rfl (Ra rfl (Kz bD (Cd rfl ?_ ?_)))) <;> clear H bD
  · intro h10 a H
    try have r9:=dT h10
    refine aY (fun _ bH=>?_);refine fM qQ ak [_,_] [_,_] H wn rfl rfl rfl rfl rfl (by intro i q h;match i,h with|0,h=>exact h|1,h=>exact h|n+2,h=>simp at h) rfl rfl ?_;clear H;intro b12 a w BL H;refine kH H (Ra rfl (Kz bH ?_));clear H bH;intro a H;refine lr H Tryz.results122 rfl ?_
    first
      | exact H.hp.ret (by rw [bZ,if_neg (by omega),if_neg (by omega),if_neg (by omega),if_neg (by omega),if_neg (by omega),if_neg (by omega)];exact ah.gq rfl (by decide))
      | (obtain ⟨Gz,hmz,hbz,H⟩:=H.dB
         first
           | exact H.hp.ret (by rw [bZ,if_pos (by omega)];exact ah.dG (n:=1) (cap:=1) hbz rfl (Nat.le_refl _) (show 1≤maxLen by decide) rfl (dP _ [1]))
           | exact H.hp.ret (by rw [bZ,if_neg (by omega),if_pos (by omega)];exact ah.dG (n:=2) (cap:=2) hbz rfl (Nat.le_refl _) (show 2≤maxLen by decide) rfl (dP _ [1,2]))
           | exact H.hp.ret (by rw [bZ,if_neg (by omega),if_neg (by omega),if_pos (by omega)];exact ah.dG (n:=1) (cap:=1) hbz rfl (Nat.le_refl _) (show 1≤maxLen by decide) rfl (dP _ [3]))
           | exact H.hp.ret (by rw [bZ,if_neg (by omega),if_neg (by omega),if_neg (by omega),if_pos (by omega)];exact ah.dG (n:=1) (cap:=1) hbz rfl (Nat.le_refl _) (show 1≤maxLen by decide) rfl (dP _ [6]))
           | exact H.hp.ret (by rw [bZ,if_neg (by omega),if_neg (by omega),if_neg (by omega),if_neg (by omega),if_pos (by omega)];exact ah.dG (n:=1) (cap:=1) hbz rfl (Nat.le_refl _) (show 1≤maxLen by decide) rfl (dP _ [4]))
           | exact H.hp.ret (by rw [bZ,if_neg (by omega),if_neg (by omega),if_neg (by omega),if_neg (by omega),if_neg (by omega),if_pos (by omega)];exact ah.dG (n:=1) (cap:=1) hbz rfl (Nat.le_refl _) (show 1≤maxLen by decide) rfl (dP _ [5])))
  intro h10 a H
  try have r9:=dF h10
  refine kP H (SR fun _ bG=>Rc rfl (Ra rfl (Kz bG (Cd rfl ?_ ?_)))) <;> clear H bG
  · intro eO a H
    try have nM:=dT eO
    refine aY (fun _ bV=>?_);refine fM qQ ak [_] [_] H wn rfl rfl rfl rfl rfl (by intro i q h;match i,h with|0,h=>exact h|n+1,h=>simp at h) rfl rfl ?_;clear H;intro b15 a w GL H;refine kH H (Ra rfl (Kz bV ?_));clear H bV;intro a H;refine lr H Tryz.results122 rfl ?_
    first
      | exact H.hp.ret (by rw [bZ,if_neg (by omega),if_neg (by omega),if_neg (by omega),if_neg (by omega),if_neg (by omega),if_neg (by omega)];exact ah.gq rfl (by decide))
      | (obtain ⟨Gz,hmz,hbz,H⟩:=H.dB
         first
           | exact H.hp.ret (by rw [bZ,if_pos (by omega)];exact ah.dG (n:=1) (cap:=1) hbz rfl (Nat.le_refl _) (show 1≤maxLen by decide) rfl (dP _ [1]))
           | exact H.hp.ret (by rw [bZ,if_neg (by omega),if_pos (by omega)];exact ah.dG (n:=2) (cap:=2) hbz rfl (Nat.le_refl _) (show 2≤maxLen by decide) rfl (dP _ [1,2]))
           | exact H.hp.ret (by rw [bZ,if_neg (by omega),if_neg (by omega),if_pos (by omega)];exact ah.dG (n:=1) (cap:=1) hbz rfl (Nat.le_refl _) (show 1≤maxLen by decide) rfl (dP _ [3]))
           | exact H.hp.ret (by rw [bZ,if_neg (by omega),if_neg (by omega),if_neg (by omega),if_pos (by omega)];exact ah.dG (n:=1) (cap:=1) hbz rfl (Nat.le_refl _) (show 1≤maxLen by decide) rfl (dP _ [6]))
           | exact H.hp.ret (by rw [bZ,if_neg (by omega),if_neg (by omega),if_neg (by omega),if_neg (by omega),if_pos (by omega)];exact ah.dG (n:=1) (cap:=1) hbz rfl (Nat.le_refl _) (show 1≤maxLen by decide) rfl (dP _ [4]))
           | exact H.hp.ret (by rw [bZ,if_neg (by omega),if_neg (by omega),if_neg (by omega),if_neg (by omega),if_neg (by omega),if_pos (by omega)];exact ah.dG (n:=1) (cap:=1) hbz rfl (Nat.le_refl _) (show 1≤maxLen by decide) rfl (dP _ [5])))
  intro eO a H
  try have nM:=dF eO
  refine kP H (SR fun _ bQ=>Rc rfl (Ra rfl (Kz bQ (Cd rfl ?_ ?_)))) <;> clear H bQ
  · intro h16 a H
    try have p16:=dT h16
    refine aY (fun _ bS=>?_);refine fM qQ ak [_] [_] H wn rfl rfl rfl rfl rfl (by intro i q h;match i,h with|0,h=>exact h|n+1,h=>simp at h) rfl rfl ?_;clear H;intro b18 a w GN H;refine kH H (Ra rfl (Kz bS ?_));clear H bS;intro a H;refine lr H Tryz.results122 rfl ?_
    first
      | exact H.hp.ret (by rw [bZ,if_neg (by omega),if_neg (by omega),if_neg (by omega),if_neg (by omega),if_neg (by omega),if_neg (by omega)];exact ah.gq rfl (by decide))
      | (obtain ⟨Gz,hmz,hbz,H⟩:=H.dB
         first
           | exact H.hp.ret (by rw [bZ,if_pos (by omega)];exact ah.dG (n:=1) (cap:=1) hbz rfl (Nat.le_refl _) (show 1≤maxLen by decide) rfl (dP _ [1]))
           | exact H.hp.ret (by rw [bZ,if_neg (by omega),if_pos (by omega)];exact ah.dG (n:=2) (cap:=2) hbz rfl (Nat.le_refl _) (show 2≤maxLen by decide) rfl (dP _ [1,2]))
           | exact H.hp.ret (by rw [bZ,if_neg (by omega),if_neg (by omega),if_pos (by omega)];exact ah.dG (n:=1) (cap:=1) hbz rfl (Nat.le_refl _) (show 1≤maxLen by decide) rfl (dP _ [3]))
           | exact H.hp.ret (by rw [bZ,if_neg (by omega),if_neg (by omega),if_neg (by omega),if_pos (by omega)];exact ah.dG (n:=1) (cap:=1) hbz rfl (Nat.le_refl _) (show 1≤maxLen by decide) rfl (dP _ [6]))
           | exact H.hp.ret (by rw [bZ,if_neg (by omega),if_neg (by omega),if_neg (by omega),if_neg (by omega),if_pos (by omega)];exact ah.dG (n:=1) (cap:=1) hbz rfl (Nat.le_refl _) (show 1≤maxLen by decide) rfl (dP _ [4]))
           | exact H.hp.ret (by rw [bZ,if_neg (by omega),if_neg (by omega),if_neg (by omega),if_neg (by omega),if_neg (by omega),if_pos (by omega)];exact ah.dG (n:=1) (cap:=1) hbz rfl (Nat.le_refl _) (show 1≤maxLen by decide) rfl (dP _ [5])))
  intro h16 a H
  try have p16:=dF h16
  refine kP H (SR fun _ cO=>Rc rfl (Ra rfl (Kz cO (Cd rfl ?_ ?_)))) <;> clear H cO
  · intro h19 a H
    try have j6:=dT h19
    refine aY (fun _ dV=>?_);refine fM qQ ak [_] [_] H wn rfl rfl rfl rfl rfl (by intro i q h;match i,h with|0,h=>exact h|n+1,h=>simp at h) rfl rfl ?_;clear H;intro b21 a w af3 H;refine kH H (Ra rfl (Kz dV ?_));clear H dV;intro a H;refine lr H Tryz.results122 rfl ?_
    first
      | exact H.hp.ret (by rw [bZ,if_neg (by omega),if_neg (by omega),if_neg (by omega),if_neg (by omega),if_neg (by omega),if_neg (by omega)];exact ah.gq rfl (by decide))
      | (obtain ⟨Gz,hmz,hbz,H⟩:=H.dB
         first
           | exact H.hp.ret (by rw [bZ,if_pos (by omega)];exact ah.dG (n:=1) (cap:=1) hbz rfl (Nat.le_refl _) (show 1≤maxLen by decide) rfl (dP _ [1]))
           | exact H.hp.ret (by rw [bZ,if_neg (by omega),if_pos (by omega)];exact ah.dG (n:=2) (cap:=2) hbz rfl (Nat.le_refl _) (show 2≤maxLen by decide) rfl (dP _ [1,2]))
           | exact H.hp.ret (by rw [bZ,if_neg (by omega),if_neg (by omega),if_pos (by omega)];exact ah.dG (n:=1) (cap:=1) hbz rfl (Nat.le_refl _) (show 1≤maxLen by decide) rfl (dP _ [3]))
           | exact H.hp.ret (by rw [bZ,if_neg (by omega),if_neg (by omega),if_neg (by omega),if_pos (by omega)];exact ah.dG (n:=1) (cap:=1) hbz rfl (Nat.le_refl _) (show 1≤maxLen by decide) rfl (dP _ [6]))
           | exact H.hp.ret (by rw [bZ,if_neg (by omega),if_neg (by omega),if_neg (by omega),if_neg (by omega),if_pos (by omega)];exact ah.dG (n:=1) (cap:=1) hbz rfl (Nat.le_refl _) (show 1≤maxLen by decide) rfl (dP _ [4]))
           | exact H.hp.ret (by rw [bZ,if_neg (by omega),if_neg (by omega),if_neg (by omega),if_neg (by omega),if_neg (by omega),if_pos (by omega)];exact ah.dG (n:=1) (cap:=1) hbz rfl (Nat.le_refl _) (show 1≤maxLen by decide) rfl (dP _ [5])))
  intro h19 a H
  try have j6:=dF h19
  refine kP H (SR fun _ dI=>Rc rfl (Ra rfl (Kz dI (Cd rfl ?_ ?_)))) <;> clear H dI
  · intro h22 a H
    try have gP:=dT h22
    refine aY (fun _ eH=>?_);refine fM qQ ak [_] [_] H wn rfl rfl rfl rfl rfl (by intro i q h;match i,h with|0,h=>exact h|n+1,h=>simp at h) rfl rfl ?_;clear H;intro VZ a w aaT H;refine kH H (Ra rfl (Kz eH ?_));clear H eH;intro a H;refine lr H Tryz.results122 rfl ?_
    first
      | exact H.hp.ret (by rw [bZ,if_neg (by omega),if_neg (by omega),if_neg (by omega),if_neg (by omega),if_neg (by omega),if_neg (by omega)];exact ah.gq rfl (by decide))
      | (obtain ⟨Gz,hmz,hbz,H⟩:=H.dB
         first
           | exact H.hp.ret (by rw [bZ,if_pos (by omega)];exact ah.dG (n:=1) (cap:=1) hbz rfl (Nat.le_refl _) (show 1≤maxLen by decide) rfl (dP _ [1]))
           | exact H.hp.ret (by rw [bZ,if_neg (by omega),if_pos (by omega)];exact ah.dG (n:=2) (cap:=2) hbz rfl (Nat.le_refl _) (show 2≤maxLen by decide) rfl (dP _ [1,2]))
           | exact H.hp.ret (by rw [bZ,if_neg (by omega),if_neg (by omega),if_pos (by omega)];exact ah.dG (n:=1) (cap:=1) hbz rfl (Nat.le_refl _) (show 1≤maxLen by decide) rfl (dP _ [3]))
           | exact H.hp.ret (by rw [bZ,if_neg (by omega),if_neg (by omega),if_neg (by omega),if_pos (by omega)];exact ah.dG (n:=1) (cap:=1) hbz rfl (Nat.le_refl _) (show 1≤maxLen by decide) rfl (dP _ [6]))
           | exact H.hp.ret (by rw [bZ,if_neg (by omega),if_neg (by omega),if_neg (by omega),if_neg (by omega),if_pos (by omega)];exact ah.dG (n:=1) (cap:=1) hbz rfl (Nat.le_refl _) (show 1≤maxLen by decide) rfl (dP _ [4]))
           | exact H.hp.ret (by rw [bZ,if_neg (by omega),if_neg (by omega),if_neg (by omega),if_neg (by omega),if_neg (by omega),if_pos (by omega)];exact ah.dG (n:=1) (cap:=1) hbz rfl (Nat.le_refl _) (show 1≤maxLen by decide) rfl (dP _ [5])))
  intro h22 a H
  try have gP:=dF h22
  refine kP H (Kc K2 (SR fun _ fq=>Ra rfl (Kz fq ?_)));clear H K2 fq;intro a H;refine lr H Tryz.results122 rfl ?_
  first
    | exact H.hp.ret (by rw [bZ,if_neg (by omega),if_neg (by omega),if_neg (by omega),if_neg (by omega),if_neg (by omega),if_neg (by omega)];exact ah.gq rfl (by decide))
    | (obtain ⟨Gz,hmz,hbz,H⟩:=H.dB
       first
         | exact H.hp.ret (by rw [bZ,if_pos (by omega)];exact ah.dG (n:=1) (cap:=1) hbz rfl (Nat.le_refl _) (show 1≤maxLen by decide) rfl (dP _ [1]))
         | exact H.hp.ret (by rw [bZ,if_neg (by omega),if_pos (by omega)];exact ah.dG (n:=2) (cap:=2) hbz rfl (Nat.le_refl _) (show 2≤maxLen by decide) rfl (dP _ [1,2]))
         | exact H.hp.ret (by rw [bZ,if_neg (by omega),if_neg (by omega),if_pos (by omega)];exact ah.dG (n:=1) (cap:=1) hbz rfl (Nat.le_refl _) (show 1≤maxLen by decide) rfl (dP _ [3]))
         | exact H.hp.ret (by rw [bZ,if_neg (by omega),if_neg (by omega),if_neg (by omega),if_pos (by omega)];exact ah.dG (n:=1) (cap:=1) hbz rfl (Nat.le_refl _) (show 1≤maxLen by decide) rfl (dP _ [6]))
         | exact H.hp.ret (by rw [bZ,if_neg (by omega),if_neg (by omega),if_neg (by omega),if_neg (by omega),if_pos (by omega)];exact ah.dG (n:=1) (cap:=1) hbz rfl (Nat.le_refl _) (show 1≤maxLen by decide) rfl (dP _ [4]))
         | exact H.hp.ret (by rw [bZ,if_neg (by omega),if_neg (by omega),if_neg (by omega),if_neg (by omega),if_neg (by omega),if_pos (by omega)];exact ah.dG (n:=1) (cap:=1) hbz rfl (Nat.le_refl _) (show 1≤maxLen by decide) rfl (dP _ [5])))
/-- Whether a number is in a list. -/
theorem ab7 {G:GH} {l:List Int} {A:Option Addr} {n c k:Nat} (hv:ah G (.sl 1 (l.map fun k=>[li k])) (.slice A n c)) (hk:k < l.length):∃ b o,A=some ⟨b,o,none⟩∧aB G b (o+k*1)=some (vi l[k]):=by
 obtain ⟨A',c',he,_,_,hg⟩:=hv.slice
 injection he with e1 e2 e3
 subst e1;obtain ⟨b,o,cs,h1,h2,h3,h4⟩:=hg k [li l[k]] (by simp [hk])
 simp only [aO,ah] at h4
 obtain ⟨v1,_,rfl,⟨rfl,-⟩,rfl⟩:=h4;exact ⟨b,o,h1,h3 0 _ rfl⟩
theorem ab4 (G:GH) (w0:World) (hG:Hold G w0) (l:List Int) (t:Int) (v:Value) (hv:ah G (.sl 1 (l.map fun k=>[li k])) v) :
  Calls Tryz.prog 133 #[v,vi t] w0 (aU w0 G fun u G'=>u=vi (kN (l.findIdx? fun x=>decide (t=x)))):=by
 obtain ⟨A,c,rfl,hc1,hc2,-⟩:=hv.slice;have hml:maxLen=9223372036854775807:=rfl;rw [List.length_map] at *;refine eN [(0,_),(1,_)] Tryz.func133 rfl Tryz.ntmps133 rfl rfl hG ?_;intro a H;refine kP H (SR fun _ K1=>Ra rfl (Kz K1 (SQ fun _ K2=>SR fun _ K3=>Rm rfl (Rl qQ rfl (Rm rfl (Kz K3 (SB ?_)))))));clear H K1 K3;intro a H;skip;refine d9 (ι:=Nat) (Tc:=[(0,_),(1,_),(7,_)]) (Lc:=[]) (fun (gh:Nat)=>[(8,vi gh)]) (fun (gh:Nat)=>[]) (fun (gh:Nat)=>G) (fun (gh:Nat)=>gh≤l.length∧(l.take gh).findIdx? (fun x=>decide (t=x))=none) (fun (gh:Nat)=>l.length - gh) (0) (by exact (H).sub ⟨rfl,rfl,rfl,rfl,trivial⟩) ?_ ?_
 ·exact ⟨Nat.zero_le _,rfl⟩
 clear H;intro gh a w hI H;obtain ⟨k,hgh⟩:∃ x,x=gh:=⟨_,rfl⟩;subst hgh;obtain ⟨hk,hno⟩:=hI;dsimp only [List.cons_append,List.nil_append,List.append_nil] at H;refine kP H (SR fun _ K4=>Rc rfl (Kz K4 (SQ fun _ K5=>Cd rfl ?_ ?_))) <;> clear H K4
 ·intro h9 a H
  try have p9:=dT h9
  have hk2:k < l.length:=by omega
  obtain ⟨b,o,rfl,hrow⟩:=ab7 hv hk2;refine kP H (Kc K5 (SQ fun _ K6=>SB (SR fun _ K7=>Rm rfl (Ra rfl (Kz K7 (SR fun _ K8=>Rm rfl (Rm rfl (Rm rfl (Ri qQ ak rfl rfl (Rg ak rfl (by assumption) ?_))))))))));clear H K5 K7;intro a H;refine kH H (Rc rfl (Kz K8 (Cd rfl ?_ ?_))) <;> clear H K8
  ·intro h16 a H
   try have p16:=dT h16
   exact kP H (SR fun _ K9=>Rm rfl (Ra rfl (Kz K9 (LR Tryz.results133 rfl fun H=>H.hp.ret (by rw [qK hk2 hno (by simpa using p16)];rfl)))))
  intro h16 a H
  try have p16:=dF h16
  refine kP H (Kc K6 (SC (Rd rfl (Rm rfl ?_))));clear H K6;intro a H;refine au ?_;refine dD ((k+1)) (by exact (H).sub ⟨rfl,rfl,rfl,rfl,trivial⟩) ?_ ?_
  ·exact ⟨by omega,yZ hk2 hno (by simpa using p16)⟩
  first|omega|(dsimp only;omega)
 intro h9 a H
 try have p9:=dF h9
 refine dL ?_;refine K2 _ _ ?_;clear K2;exact kP H (SR fun _ aH=>Ra rfl (Kz aH (LR Tryz.results133 rfl fun H=>H.hp.ret (by rw [show l.take k=l from List.take_of_length_le (by omega)] at hno;rw [hno];rfl))))
theorem XA (G:GH) (w0:World) (hG:Hold G w0) (l:List Int) (t:Int) (v:Value) (hv:ah G (.sl 1 (l.map fun k=>[li k])) v) :
  Calls Tryz.prog 121 #[v,vi t] w0 (aU w0 G fun u G'=>u=.bool (decide (t∈l))):=by
 obtain ⟨A,c,rfl,hc1,hc2,-⟩:=hv.slice;rw [List.length_map] at *;refine eN [(0,_),(1,_)] Tryz.func121 rfl Tryz.ntmps121 rfl rfl hG ?_;intro a H;refine kP H (SR fun _ K1=>Ra rfl (Kz K1 (SR fun _ K2=>Rm rfl (Rm rfl ?_))));clear H K1;intro a H;refine s_call Yv H wn rfl (ab4 _ _ H.hp.ro l t _ hv) rfl ?_;clear H;rintro v7 G7 a w rfl xC H;refine kH H (Rc rfl (Ra rfl (Kz K2 ?_)));clear H K2;intro a H;refine lr H Tryz.results121 rfl ?_
 exact H.hp.ret (by
  congr 1
  cases h:l.findIdx? (fun x=>decide (t=x)) with
  | none =>
   rw [List.findIdx?_eq_none_iff] at h;have:t∉l:=fun hm=>absurd (h t hm) (by simp)
   simp [kN,this]
  | some i =>
   obtain ⟨hi,he,-⟩:=List.findIdx?_eq_some_iff_getElem.1 h
   have:t∈l:=by rw [of_decide_eq_true he];exact List.getElem_mem _
   simp [kN,this])
/-- Whether elements of a kind have a key. -/
def vO (e k:Int):Bool:=(jK k).2 && decide ((jK k).1.vP∈bZ e)
theorem QF (G:GH) (w0:World) (hG:Hold G w0) (e k:Int):Calls Tryz.prog 99 #[vi e,vi k] w0 (aU w0 G fun u G'=>u=.bool (vO e k)):=by
 refine eN [(0,_),(1,_)] Tryz.func99 rfl Tryz.ntmps99 rfl rfl hG ?_;intro a H;refine kP H (SR fun _ K1=>Ra rfl (Kz K1 (SR fun _ K2=>Rm rfl ?_)));clear H K1;intro a H;refine s_call PO H wn rfl (find_spec _ _ H.hp.ro k) rfl ?_;clear H;rintro v9 G9 a w rfl yT H;dsimp only [iG.cells] at H;refine kH H (Rm rfl ?_);clear H;intro a H;(iterate 2 refine gV H wn rfl rfl rfl ?_;clear H;intro a H);refine bX pE H wn rfl ?_;clear H;intro b5 a w hb5 H;refine aP pE 0 (vs:=[_,_,_,_,_,_]) _ H wn rfl rfl rfl rfl rfl rfl rfl rfl ?_;clear H;intro w H;dsimp only [List.set,setRow] at H;refine kH H (Ra rfl (Kz K2 (SQ fun _ K3=>?_)));clear H K2;intro a H
 by_cases c0:(jK k).2=true
 ·skip
  have lQ:∀ (aC:Nat) (v:Value) (G G':GH),(∀ k o,G k=some o→G' k=some o)→(fun (aC:Nat) (v:Value) (G:GH)=>match aC with|0=>v=.bool (jK k).2|1=>v=.bool (decide ((jK k).2=true))|2=>v=vi e|3=>(jK k).2=true→ah G (.sl 1 ((bZ e).map fun k=>[li k])) v|4=>v=.pointer (some ⟨b5,1,none⟩)|5=>v=vi (jK k).1.vP|6=>v=.bool (decide ((jK k).1.vP∈bZ e))|7=>v=.bool (vO e k)|_=>True) aC v G→(fun (aC:Nat) (v:Value) (G:GH)=>match aC with|0=>v=.bool (jK k).2|1=>v=.bool (decide ((jK k).2=true))|2=>v=vi e|3=>(jK k).2=true→ah G (.sl 1 ((bZ e).map fun k=>[li k])) v|4=>v=.pointer (some ⟨b5,1,none⟩)|5=>v=vi (jK k).1.vP|6=>v=.bool (decide ((jK k).1.vP∈bZ e))|7=>v=.bool (vO e k)|_=>True) aC v G':=by
   intro aC v G G' hm h
   match aC,h with
   | 0,h=>exact h
   | 1,h=>exact h
   | 2,h=>exact h
   | 3,h=>exact fun hf=>(h hf).mono hm
   | 4,h=>exact h
   | 5,h=>exact h
   | 6,h=>exact h
   | 7,h=>exact h
   | 8,h=>exact trivial
   | _+9,h=>exact trivial
  refine dz (hmx) [[],[0],[0,1],[0,1,2],[0,1],[0,1,4],[0,1,2,3,4,5],(List.range 7),(List.range 8)] [8] (by kernel_rfl) (by kernel_rfl) (fun (aC:Nat) (v:Value) (G:GH)=>match aC with|0=>v=.bool (jK k).2|1=>v=.bool (decide ((jK k).2=true))|2=>v=vi e|3=>(jK k).2=true→ah G (.sl 1 ((bZ e).map fun k=>[li k])) v|4=>v=.pointer (some ⟨b5,1,none⟩)|5=>v=vi (jK k).1.vP|6=>v=.bool (decide ((jK k).1.vP∈bZ e))|7=>v=.bool (vO e k)|_=>True) lQ H ?_ ?_
  ·clear H;refine av ?_ ?_ ?_ ?_ (av ?_ ?_ ?_ ?_ (bq (aT rfl) dh))
   ·refine dx [] rfl trivial (by kernel_rfl) lQ rfl rfl ?_;intro bC a w G1 hG HT H fin;exact kH H (Rm rfl fun _ H=>fin H iJ rfl)
   ·refine dx [(0,12,_)] rfl ⟨fun _ _ h=>h,trivial⟩ (by kernel_rfl) lQ rfl rfl ?_;intro bC a w G1 hG HT H fin;refine kH H (Rm rfl ?_);clear H;intro a H;exact fin H iJ (by simp)
   ·refine dx [(1,13,_)] rfl ⟨fun _ _ h=>h,trivial⟩ (by kernel_rfl) lQ rfl rfl ?_;intro bC a w G1 hG HT H fin;exact kH H (YM (ay c0) rfl fun _ H=>fin H iJ rfl)
   ·refine dx [(2,14,_),(1,13,_)] rfl ⟨fun _ _ h=>h,fun _ _ h=>h,trivial⟩ (by kernel_rfl) lQ rfl rfl ?_;intro bC a w G1 hG HT H fin;refine s_call Yj H (wg H rfl rfl (ay c0)) rfl (aaw _ _ H.hp.ro e) rfl ?_;clear H;rintro v15 zy a w yX zX H;exact fin H zX (by first|exact fun _=>yX|rfl)
   ·refine dx [(1,13,_)] rfl ⟨fun _ _ h=>h,trivial⟩ (by kernel_rfl) lQ rfl rfl ?_;intro bC a w G1 hG HT H fin;exact kH H (YF Z8 (ay c0) rfl fun _ H=>fin H iJ rfl)
   ·refine dx [(4,16,_),(1,13,_)] rfl ⟨fun _ _ h=>h,fun _ _ h=>h,trivial⟩ (by kernel_rfl) lQ rfl rfl ?_;intro bC a w G1 hG HT H fin;exact kH H (YO ak 0 (ay c0) rfl rfl fun _ H=>fin H iJ rfl)
   ·intro bC a w G1 _ aZ hc hG HT hv;have H:=HT;clear aZ;obtain ⟨u15,abP,yX⟩:=hv 3 15 (hc 3 (by decide)) rfl;(try dsimp only at yX);have H:=H.kr abP;have H:=H.aM (hv 5 17 (hc 5 (by decide)) rfl) rfl;have H:=H.aM (hv 1 13 (hc 1 (by decide)) rfl) rfl;have Hb:=H.full;have H:=Hb;clear hc;refine s_call Yi H (wg H rfl rfl (ay c0)) rfl (XA _ _ H.hp.ro _ _ _ (yX c0)) rfl ?_;clear H;rintro v18 Jc a w rfl aaz H;refine au ⟨rfl,?_⟩;exact iH (by kernel_rfl) lQ rfl rfl HT Hb hG hv aaz (rfl) H
   refine dx [(1,13,_),(6,18,_)] rfl ⟨fun _ _ h=>h,fun _ _ h=>h,trivial⟩ (by kernel_rfl) lQ rfl rfl ?_;intro bC a w G1 hG HT H fin;refine kH H (Pt (ay c0) rfl ?_);clear H;intro a H;exact fin H iJ (by unfold vO;simp_all)
  clear H;intro a w G wW H hv;have H:=H.aM (hv 7 19 rfl rfl) rfl;clear hv;refine kH H (Ra rfl ?_);clear H;intro a H;refine au ⟨rfl,?_⟩;refine K3 _ _ ?_;clear K3;refine lr H Tryz.results99 rfl ?_;exact H.hp.ret rfl
 skip;refine dz (hmx) [[],[0],[0,1],[0,1,2],[0,1],[0,1,4],[0,1,2,3,4,5],(List.range 7),(List.range 8)] [8] (by kernel_rfl) (by kernel_rfl) (fun (aC:Nat) (v:Value) (G:GH)=>match aC with|0=>v=.bool (jK k).2|1=>v=.bool (decide ((jK k).2=true))|2=>v=undef|3=>v=undef|4=>v=undef|5=>v=undef|6=>v=undef|7=>v=.bool (vO e k)|_=>True) (fun _ _ _ _ _ h=>h) H ?_ ?_
 ·clear H;refine av (Z0 rfl (Rm rfl)) ?_ (aV (j:=1) (by kernel_rfl) (fun _ _ _ _ _ h=>h) rfl rfl rfl rfl rfl (fun _ _ h=>Eq.trans h (congrArg Value.bool (aL c0))) rfl (fun _=>rfl)) ?_ (av (aV (j:=1) (by kernel_rfl) (fun _ _ _ _ _ h=>h) rfl rfl rfl rfl rfl (fun _ _ h=>Eq.trans h (congrArg Value.bool (aL c0))) rfl (fun _=>rfl)) (aV (j:=1) (by kernel_rfl) (fun _ _ _ _ _ h=>h) rfl rfl rfl rfl rfl (fun _ _ h=>Eq.trans h (congrArg Value.bool (aL c0))) rfl (fun _=>rfl)) (aV (j:=1) (by kernel_rfl) (fun _ _ _ _ _ h=>h) rfl rfl rfl rfl rfl (fun _ _ h=>Eq.trans h (congrArg Value.bool (aL c0))) rfl (fun _=>rfl)) ?_ (bq (aT rfl) dh))
  ·refine dS 0 12 rfl rfl fun _ a w G1 hG HT H fin=>?_;refine kH H (Rm rfl ?_);clear H;intro a H;exact fin H iJ (by simp)
  ·intro bC a w G1 _ aZ hc hG HT hv;have H:=HT;clear aZ;have H:=H.aM (hv 2 14 (hc 2 (by decide)) rfl) rfl;have H:=H.aM (hv 1 13 (hc 1 (by decide)) rfl) rfl;have Hb:=H.full;have H:=Hb;clear hc;refine kH H (Ks (aL c0) rfl ?_);clear H;intro a H;refine au ⟨rfl,?_⟩;exact iH (by kernel_rfl) (fun _ _ _ _ _ h=>h) rfl rfl HT Hb hG hv (fun _ _ h=>h) (by first|exact fun _=>yX|rfl) H
  refine dK 1 13 6 18 rfl rfl fun _ a w G1 hG HT H fin=>?_;refine kH H (Pf (aL c0) rfl ?_);clear H;intro a H;exact fin H iJ (by unfold vO;simp_all)
 clear H;intro a w G wW H hv;have H:=H.aM (hv 7 19 rfl rfl) rfl;clear hv;refine kH H (Ra rfl ?_);clear H;intro a H;refine au ⟨rfl,?_⟩;refine K3 _ _ ?_;clear K3;refine lr H Tryz.results99 rfl ?_;exact H.hp.ret rfl
/-- The error of a value of a key. -/
def qy (k v:Int):Int:=if (jK k).2=false then 4 else if v < (jK k).1.low∨(jK k).1.high < v then 5 else 0
theorem JE (G:GH) (w0:World) (hG:Hold G w0) (k x:Int):Calls Tryz.prog 100 #[vi k,vi x] w0 (aU w0 G fun u G'=>u=vi (qy k x)):=by
 refine eN [(0,_),(1,_)] Tryz.func100 rfl Tryz.ntmps100 rfl rfl hG ?_;intro a H;refine kP H (SR fun _ K1=>Ra rfl (Kz K1 (SR fun _ K2=>Rm rfl ?_)));clear H K1;intro a H;refine s_call PO H wn rfl (find_spec _ _ H.hp.ro k) rfl ?_;clear H;rintro v9 G9 a w rfl yT H;dsimp only [iG.cells] at H;refine kH H (Rm rfl ?_);clear H;intro a H;(iterate 2 refine gV H wn rfl rfl rfl ?_;clear H;intro a H);refine bX pE H wn rfl ?_;clear H;intro b5 a w hb5 H;refine aP pE 0 (vs:=[_,_,_,_,_,_]) _ H wn rfl rfl rfl rfl rfl rfl rfl rfl ?_;clear H;intro w H;dsimp only [List.set,setRow] at H;refine kH H (Ra rfl (Kz K2 (SQ fun _ K3=>SB (SR fun _ K4=>Rm rfl (Rn rfl (Ra rfl (Kz K4 (Cd rfl ?_ ?_)))))))) <;> clear H K2 K4
 ·intro h12 a H
  try have oz:=dT h12
  exact kP H (SR fun _ K5=>Ra rfl (Kz K5 (LR Tryz.results100 rfl fun H=>H.hp.ret (by unfold qy;simp_all))))
 intro h12 a H
 try have oz:=dF h12
 refine kP H (SR fun _ K6=>Rm rfl (Rf Z9 rfl (Ro ak 0 rfl rfl (Rc rfl (Rm rfl (Sp 20 rfl ?_ ?_)))))) <;> clear H
 ·intro h20 a H
  try have mq:=dT h20
  exact kH H (Ks h20 rfl (Ks h20 rfl (Ks h20 rfl (Ks h20 rfl (Pt h20 rfl (Ra rfl (Kz K6 (Ct rfl rfl (SR fun _ K7=>Ra rfl (Kz K7 (LR Tryz.results100 rfl fun H=>H.hp.ret (by unfold qy;simp_all))))))))))))
 intro h20 a H
 try have mq:=dF h20
 refine kH H (YM h20 rfl (YF aac h20 rfl (YO ak 0 h20 rfl rfl (YC h20 rfl (Pf h20 rfl (Ra rfl (Kz K6 (Cd rfl ?_ ?_)))))))) <;> clear H K6
 ·intro iM a H
  try have kQ:=dT iM
  exact kP H (SR fun _ K8=>Ra rfl (Kz K8 (LR Tryz.results100 rfl fun H=>H.hp.ret (by unfold qy;simp_all))))
 intro iM a H
 try have kQ:=dF iM
 exact kP H (Kc K3 (SR fun _ K9=>Ra rfl (Kz K9 (LR Tryz.results100 rfl fun H=>H.hp.ret (by unfold qy;simp_all)))))
end
section
open Go.RowKit
theorem qZ:bO Tryz.prog 147 0 0:=⟨by kernel_rfl⟩
theorem Qc:∀ args w,(callFunc 99 args).run Tryz.prog w=.ok (.enter 99 args) w:=enters Tryz.func99 rfl (by kernel_rfl)
theorem Qo:bO Tryz.prog 147 1 1:=⟨by kernel_rfl⟩
theorem JV:∀ args w,(callFunc 100 args).run Tryz.prog w=.ok (.enter 100 args) w:=enters Tryz.func100 rfl (by kernel_rfl)
def Cb (q:Option Int) (k:Int):Bool:=match q with|some j=>decide (k < j)|none=>false
/-- The first error of the properties of an element behind a key. -/
def wM (e:Int):Option Int→List iC→Int
 | _,[]=>0
 | q,p :: r=>if vO e p.key=false then 4 else if q=some p.key then 7 else if Cb q p.key=true then 6 else if qy p.key p.value=0 then wM e (some p.key) r else qy p.key p.value
def uO (l:List iC) (k:Nat):Option Int:=if k=0 then none else l[k - 1]?.map iC.key
def fD (e:Int) (l:List iC):Int:=if e < 1∨10 < e then 3 else wM e none l
theorem Xe {e:Int} {l:List iC} {k:Nat} (h:k < l.length):wM e (uO l k) (l.drop k)=if vO e l[k].key=false then 4 else if uO l k=some l[k].key then 7 else if Cb (uO l k) l[k].key=true then 6 else if qy l[k].key l[k].value=0 then wM e (uO l (k+1)) (l.drop (k+1)) else qy l[k].key l[k].value:=by
 rw [List.drop_eq_getElem_cons h,wM]
 have:uO l (k+1)=some l[k].key:=by rw [uO,if_neg (by omega),Nat.add_sub_cancel,List.getElem?_eq_getElem h];rfl
 rw [this]
theorem Ij {l:List iC} {k:Nat} (h:k=0):uO l k=none:=if_pos h
theorem TF (G:GH) (w0:World) (hG:Hold G w0) (e:Int) (l:List iC) (v:Value) (hv:ah G (.sl 2 (l.map iC.dat)) v) :
  Calls Tryz.prog 69 #[vi e,v] w0 (aU w0 G fun u G'=>u=vi (fD e l)):=by
 obtain ⟨A,c,rfl,hc1,hc2,-⟩:=hv.slice;have hml:maxLen=9223372036854775807:=rfl;rw [List.length_map] at *;refine eN [(0,_),(1,_)] Tryz.func69 rfl Tryz.ntmps69 rfl rfl hG ?_;intro a H;refine kP H (SR fun _ K1=>Ra rfl (Kz K1 (SQ fun _ K2=>SR fun _ K3=>Rm rfl (Rc rfl (Rm rfl (Sp 10 rfl ?_ ?_)))))) <;> clear H K1
 ·intro h10 a H
  try have r9:=dT h10
  refine kH H (Ks h10 rfl (Ks h10 rfl (Pt h10 rfl (Kz K3 (Ct rfl rfl (SR fun _ K4=>Ra rfl (Kz K4 ?_)))))));clear H K3 K4;intro a H;refine lr H Tryz.results69 rfl ?_
  first
   | exact H.hp.ret (congrArg vi (by rw [if_neg (by simpa using p61)] at heq;rw [fD,if_neg (by omega)];exact heq))
   | exact H.hp.ret (congrArg vi (by rw [if_pos (by simpa using h21)] at heq;rw [fD,if_neg (by omega)];exact heq))
   | exact H.hp.ret (congrArg vi (by rw [fD,if_neg (by omega)];exact heq))
   | exact H.hp.ret (congrArg vi (by rw [fD,if_neg (by omega),← heq,show l.drop k=[] from List.drop_of_length_le (by omega)];rfl))
   | exact H.hp.ret (congrArg vi (by rw [fD,if_pos (by omega)]))
 intro h10 a H
 try have r9:=dF h10
 refine kH H (YM h10 rfl (YC h10 rfl (Pf h10 rfl (Kz K3 (Cd rfl ?_ ?_))))) <;> clear H K3
 ·intro eO a H
  try have nM:=dT eO
  refine kP H (SR fun _ K5=>Ra rfl (Kz K5 ?_));clear H K5;intro a H;refine lr H Tryz.results69 rfl ?_
  first
   | exact H.hp.ret (congrArg vi (by rw [if_neg (by simpa using p61)] at heq;rw [fD,if_neg (by omega)];exact heq))
   | exact H.hp.ret (congrArg vi (by rw [if_pos (by simpa using h21)] at heq;rw [fD,if_neg (by omega)];exact heq))
   | exact H.hp.ret (congrArg vi (by rw [fD,if_neg (by omega)];exact heq))
   | exact H.hp.ret (congrArg vi (by rw [fD,if_neg (by omega),← heq,show l.drop k=[] from List.drop_of_length_le (by omega)];rfl))
   | exact H.hp.ret (congrArg vi (by rw [fD,if_pos (by omega)]))
 intro eO a H
 try have nM:=dF eO
 refine kP H (Kc K2 (SQ fun _ K6=>SR fun _ K7=>Rm rfl (Rl qP rfl (Rm rfl (Kz K7 (SB ?_))))));clear H K2 K7;intro a H;skip;refine d9 (ι:=Nat × GH) (Tc:=[(0,_),(1,_),(14,_),(15,_)]) (Lc:=[]) (fun (gh:Nat × GH)=>[(16,vi gh.1)]) (fun (gh:Nat × GH)=>[]) (fun (gh:Nat × GH)=>gh.2) (fun (gh:Nat × GH)=>gh.1≤l.length∧wM e (uO l gh.1) (l.drop gh.1)=wM e none l∧(∀ b o,G b=some o→gh.2 b=some o)) (fun (gh:Nat × GH)=>l.length - gh.1) ((0,G)) (by exact (H).sub ⟨rfl,rfl,rfl,rfl,rfl,trivial⟩) ?_ ?_
 ·exact ⟨Nat.zero_le _,rfl,fun _ _ h=>h⟩
 clear H;intro gh a w hI H;obtain ⟨k,g⟩:=gh;dsimp only at hI H;obtain ⟨hk,heq,hgm⟩:=hI;dsimp only [List.cons_append,List.nil_append,List.append_nil] at H;refine kP H (SR fun _ K8=>Rc rfl (Kz K8 (SQ fun _ K9=>Cd rfl ?_ ?_))) <;> clear H K8
 ·intro bT a H
  try have jy:=dT bT
  have hk2:k < l.length:=by omega
  have Ab:=hv.mono hgm;obtain ⟨b,o,rfl,hrow⟩:=Il Ab hk2
  obtain ⟨pk,hpk⟩:∃ pk,0 < k→aB g b (o+(k - 1)*2+0)=some (vi pk)∧uO l k=some pk:=by
   by_cases h0:0 < k
   ·obtain ⟨b',o',he,hr'⟩:=Il Ab (show k - 1 < l.length by omega)
    injection he with he
    injection he with e1 e2 e3
    subst e1;subst e2;exact ⟨_,fun _=>⟨hr' 0 _ rfl,by rw [uO,if_neg (by omega),List.getElem?_eq_getElem (by omega)];rfl⟩⟩
   exact ⟨0,fun h=>absurd h h0⟩
  rw [Xe hk2] at heq;have agf:=heq;refine kP H (Kc K9 (SQ fun _ aH=>SB (SR fun _ aX=>Rm rfl (Ri qP nu rfl rfl ?_))));clear H K9;intro a H;refine aK nu (cs:=[_,_]) H wn rfl rfl (fun j v hj=>H.hp.aB (hrow j v hj)) rfl ?_;clear H;intro a H;refine bX nu H wn rfl ?_;clear H;intro b6 a w hb6 H;refine kH H (Ra rfl ?_);clear H;intro a H;refine aP nu 0 (vs:=[_,_]) _ H wn rfl rfl rfl rfl rfl rfl rfl rfl ?_;clear H;intro w H;dsimp only [List.set,setRow] at H;refine aX _ _ ?_;clear aX;refine qW (ι:=GH) (Tc:=[(0,_),(1,_),(6,_),(14,_),(15,_),(16,_)]) (Lc:=[(_,_)]) (fun (gh:GH)=>[]) (fun (gh:GH)=>[]) (fun (gh:GH)=>gh) (fun (gh:GH)=>(if qy l[k].key l[k].value=0 then wM e (uO l (k+1)) (l.drop (k+1)) else qy l[k].key l[k].value)=wM e none l∧(∀ b o,g b=some o→gh b=some o)) (by exact (H).sub ⟨rfl,rfl,rfl,rfl,rfl,rfl,trivial⟩) ?_ ?_
  ·skip;refine kP H (SB (SR fun _ bD=>Rm rfl (Rf qZ rfl (Ro ak 0 rfl rfl ?_))));clear H;intro a H;refine s_call Qc H wn rfl (QF _ _ H.hp.ro e l[k].key) rfl ?_;clear H;rintro v25 Oa a w rfl yR H;replace hrow:=fun j u hj=>aD yR (hrow j u hj);refine kH H (Rn rfl (Ra rfl (Kz bD (Cd rfl ?_ ?_)))) <;> clear H bD
   ·intro h21 a H
    try have lS:=dT h21
    refine kP H (SR fun _ bH=>Ra rfl (Kz bH ?_));clear H bH;intro a H;refine lr H Tryz.results69 rfl ?_
    first
     | exact H.hp.ret (congrArg vi (by rw [if_neg (by simpa using p61)] at heq;rw [fD,if_neg (by omega)];exact heq))
     | exact H.hp.ret (congrArg vi (by rw [if_pos (by simpa using h21)] at heq;rw [fD,if_neg (by omega)];exact heq))
     | exact H.hp.ret (congrArg vi (by rw [fD,if_neg (by omega)];exact heq))
     | exact H.hp.ret (congrArg vi (by rw [fD,if_neg (by omega),← heq,show l.drop k=[] from List.drop_of_length_le (by omega)];rfl))
     | exact H.hp.ret (congrArg vi (by rw [fD,if_pos (by omega)]))
   intro h21 a H
   try have lS:=dF h21
   rw [if_neg (by simpa using h21)] at heq;refine aQ (fun _ bG=>?_)
   by_cases c0:0 < (k:Int)
   ·skip
    by_cases c1:l[k].key=pk
    ·skip;refine dz (hmx) [[],[0],[0,1],[0,1,2],[0,1,2,3],[0,1,2],[0,1,2],[0,1,2,6],[0,1,2,5,6,7],[0,1,2,5,6,7,8],[0,1,2,5,6,7,8,9],(List.range 11),(List.range 12),(List.range 13)] [13] (by kernel_rfl) (by kernel_rfl) (fun (aC:Nat) (v:Value) (G:GH)=>match aC with|0=>v=vi k|1=>v=.bool (decide (0 < (k:Int)))|2=>v=.bool (decide (0 < (k:Int)))|3=>v=.pointer (some ⟨b6,0,none⟩)|4=>v=vi l[k].key|5=>v=.slice (some ⟨b,o,none⟩) l.length c|6=>v=vi k|7=>v=vi ((k - 1:Nat):Int)|8=>v=.pointer (some ⟨b,o+(k - 1)*2,none⟩)|9=>v=.pointer (some ⟨b,o+(k - 1)*2+0,none⟩)|10=>v=vi pk|11=>v=.bool (decide (l[k].key=pk))|12=>v=.bool (decide (l[k].key=pk))|_=>True) (fun _ _ _ _ _ h=>h) H ?_ ?_
     ·clear H;refine av (Z0 rfl (Rm rfl)) (Z1 0 28 rfl (Rc rfl)) (Z1 1 29 rfl (Rm rfl)) (Z1 2 30 rfl (YF qZ (ay c0) rfl)) (av (Z2 3 31 2 30 rfl (YO ak 0 (ay c0) rfl rfl)) (Z1 2 30 rfl (YM (ay c0) rfl)) (Z1 2 30 rfl (YM (ay c0) rfl)) ?_ (av (Z3 5 33 7 35 2 30 rfl (YI qP nu (ay c0) rfl rfl)) (Z2 8 36 2 30 rfl (YF qZ (ay c0) rfl)) (X2 9 37 2 30 rfl fun hG=>YR ak (ay c0) rfl (aD hG (aD yR (hpk (by omega)).1))) (Z3 4 32 10 38 2 30 rfl (YC (ay c0) rfl)) (bq (Z2 2 30 11 39 rfl (Pt (ay c0) rfl)) (bq (aT rfl) dh))))
      refine dK 6 34 2 30 rfl rfl fun _ a w G1 hG HT H fin=>?_;refine nk _ H (wg H rfl rfl (ay c0)) rfl rfl rfl (by omega) (by omega) rfl ?_;clear H;intro a H;exact fin H iJ (by first|rfl|exact congrArg vi (by omega))
     clear H;intro a w G oV H hv;have H:=H.aM (hv 12 40 rfl rfl) rfl;clear hv;refine kH H (Ra rfl ?_);clear H;intro a H;refine au ⟨rfl,?_⟩;refine bG _ _ ?_;clear bG;refine vG H rfl (ay c1) ?_;refine aQ (fun _ bV=>?_);rw [if_pos (by rw [(hpk (by omega)).2,c1])] at heq;refine kP H (SC (Ra rfl (Kn bV ?_)));clear H bV;intro a H;refine lr H Tryz.results69 rfl ?_
     first
      | exact H.hp.ret (congrArg vi (by rw [if_neg (by simpa using p61)] at heq;rw [fD,if_neg (by omega)];exact heq))
      | exact H.hp.ret (congrArg vi (by rw [if_pos (by simpa using h21)] at heq;rw [fD,if_neg (by omega)];exact heq))
      | exact H.hp.ret (congrArg vi (by rw [fD,if_neg (by omega)];exact heq))
      | exact H.hp.ret (congrArg vi (by rw [fD,if_neg (by omega),← heq,show l.drop k=[] from List.drop_of_length_le (by omega)];rfl))
      | exact H.hp.ret (congrArg vi (by rw [fD,if_pos (by omega)]))
    skip;refine dz (hmx) [[],[0],[0,1],[0,1,2],[0,1,2,3],[0,1,2],[0,1,2],[0,1,2,6],[0,1,2,5,6,7],[0,1,2,5,6,7,8],[0,1,2,5,6,7,8,9],(List.range 11),(List.range 12),(List.range 13)] [13] (by kernel_rfl) (by kernel_rfl) (fun (aC:Nat) (v:Value) (G:GH)=>match aC with|0=>v=vi k|1=>v=.bool (decide (0 < (k:Int)))|2=>v=.bool (decide (0 < (k:Int)))|3=>v=.pointer (some ⟨b6,0,none⟩)|4=>v=vi l[k].key|5=>v=.slice (some ⟨b,o,none⟩) l.length c|6=>v=vi k|7=>v=vi ((k - 1:Nat):Int)|8=>v=.pointer (some ⟨b,o+(k - 1)*2,none⟩)|9=>v=.pointer (some ⟨b,o+(k - 1)*2+0,none⟩)|10=>v=vi pk|11=>v=.bool (decide (l[k].key=pk))|12=>v=.bool (decide (l[k].key=pk))|_=>True) (fun _ _ _ _ _ h=>h) H ?_ ?_
    ·clear H;refine av (Z0 rfl (Rm rfl)) (Z1 0 28 rfl (Rc rfl)) (Z1 1 29 rfl (Rm rfl)) (Z1 2 30 rfl (YF qZ (ay c0) rfl)) (av (Z2 3 31 2 30 rfl (YO ak 0 (ay c0) rfl rfl)) (Z1 2 30 rfl (YM (ay c0) rfl)) (Z1 2 30 rfl (YM (ay c0) rfl)) ?_ (av (Z3 5 33 7 35 2 30 rfl (YI qP nu (ay c0) rfl rfl)) (Z2 8 36 2 30 rfl (YF qZ (ay c0) rfl)) (X2 9 37 2 30 rfl fun hG=>YR ak (ay c0) rfl (aD hG (aD yR (hpk (by omega)).1))) (Z3 4 32 10 38 2 30 rfl (YC (ay c0) rfl)) (bq (Z2 2 30 11 39 rfl (Pt (ay c0) rfl)) (bq (aT rfl) dh))))
     refine dK 6 34 2 30 rfl rfl fun _ a w G1 hG HT H fin=>?_;refine nk _ H (wg H rfl rfl (ay c0)) rfl rfl rfl (by omega) (by omega) rfl ?_;clear H;intro a H;exact fin H iJ (by first|rfl|exact congrArg vi (by omega))
    clear H;intro a w G oV H hv;have H:=H.aM (hv 12 40 rfl rfl) rfl;clear hv;refine kH H (Ra rfl ?_);clear H;intro a H;refine au ⟨rfl,?_⟩;refine bG _ _ ?_;clear bG;refine mO H rfl (aL c1) ?_;refine aQ (fun _ bQ=>?_)
    have q1:¬ (0 < (k:Int)∧l[k].key=pk):=by first|exact fun h=>c1 h.2|exact fun h=>c0 h.1
    rw [if_neg (fun h=>q1 (by
     by_cases h0:0 < k
     ·rw [(hpk h0).2] at h
      injection h with h
      exact ⟨by omega,h.symm⟩
     rw [Ij (by omega)] at h
     cases h))] at heq
    by_cases c3:l[k].key < pk
    ·skip;refine dz (hmx) [[],[0],[0,1],[0,1,2],[0,1,2,3],[0,1,2],[0,1,2],[0,1,2,6],[0,1,2,5,6,7],[0,1,2,5,6,7,8],[0,1,2,5,6,7,8,9],(List.range 11),(List.range 12),(List.range 13)] [13] (by kernel_rfl) (by kernel_rfl) (fun (aC:Nat) (v:Value) (G:GH)=>match aC with|0=>v=vi k|1=>v=.bool (decide (0 < (k:Int)))|2=>v=.bool (decide (0 < (k:Int)))|3=>v=.pointer (some ⟨b6,0,none⟩)|4=>v=vi l[k].key|5=>v=.slice (some ⟨b,o,none⟩) l.length c|6=>v=vi k|7=>v=vi ((k - 1:Nat):Int)|8=>v=.pointer (some ⟨b,o+(k - 1)*2,none⟩)|9=>v=.pointer (some ⟨b,o+(k - 1)*2+0,none⟩)|10=>v=vi pk|11=>v=.bool (decide (l[k].key < pk))|12=>v=.bool (decide (l[k].key < pk))|_=>True) (fun _ _ _ _ _ h=>h) H ?_ ?_
     ·clear H;refine av (Z0 rfl (Rm rfl)) (Z1 0 42 rfl (Rc rfl)) (Z1 1 43 rfl (Rm rfl)) (Z1 2 44 rfl (YF qZ (ay c0) rfl)) (av (Z2 3 45 2 44 rfl (YO ak 0 (ay c0) rfl rfl)) (Z1 2 44 rfl (YM (ay c0) rfl)) (Z1 2 44 rfl (YM (ay c0) rfl)) ?_ (av (Z3 5 47 7 49 2 44 rfl (YI qP nu (ay c0) rfl rfl)) (Z2 8 50 2 44 rfl (YF qZ (ay c0) rfl)) ?_ (Z3 4 46 10 52 2 44 rfl (YC (ay c0) rfl)) (bq (Z2 2 44 11 53 rfl (Pt (ay c0) rfl)) (bq (aT rfl) dh))))
      ·refine dK 6 48 2 44 rfl rfl fun _ a w G1 hG HT H fin=>?_;refine nk _ H (wg H rfl rfl (ay c0)) rfl rfl rfl (by omega) (by omega) rfl ?_;clear H;intro a H;exact fin H iJ (by first|rfl|exact congrArg vi (by omega))
      refine dK 9 51 2 44 rfl rfl fun _ a w G1 hG HT H fin=>?_;refine xR ak H (wg H rfl rfl (ay c0)) rfl (H.hp.aB (aD hG (aD oV (aD yR (hpk (by omega)).1)))) rfl ?_;clear H;intro a H;exact fin H iJ rfl
     clear H;intro a w G pQ H hv;have H:=H.aM (hv 12 54 rfl rfl) rfl;clear hv;refine kH H (Ra rfl ?_);clear H;intro a H;refine au ⟨rfl,?_⟩;refine bQ _ _ ?_;clear bQ;refine vG H rfl (ay c3) ?_;refine aQ (fun _ bS=>?_);rw [if_pos (by rw [(hpk (by omega)).2];exact ay c3)] at heq;refine kP H (SC (Ra rfl (Kn bS ?_)));clear H bS;intro a H;refine lr H Tryz.results69 rfl ?_
     first
      | exact H.hp.ret (congrArg vi (by rw [if_neg (by simpa using p61)] at heq;rw [fD,if_neg (by omega)];exact heq))
      | exact H.hp.ret (congrArg vi (by rw [if_pos (by simpa using h21)] at heq;rw [fD,if_neg (by omega)];exact heq))
      | exact H.hp.ret (congrArg vi (by rw [fD,if_neg (by omega)];exact heq))
      | exact H.hp.ret (congrArg vi (by rw [fD,if_neg (by omega),← heq,show l.drop k=[] from List.drop_of_length_le (by omega)];rfl))
      | exact H.hp.ret (congrArg vi (by rw [fD,if_pos (by omega)]))
    skip;refine dz (hmx) [[],[0],[0,1],[0,1,2],[0,1,2,3],[0,1,2],[0,1,2],[0,1,2,6],[0,1,2,5,6,7],[0,1,2,5,6,7,8],[0,1,2,5,6,7,8,9],(List.range 11),(List.range 12),(List.range 13)] [13] (by kernel_rfl) (by kernel_rfl) (fun (aC:Nat) (v:Value) (G:GH)=>match aC with|0=>v=vi k|1=>v=.bool (decide (0 < (k:Int)))|2=>v=.bool (decide (0 < (k:Int)))|3=>v=.pointer (some ⟨b6,0,none⟩)|4=>v=vi l[k].key|5=>v=.slice (some ⟨b,o,none⟩) l.length c|6=>v=vi k|7=>v=vi ((k - 1:Nat):Int)|8=>v=.pointer (some ⟨b,o+(k - 1)*2,none⟩)|9=>v=.pointer (some ⟨b,o+(k - 1)*2+0,none⟩)|10=>v=vi pk|11=>v=.bool (decide (l[k].key < pk))|12=>v=.bool (decide (l[k].key < pk))|_=>True) (fun _ _ _ _ _ h=>h) H ?_ ?_
    ·clear H;refine av (Z0 rfl (Rm rfl)) (Z1 0 42 rfl (Rc rfl)) (Z1 1 43 rfl (Rm rfl)) (Z1 2 44 rfl (YF qZ (ay c0) rfl)) (av (Z2 3 45 2 44 rfl (YO ak 0 (ay c0) rfl rfl)) (Z1 2 44 rfl (YM (ay c0) rfl)) (Z1 2 44 rfl (YM (ay c0) rfl)) ?_ (av (Z3 5 47 7 49 2 44 rfl (YI qP nu (ay c0) rfl rfl)) (Z2 8 50 2 44 rfl (YF qZ (ay c0) rfl)) ?_ (Z3 4 46 10 52 2 44 rfl (YC (ay c0) rfl)) (bq (Z2 2 44 11 53 rfl (Pt (ay c0) rfl)) (bq (aT rfl) dh))))
     ·refine dK 6 48 2 44 rfl rfl fun _ a w G1 hG HT H fin=>?_;refine nk _ H (wg H rfl rfl (ay c0)) rfl rfl rfl (by omega) (by omega) rfl ?_;clear H;intro a H;exact fin H iJ (by first|rfl|exact congrArg vi (by omega))
     refine dK 9 51 2 44 rfl rfl fun _ a w G1 hG HT H fin=>?_;refine xR ak H (wg H rfl rfl (ay c0)) rfl (H.hp.aB (aD hG (aD oV (aD yR (hpk (by omega)).1)))) rfl ?_;clear H;intro a H;exact fin H iJ rfl
    clear H;intro a w G pQ H hv;have H:=H.aM (hv 12 54 rfl rfl) rfl;clear hv;refine kH H (Ra rfl ?_);clear H;intro a H;refine au ⟨rfl,?_⟩;refine bQ _ _ ?_;clear bQ;refine mO H rfl (aL c3) ?_;refine eX ?_;refine ⟨_,by exact (H).sub ⟨rfl,rfl,rfl,rfl,rfl,rfl,trivial⟩,?_⟩
    have q2:¬ (0 < (k:Int)∧l[k].key < pk):=by first|exact fun h=>c3 h.2|exact fun h=>c0 h.1
    rw [if_neg (fun h=>q2 (by
     by_cases h0:0 < k
     ·rw [(hpk h0).2] at h;exact ⟨by omega,of_decide_eq_true h⟩
     rw [Ij (by omega)] at h
     cases h))] at heq
    exact ⟨heq,fun b o h=>pQ b o (oV b o (yR b o h))⟩
   skip;refine dz (hmx) [[],[0],[0,1],[0,1,2],[0,1,2,3],[0,1,2],[0,1,2],[0,1,2,6],[0,1,2,5,6,7],[0,1,2,5,6,7,8],[0,1,2,5,6,7,8,9],(List.range 11),(List.range 12),(List.range 13)] [13] (by kernel_rfl) (by kernel_rfl) (fun (aC:Nat) (v:Value) (G:GH)=>match aC with|0=>v=vi k|1=>v=.bool (decide (0 < (k:Int)))|2=>v=.bool (decide (0 < (k:Int)))|3=>v=undef|4=>v=undef|5=>v=undef|6=>v=undef|7=>v=undef|8=>v=undef|9=>v=undef|10=>v=undef|11=>v=undef|12=>v=.bool false|_=>True) (fun _ _ _ _ _ h=>h) H ?_ ?_
   ·exact av (Z0 rfl (Rm rfl)) (Z1 0 28 rfl (Rc rfl)) (Z1 1 29 rfl (Rm rfl)) (aV (j:=2) (by kernel_rfl) (fun _ _ _ _ _ h=>h) rfl rfl rfl rfl rfl (fun _ _ h=>Eq.trans h (congrArg Value.bool (aL c0))) rfl (fun _=>rfl)) (av (aV (j:=2) (by kernel_rfl) (fun _ _ _ _ _ h=>h) rfl rfl rfl rfl rfl (fun _ _ h=>Eq.trans h (congrArg Value.bool (aL c0))) rfl (fun _=>rfl)) (aV (j:=2) (by kernel_rfl) (fun _ _ _ _ _ h=>h) rfl rfl rfl rfl rfl (fun _ _ h=>Eq.trans h (congrArg Value.bool (aL c0))) rfl (fun _=>rfl)) (aV (j:=2) (by kernel_rfl) (fun _ _ _ _ _ h=>h) rfl rfl rfl rfl rfl (fun _ _ h=>Eq.trans h (congrArg Value.bool (aL c0))) rfl (fun _=>rfl)) (aV (j:=2) (by kernel_rfl) (fun _ _ _ _ _ h=>h) rfl rfl rfl rfl rfl (fun _ _ h=>Eq.trans h (congrArg Value.bool (aL c0))) rfl (fun _=>rfl)) (av (aV (j:=2) (by kernel_rfl) (fun _ _ _ _ _ h=>h) rfl rfl rfl rfl rfl (fun _ _ h=>Eq.trans h (congrArg Value.bool (aL c0))) rfl (fun _=>rfl)) (aV (j:=2) (by kernel_rfl) (fun _ _ _ _ _ h=>h) rfl rfl rfl rfl rfl (fun _ _ h=>Eq.trans h (congrArg Value.bool (aL c0))) rfl (fun _=>rfl)) (aV (j:=2) (by kernel_rfl) (fun _ _ _ _ _ h=>h) rfl rfl rfl rfl rfl (fun _ _ h=>Eq.trans h (congrArg Value.bool (aL c0))) rfl (fun _=>rfl)) (aV (j:=2) (by kernel_rfl) (fun _ _ _ _ _ h=>h) rfl rfl rfl rfl rfl (fun _ _ h=>Eq.trans h (congrArg Value.bool (aL c0))) rfl (fun _=>rfl)) (bq (Z2 2 30 11 39 rfl (Pf (aL c0) rfl)) (bq (aT rfl) dh))))
   clear H;intro a w G oV H hv;have H:=H.aM (hv 12 40 rfl rfl) rfl;clear hv;refine kH H (Ra rfl ?_);clear H;intro a H;refine au ⟨rfl,?_⟩;refine bG _ _ ?_;clear bG;refine mO H rfl rfl ?_;refine aQ (fun _ cO=>?_)
   have q1:¬ (0 < (k:Int)∧l[k].key=pk):=by first|exact fun h=>c1 h.2|exact fun h=>c0 h.1
   rw [if_neg (fun h=>q1 (by
    by_cases h0:0 < k
    ·rw [(hpk h0).2] at h
     injection h with h
     exact ⟨by omega,h.symm⟩
    rw [Ij (by omega)] at h
    cases h))] at heq
   refine dz (hmx) [[],[0],[0,1],[0,1,2],[0,1,2,3],[0,1,2],[0,1,2],[0,1,2,6],[0,1,2,5,6,7],[0,1,2,5,6,7,8],[0,1,2,5,6,7,8,9],(List.range 11),(List.range 12),(List.range 13)] [13] (by kernel_rfl) (by kernel_rfl) (fun (aC:Nat) (v:Value) (G:GH)=>match aC with|0=>v=vi k|1=>v=.bool (decide (0 < (k:Int)))|2=>v=.bool (decide (0 < (k:Int)))|3=>v=undef|4=>v=undef|5=>v=undef|6=>v=undef|7=>v=undef|8=>v=undef|9=>v=undef|10=>v=undef|11=>v=undef|12=>v=.bool false|_=>True) (fun _ _ _ _ _ h=>h) H ?_ ?_
   ·exact av (Z0 rfl (Rm rfl)) (Z1 0 42 rfl (Rc rfl)) (Z1 1 43 rfl (Rm rfl)) (aV (j:=2) (by kernel_rfl) (fun _ _ _ _ _ h=>h) rfl rfl rfl rfl rfl (fun _ _ h=>Eq.trans h (congrArg Value.bool (aL c0))) rfl (fun _=>rfl)) (av (aV (j:=2) (by kernel_rfl) (fun _ _ _ _ _ h=>h) rfl rfl rfl rfl rfl (fun _ _ h=>Eq.trans h (congrArg Value.bool (aL c0))) rfl (fun _=>rfl)) (aV (j:=2) (by kernel_rfl) (fun _ _ _ _ _ h=>h) rfl rfl rfl rfl rfl (fun _ _ h=>Eq.trans h (congrArg Value.bool (aL c0))) rfl (fun _=>rfl)) (aV (j:=2) (by kernel_rfl) (fun _ _ _ _ _ h=>h) rfl rfl rfl rfl rfl (fun _ _ h=>Eq.trans h (congrArg Value.bool (aL c0))) rfl (fun _=>rfl)) (aV (j:=2) (by kernel_rfl) (fun _ _ _ _ _ h=>h) rfl rfl rfl rfl rfl (fun _ _ h=>Eq.trans h (congrArg Value.bool (aL c0))) rfl (fun _=>rfl)) (av (aV (j:=2) (by kernel_rfl) (fun _ _ _ _ _ h=>h) rfl rfl rfl rfl rfl (fun _ _ h=>Eq.trans h (congrArg Value.bool (aL c0))) rfl (fun _=>rfl)) (aV (j:=2) (by kernel_rfl) (fun _ _ _ _ _ h=>h) rfl rfl rfl rfl rfl (fun _ _ h=>Eq.trans h (congrArg Value.bool (aL c0))) rfl (fun _=>rfl)) (aV (j:=2) (by kernel_rfl) (fun _ _ _ _ _ h=>h) rfl rfl rfl rfl rfl (fun _ _ h=>Eq.trans h (congrArg Value.bool (aL c0))) rfl (fun _=>rfl)) (aV (j:=2) (by kernel_rfl) (fun _ _ _ _ _ h=>h) rfl rfl rfl rfl rfl (fun _ _ h=>Eq.trans h (congrArg Value.bool (aL c0))) rfl (fun _=>rfl)) (bq (Z2 2 44 11 53 rfl (Pf (aL c0) rfl)) (bq (aT rfl) dh))))
   clear H;intro a w G pQ H hv;have H:=H.aM (hv 12 54 rfl rfl) rfl;clear hv;refine kH H (Ra rfl ?_);clear H;intro a H;refine au ⟨rfl,?_⟩;refine cO _ _ ?_;clear cO;refine mO H rfl rfl ?_;refine eX ?_;refine ⟨_,by exact (H).sub ⟨rfl,rfl,rfl,rfl,rfl,rfl,trivial⟩,?_⟩
   have q2:¬ (0 < (k:Int)∧l[k].key < pk):=by first|exact fun h=>c3 h.2|exact fun h=>c0 h.1
   rw [if_neg (fun h=>q2 (by
    by_cases h0:0 < k
    ·rw [(hpk h0).2] at h;exact ⟨by omega,of_decide_eq_true h⟩
    rw [Ij (by omega)] at h
    cases h))] at heq
   exact ⟨heq,fun b o h=>pQ b o (oV b o (yR b o h))⟩
  clear H;intro gh a w hI H;obtain ⟨g2,hgh⟩:∃ x,x=gh:=⟨_,rfl⟩;subst hgh;obtain ⟨heq,mh⟩:=hI;replace hrow:=fun j u hj=>aD mh (hrow j u hj);dsimp only [List.cons_append,List.nil_append,List.append_nil] at H;refine kP H (SR fun _ dV=>Rf qZ rfl (Ro ak 0 rfl rfl (Rf Qo rfl (Ro ak 0 rfl rfl ?_))));clear H;intro a H;refine s_call JV H wn rfl (JE _ _ H.hp.ro l[k].key l[k].value) rfl ?_;clear H;rintro v59 VB a w rfl abp H;refine kH H (Ra rfl (Kz dV (SR fun _ dI=>Rm rfl (Rc rfl (Kz dI (Cd rfl ?_ ?_)))))) <;> clear H dV dI
  ·intro zU a H
   try have p61:=dT zU
   refine kP H (SR fun _ eH=>Rm rfl (Ra rfl (Kz eH ?_)));clear H eH;intro a H;refine lr H Tryz.results69 rfl ?_
   first
    | exact H.hp.ret (congrArg vi (by rw [if_neg (by simpa using p61)] at heq;rw [fD,if_neg (by omega)];exact heq))
    | exact H.hp.ret (congrArg vi (by rw [if_pos (by simpa using h21)] at heq;rw [fD,if_neg (by omega)];exact heq))
    | exact H.hp.ret (congrArg vi (by rw [fD,if_neg (by omega)];exact heq))
    | exact H.hp.ret (congrArg vi (by rw [fD,if_neg (by omega),← heq,show l.drop k=[] from List.drop_of_length_le (by omega)];rfl))
    | exact H.hp.ret (congrArg vi (by rw [fD,if_pos (by omega)]))
  intro zU a H
  try have p61:=dF zU
  refine kP H (Kc aH (SC (Rd rfl (Rm rfl ?_))));clear H aH;intro a H;refine au ?_;refine dD ((k+1,VB)) (by exact (H.bL (Pl:=[_]) (bB:=[]) [] (by decide) rfl).sub ⟨rfl,rfl,rfl,rfl,rfl,trivial⟩) ?_ ?_
  ·(try dsimp only);exact ⟨by omega,by rw [if_pos (by simpa using p61)] at heq;exact heq,fun b o h=>abp b o (mh b o (hgm b o h))⟩
  first|omega|(dsimp only;omega)
 intro bT a H
 try have jy:=dF bT
 refine dL ?_;refine K6 _ _ ?_;clear K6;refine kP H (SR fun _ fq=>Ra rfl (Kz fq ?_));clear H fq;intro a H;refine lr H Tryz.results69 rfl ?_
 first
  | exact H.hp.ret (congrArg vi (by rw [if_neg (by simpa using p61)] at heq;rw [fD,if_neg (by omega)];exact heq))
  | exact H.hp.ret (congrArg vi (by rw [if_pos (by simpa using h21)] at heq;rw [fD,if_neg (by omega)];exact heq))
  | exact H.hp.ret (congrArg vi (by rw [fD,if_neg (by omega)];exact heq))
  | exact H.hp.ret (congrArg vi (by rw [fD,if_neg (by omega),← heq,show l.drop k=[] from List.drop_of_length_le (by omega)];rfl))
  | exact H.hp.ret (congrArg vi (by rw [fD,if_pos (by omega)]))
end
section
open Go.RowKit
theorem lU:Tryz.prog.underlying 127=some (.slice 46):=by kernel_rfl
theorem qY:∀ args w,(callFunc 68 args).run Tryz.prog w=.ok (.enter 68 args) w:=enters Tryz.func68 rfl (by kernel_rfl)
theorem rV (G:GH) (w0:World) (hG:Hold G w0) (n l h:Int):Calls Tryz.prog 68 #[vi n,vi l,vi h] w0 (aU w0 G fun u G'=>u=.bool (decide (l≤n∧n≤h))∧G=G'):=by
 refine eN [(0,_),(1,_),(2,_)] Tryz.func68 rfl Tryz.ntmps68 rfl rfl hG ?_;intro a H;refine kP H (SR fun _ K1=>Ra rfl (Kz K1 (SR fun _ K2=>Rm rfl (Rm rfl (Rc rfl (Rm rfl (Sp 10 rfl ?_ ?_))))))) <;> clear H K1
 ·intro h10 a H
  try have r9:=dT h10
  exact kH H (YM h10 rfl (YM h10 rfl (YC h10 rfl (Pt h10 rfl (Ra rfl (Kz K2 (LR Tryz.results68 rfl fun H=>H.hp.ret ⟨congrArg Value.bool (by first|(simp_all;done)|(simp_all;omega)),rfl⟩)))))))
 intro h10 a H
 try have r9:=dF h10
 exact kH H (Ks h10 rfl (Ks h10 rfl (Ks h10 rfl (Pf h10 rfl (Ra rfl (Kz K2 (LR Tryz.results68 rfl fun H=>H.hp.ret ⟨congrArg Value.bool (by first|(simp_all;done)|(simp_all;omega)),rfl⟩)))))))
def bJ (b:Bool) (e:Int):Int:=if b=true then e else 0
theorem iy (G:GH) (w0:World) (hG:Hold G w0) (b:Bool) (e:Int):Calls Tryz.prog 44 #[.bool b,vi e] w0 (aU w0 G fun u G'=>u=vi (bJ b e)∧G=G'):=by
 refine eN [(0,_),(1,_)] Tryz.func44 rfl Tryz.ntmps44 rfl rfl hG ?_;intro a H;refine kP H (SR fun _ K1=>Ra rfl (Kz K1 (SQ fun _ K2=>SR fun _ K3=>Rm rfl (Kz K3 (Cd rfl ?_ ?_))))) <;> clear H K1 K3
 ·intro h5 a H
  try have p5:=dT h5
  exact kP H (SR fun _ K4=>Rm rfl (Ra rfl (Kz K4 (LR Tryz.results44 rfl fun H=>H.hp.ret ⟨congrArg vi (by simp_all [bJ]),rfl⟩))))
 intro h5 a H
 try have p5:=dF h5
 exact kP H (Kc K2 (SR fun _ K5=>Ra rfl (Kz K5 (LR Tryz.results44 rfl fun H=>H.hp.ret ⟨congrArg vi (by simp_all [bJ]),rfl⟩))))
/-- The first error of a list. -/
def cu:List Int→Int
 | []=>0
 | e :: r=>if e≠0 then e else cu r
theorem Gy {l:List Int} {k:Nat} (h:k < l.length):cu (l.drop k)=if l[k]≠0 then l[k] else cu (l.drop (k+1)):=by
 rw [List.drop_eq_getElem_cons h,cu]
theorem mU (G:GH) (w0:World) (hG:Hold G w0) (l:List Int) (v:Value) (hv:ah G (.sl 1 (l.map fun k=>[li k])) v) :
  Calls Tryz.prog 39 #[v] w0 (aU w0 G fun u G'=>u=vi (cu l)∧G=G'):=by
 obtain ⟨A,c,rfl,hc1,hc2,hg⟩:=hv.slice;have hml:maxLen=9223372036854775807:=rfl;rw [List.length_map] at *;refine eN [(0,_)] Tryz.func39 rfl Tryz.ntmps39 rfl rfl hG ?_;intro a H;refine kP H (SR fun _ K1=>Ra rfl (Kz K1 (SQ fun _ K2=>SR fun _ K3=>Rm rfl (Rl lU rfl (Rm rfl (Kz K3 (SB ?_)))))));clear H K1 K3;intro a H;skip;refine d9 (ι:=Nat) (Tc:=[(5,_),(6,_)]) (Lc:=[]) (fun (gh:Nat)=>[(7,vi gh)]) (fun (gh:Nat)=>[]) (fun (gh:Nat)=>G) (fun (gh:Nat)=>gh≤l.length∧cu (l.drop gh)=cu l) (fun (gh:Nat)=>l.length - gh) (0) (by exact (H).sub ⟨rfl,rfl,rfl,trivial⟩) ?_ ?_
 ·exact ⟨Nat.zero_le _,rfl⟩
 clear H;intro gh a w hI H;obtain ⟨k,hgh⟩:∃ x,x=gh:=⟨_,rfl⟩;subst hgh;obtain ⟨hk,he⟩:=hI;dsimp only [List.cons_append,List.nil_append,List.append_nil] at H;refine kP H (SR fun _ K4=>Rc rfl (Kz K4 (SQ fun _ K5=>Cd rfl ?_ ?_))) <;> clear H K4
 ·intro h8 a H
  try have p8:=dT h8
  have hk2:k < l.length:=by omega
  obtain ⟨b,o,cs,rfl,hcl,hrow,hr⟩:=hg k [li l[k]] (by simp [hk2]);obtain ⟨v1,_,rfl,⟨rfl,-⟩,rfl⟩:∃ v vs,cs=v :: vs∧ah G (li l[k]) v∧aO G [] vs:=hr
  have hcell:aB G b (o+k*1)=some (vi l[k]):=by simpa using hrow 0 _ rfl
  refine kP H (Kc K5 (SQ fun _ K6=>SB (SR fun _ K7=>Ri lU dQ rfl rfl (Rg dQ rfl hcell (Ra rfl (Kz K7 (SR fun _ K8=>Rm rfl (Rc rfl (Kz K8 (Cd rfl ?_ ?_)))))))))) <;> clear H K5 K7 K8
  ·intro h12 a H
   try have oz:=dT h12
   exact kP H (SR fun _ K9=>Rm rfl (Ra rfl (Kz K9 (LR Tryz.results39 rfl fun H=>H.hp.ret ⟨congrArg vi (by rw [Gy hk2,if_pos oz] at he;exact he),rfl⟩))))
  intro h12 a H
  try have oz:=dF h12
  refine kP H (Kc K6 (SC (Rd rfl (Rm rfl ?_))));clear H K6;intro a H;refine au ?_;refine dD ((k+1)) (by exact (H).sub ⟨rfl,rfl,rfl,trivial⟩) ?_ ?_
  ·exact ⟨by omega,by rw [Gy hk2,if_neg oz] at he;exact he⟩
  first|omega|(dsimp only;omega)
 intro h8 a H
 try have p8:=dF h8
 refine dL ?_;refine K2 _ _ ?_;clear K2;exact kP H (SR fun _ aH=>Ra rfl (Kz aH (LR Tryz.results39 rfl fun H=>H.hp.ret ⟨congrArg vi (by rw [List.drop_of_length_le (by omega)] at he;exact he),rfl⟩)))
/-- A function of an index that gives an error. -/
def oL (fv:Value) (Gi:GH) (n:Nat) (E:Nat→Int):Prop:=∀ i,i < n→∀ (G1:GH) (w1:World),(∀ b o,Gi b=some o→G1 b=some o)→Hold G1 w1→qU Tryz.prog fv [vi i] w1 (aU w1 G1 fun u G'=>u=vi (E i))
theorem oL.mono {fv:Value} {G G':GH} {n:Nat} {E:Nat→Int} (h:oL fv G n E) (hm:∀ b o,G b=some o→G' b=some o):oL fv G' n E:=fun i hi G1 w1 hG1=>h i hi G1 w1 fun b o hb=>hG1 b o (hm b o hb)
def jr (E:Nat→Int) (n:Nat):Int:=cu ((List.range n).map E)
theorem zK {E:Nat→Int} {n k:Nat} (h:k < n):cu (((List.range n).map E).drop k)=if E k≠0 then E k else cu (((List.range n).map E).drop (k+1)):=by
 rw [Gy (by simpa using h)];simp
theorem Du (G:GH) (w0:World) (hG:Hold G w0) (n:Nat) (E:Nat→Int) (fv:Value) (hn:n≤4611686018427387904) (hf:oL fv G n E) :
  Calls Tryz.prog 63 #[vi n,fv] w0 (aU w0 G fun u G'=>u=vi (jr E n)):=by
 refine eN [(0,_),(1,_)] Tryz.func63 rfl Tryz.ntmps63 rfl rfl hG ?_;intro a H;refine kP H (SR fun _ K1=>Ra rfl (Kz K1 (SQ fun _ K2=>SR fun _ K3=>Rm rfl (Rm rfl (Kz K3 (SB ?_))))));clear H K1 K3;intro a H;skip;refine d9 (ι:=Nat × GH) (Tc:=[(1,_),(7,_)]) (Lc:=[]) (fun (gh:Nat × GH)=>[(8,vi gh.1)]) (fun (gh:Nat × GH)=>[]) (fun (gh:Nat × GH)=>gh.2) (fun (gh:Nat × GH)=>gh.1≤n∧cu (((List.range n).map E).drop gh.1)=jr E n∧(∀ b o,G b=some o→gh.2 b=some o)) (fun (gh:Nat × GH)=>n - gh.1) ((0,G)) (by exact (H).sub ⟨rfl,rfl,rfl,trivial⟩) ?_ ?_
 ·exact ⟨Nat.zero_le _,rfl,fun _ _ h=>h⟩
 clear H;intro gh a w hI H;obtain ⟨k,g⟩:=gh;dsimp only at hI H;obtain ⟨hk,he,hgm⟩:=hI;dsimp only [List.cons_append,List.nil_append,List.append_nil] at H;refine kP H (SR fun _ K4=>Rc rfl (Kz K4 (SQ fun _ K5=>Cd rfl ?_ ?_))) <;> clear H K4
 ·intro h9 a H
  try have p9:=dT h9
  have hk2:k < n:=by omega
  refine kP H (Kc K5 (SQ fun _ K6=>SB (SR fun _ K7=>Rm rfl (Ra rfl (Kz K7 (SR fun _ K8=>Rm rfl (Rm rfl ?_)))))));clear H K5 K7;intro a H;refine ng H wn rfl rfl (hf k hk2 _ _ hgm H.hp.ro) rfl ?_;clear H;rintro v13 vg a w rfl nY H;refine kH H (Ra rfl (Kz K8 (SR fun _ K9=>Rm rfl (Rc rfl (Kz K9 (Cd rfl ?_ ?_)))))) <;> clear H K8 K9
  ·intro iM a H
   try have kQ:=dT iM
   exact kP H (SR fun _ aH=>Rm rfl (Ra rfl (Kz aH (LR Tryz.results63 rfl fun H=>H.hp.ret (congrArg vi (by rw [zK hk2,if_pos kQ] at he;exact he))))))
  intro iM a H
  try have kQ:=dF iM
  refine kP H (Kc K6 (SC (Rd rfl (Rm rfl ?_))));clear H K6;intro a H;refine au ?_;refine dD ((k+1,vg)) (by exact (H).sub ⟨rfl,rfl,rfl,trivial⟩) ?_ ?_
  ·(try dsimp only);exact ⟨by omega,by rw [zK hk2,if_neg kQ] at he;exact he,fun b o h=>nY b o (hgm b o h)⟩
  first|omega|(dsimp only;omega)
 intro h9 a H
 try have p9:=dF h9
 refine dL ?_;refine K2 _ _ ?_;clear K2;exact kP H (SR fun _ aX=>Ra rfl (Kz aX (LR Tryz.results63 rfl fun H=>H.hp.ret (congrArg vi (by rw [List.drop_of_length_le (by simp;omega)] at he;exact he)))))
/-- The error of the id with an index. -/
def mo (id:Nat→Int) (i:Nat):Int:=if ¬ (1≤id i∧id i≤1073741824) then 18 else if 0 < i∧id i=id (i - 1) then 7 else if 0 < i∧id i < id (i - 1) then 6 else 0
theorem MK (G:GH) (w0:World) (hG:Hold G w0) (i:Nat) (id:Nat→Int) (fv:Value) (hn:i≤4611686018427387904) (hf:oL fv G (i+1) id) :
  Calls Tryz.prog 65 #[vi i,fv] w0 (aU w0 G fun u G'=>u=vi (mo id i)):=by
 refine eN [(0,_),(1,_)] Tryz.func65 rfl Tryz.ntmps65 rfl rfl hG ?_;intro a H;refine kP H (SR fun _ K1=>Ra rfl (Kz K1 (SQ fun _ K2=>SB (SR fun _ K3=>Rm rfl (Rm rfl ?_)))));clear H K1;intro a H;refine ng H wn rfl rfl (hf i (Nat.lt_succ_self _) _ _ (fun _ _ h=>h) H.hp.ro) rfl ?_;clear H;rintro v8 G8 a w rfl yS H;refine s_call qY H wn rfl (rV _ _ H.hp.ro (id i) 1 1073741824) rfl ?_;clear H;rintro v9 _ a w ⟨rfl,rfl⟩ - H;refine kH H (Rn rfl (Ra rfl (Kz K3 (Cd rfl ?_ ?_)))) <;> clear H K3
 ·intro h5 a H
  try have p5:=dT h5
  refine kP H (SR fun _ K4=>Ra rfl (Kz K4 ?_));clear H K4;intro a H;refine lr H Tryz.results65 rfl ?_
  exact H.hp.ret (congrArg vi (by unfold mo;(repeat' split) <;> first|rfl|(exfalso;simp_all;done)|(exfalso;simp_all;omega)))
 intro h5 a H
 try have p5:=dF h5
 refine kP H (SR fun _ K5=>Rm rfl (Rc rfl (Rm rfl (Sp 14 rfl ?_ ?_)))) <;> clear H
 ·intro fE a H
  try have qM:=dT fE
  refine kH H (YM fE rfl (YM fE rfl ?_));clear H;intro a H;refine ng H (wg H rfl rfl fE) rfl rfl (hf i (Nat.lt_succ_self _) _ _ yS H.hp.ro) rfl ?_;clear H;rintro v17 yj a w rfl nZ H;refine kH H (YM fE rfl (YM fE rfl ?_));clear H;intro a H;refine nk _ H (wg H rfl rfl fE) rfl rfl rfl (by omega) (by omega) rfl ?_;clear H;intro a H;rw [show ((i:Int) - 1)=((i - 1:Nat):Int) by omega] at H;refine ng H (wg H rfl rfl fE) rfl rfl (hf (i - 1) (by omega) _ _ (fun b o h=>nZ b o (yS b o h)) H.hp.ro) rfl ?_;clear H;rintro v21 N8 a w rfl xw H;refine kH H (YC fE rfl (Pt fE rfl (Ra rfl (Kz K5 (Cd rfl ?_ ?_))))) <;> clear H K5
  ·intro h11 a H
   try have ow:=dT h11
   refine kP H (SR fun _ K6=>Ra rfl (Kz K6 ?_));clear H K6;intro a H;refine lr H Tryz.results65 rfl ?_
   exact H.hp.ret (congrArg vi (by unfold mo;(repeat' split) <;> first|rfl|(exfalso;simp_all;done)|(exfalso;simp_all;omega)))
  intro h11 a H
  try have ow:=dF h11
  refine kP H (SR fun _ K7=>Rm rfl (Rc rfl (Rm rfl (Sp 27 rfl ?_ ?_)))) <;> clear H
  ·intro h27 a H
   try have p27:=dT h27
   refine kH H (YM h27 rfl (YM h27 rfl ?_));clear H;intro a H;refine ng H (wg H rfl rfl h27) rfl rfl (hf i (Nat.lt_succ_self _) _ _ (fun b o h=>by first|exact xw b o (nZ b o (yS b o h))|(exfalso;omega)) H.hp.ro) rfl ?_;clear H;rintro v30 wF a w rfl uy H;refine kH H (YM h27 rfl (YM h27 rfl ?_));clear H;intro a H;refine nk _ H (wg H rfl rfl h27) rfl rfl rfl (by omega) (by omega) rfl ?_;clear H;intro a H;rw [show ((i:Int) - 1)=((i - 1:Nat):Int) by omega] at H;refine ng H (wg H rfl rfl h27) rfl rfl (hf (i - 1) (by omega) _ _ (fun b o h=>by first|exact uy b o (xw b o (nZ b o (yS b o h)))|(exfalso;omega)) H.hp.ro) rfl ?_;clear H;rintro v34 Vx a w rfl Rh H;refine kH H (YC h27 rfl (Pt h27 rfl (Ra rfl (Kz K7 (Cd rfl ?_ ?_))))) <;> clear H K7
   ·intro dM a H
    try have jA:=dT dM
    refine kP H (SR fun _ K8=>Ra rfl (Kz K8 ?_));clear H K8;intro a H;refine lr H Tryz.results65 rfl ?_
    exact H.hp.ret (congrArg vi (by unfold mo;(repeat' split) <;> first|rfl|(exfalso;simp_all;done)|(exfalso;simp_all;omega)))
   intro dM a H
   try have jA:=dF dM
   refine kP H (Kc K2 (SR fun _ K9=>Ra rfl (Kz K9 ?_)));clear H K2 K9;intro a H;refine lr H Tryz.results65 rfl ?_
   exact H.hp.ret (congrArg vi (by unfold mo;(repeat' split) <;> first|rfl|(exfalso;simp_all;done)|(exfalso;simp_all;omega)))
  intro h27 a H
  try have p27:=dF h27
  refine kH H (Ks h27 rfl (Ks h27 rfl (Ks h27 rfl (Ks h27 rfl (Ks h27 rfl (Ks h27 rfl (Ks h27 rfl (Ks h27 rfl (Pf h27 rfl (Ra rfl (Kz K7 (Cf rfl rfl (Kc K2 (SR fun _ aH=>?_))))))))))))));clear H K7 K2;intro a H;refine kH H (Ra rfl (Kz aH ?_));clear H aH;intro a H;refine lr H Tryz.results65 rfl ?_
  exact H.hp.ret (congrArg vi (by unfold mo;(repeat' split) <;> first|rfl|(exfalso;simp_all;done)|(exfalso;simp_all;omega)))
 intro fE a H
 try have qM:=dF fE
 refine kH H (Ks fE rfl (Ks fE rfl (Ks fE rfl (Ks fE rfl (Ks fE rfl (Ks fE rfl (Ks fE rfl (Ks fE rfl (Pf fE rfl (Ra rfl (Kz K5 (Cf rfl rfl (SR fun _ aX=>Rm rfl ?_)))))))))))));clear H K5;intro a H;refine kH H (Rc rfl (Rm rfl (Sp 27 rfl ?_ ?_))) <;> clear H
 ·intro h27 a H
  try have p27:=dT h27
  refine kH H (YM h27 rfl (YM h27 rfl ?_));clear H;intro a H;refine ng H (wg H rfl rfl h27) rfl rfl (hf i (Nat.lt_succ_self _) _ _ (fun b o h=>by first|exact xw b o (nZ b o (yS b o h))|(exfalso;omega)) H.hp.ro) rfl ?_;clear H;rintro v30 wF a w rfl uy H;refine kH H (YM h27 rfl (YM h27 rfl ?_));clear H;intro a H;refine nk _ H (wg H rfl rfl h27) rfl rfl rfl (by omega) (by omega) rfl ?_;clear H;intro a H;rw [show ((i:Int) - 1)=((i - 1:Nat):Int) by omega] at H;refine ng H (wg H rfl rfl h27) rfl rfl (hf (i - 1) (by omega) _ _ (fun b o h=>by first|exact uy b o (xw b o (nZ b o (yS b o h)))|(exfalso;omega)) H.hp.ro) rfl ?_;clear H;rintro v34 Vx a w rfl Rh H;refine kH H (YC h27 rfl (Pt h27 rfl (Ra rfl (Kz aX (Cd rfl ?_ ?_))))) <;> clear H aX
  ·intro dM a H
   try have jA:=dT dM
   refine kP H (SR fun _ bD=>Ra rfl (Kz bD ?_));clear H bD;intro a H;refine lr H Tryz.results65 rfl ?_
   exact H.hp.ret (congrArg vi (by unfold mo;(repeat' split) <;> first|rfl|(exfalso;simp_all;done)|(exfalso;simp_all;omega)))
  intro dM a H
  try have jA:=dF dM
  refine kP H (Kc K2 (SR fun _ bH=>Ra rfl (Kz bH ?_)));clear H K2 bH;intro a H;refine lr H Tryz.results65 rfl ?_
  exact H.hp.ret (congrArg vi (by unfold mo;(repeat' split) <;> first|rfl|(exfalso;simp_all;done)|(exfalso;simp_all;omega)))
 intro h27 a H
 try have p27:=dF h27
 refine kH H (Ks h27 rfl (Ks h27 rfl (Ks h27 rfl (Ks h27 rfl (Ks h27 rfl (Ks h27 rfl (Ks h27 rfl (Ks h27 rfl (Pf h27 rfl (Ra rfl (Kz aX (Cf rfl rfl (Kc K2 (SR fun _ bG=>?_))))))))))))));clear H aX K2;intro a H;refine kH H (Ra rfl (Kz bG ?_));clear H bG;intro a H;refine lr H Tryz.results65 rfl ?_
 exact H.hp.ret (congrArg vi (by unfold mo;(repeat' split) <;> first|rfl|(exfalso;simp_all;done)|(exfalso;simp_all;omega)))
end
section
open Go.RowKit
theorem gX:∀ args w,(callFunc 44 args).run Tryz.prog w=.ok (.enter 44 args) w:=enters Tryz.func44 rfl (by kernel_rfl)
theorem mR:∀ args w,(callFunc 39 args).run Tryz.prog w=.ok (.enter 39 args) w:=enters Tryz.func39 rfl (by kernel_rfl)
def qw (s:ByteArray):Bool:=decide (1≤s.size∧s.size≤40) && oK s
theorem OW (G:GH) (w0:World) (hG:Hold G w0) (s:ByteArray) (hs:s.size < 4611686018427387904):Calls Tryz.prog 67 #[.string s] w0 (aU w0 G fun u G'=>u=.bool (qw s)∧G=G'):=by
 refine eN [(0,_)] Tryz.func67 rfl Tryz.ntmps67 rfl rfl hG ?_;intro a H;refine kP H (SR fun _ K1=>Ra rfl (Kz K1 (SR fun _ K2=>Rm rfl (Rv fB rfl (Rc rfl (Rm rfl (Sp 6 rfl ?_ ?_))))))) <;> clear H K1
 ·intro h6 a H
  try have p6:=dT h6
  refine kH H (YM h6 rfl ?_);clear H;intro a H;refine Au fB H (wg H rfl rfl h6) rfl rfl ?_;clear H;intro a H;refine kH H (YC h6 rfl (Pt h6 rfl (Rm rfl (Sp 11 rfl ?_ ?_)))) <;> clear H
  ·intro h11 a H
   try have ow:=dT h11
   refine kH H (YM h11 rfl ?_);clear H;intro a H;refine s_call DN H (wg H rfl rfl h11) rfl (E9 _ _ H.hp.ro s hs) rfl ?_;clear H;rintro v13 _ a w ⟨rfl,rfl⟩ - H;exact kH H (Pt h11 rfl (Ra rfl (Kz K2 (LR Tryz.results67 rfl fun H=>H.hp.ret ⟨congrArg Value.bool (by unfold qw;first|(simp_all;done)|(simp_all;omega)),rfl⟩))))
  intro h11 a H
  try have ow:=dF h11
  exact kH H (Ks h11 rfl (Ks h11 rfl (Pf h11 rfl (Ra rfl (Kz K2 (LR Tryz.results67 rfl fun H=>H.hp.ret ⟨congrArg Value.bool (by unfold qw;first|(simp_all;done)|(simp_all;omega)),rfl⟩))))))
 intro h6 a H
 try have p6:=dF h6
 exact kH H (Ks h6 rfl (Ks h6 rfl (Ks h6 rfl (Pf h6 rfl (Rm rfl (Ks rfl rfl (Ks rfl rfl (Pf rfl rfl (Ra rfl (Kz K2 (LR Tryz.results67 rfl fun H=>H.hp.ret ⟨congrArg Value.bool (by unfold qw;first|(simp_all;done)|(simp_all;omega)),rfl⟩)))))))))))
def xX (s:ByteArray):Int:=cu [bJ (!oK s) 12,bJ (decide (1024 < (s.size:Int))) 10]
theorem tu {G:GH} {b:Nat} {x y:Int} (h:G b=some (.cells #[vi x,vi y] 46 (0,0))):ah G (.sl 1 ([x,y].map fun k=>[li k])) (.slice (some ⟨b,0,none⟩) 2 2) :=
 ah.dG (n:=2) (cap:=2) h rfl (Nat.le_refl _) (show 2≤maxLen by decide) (List.take_of_length_le (Nat.le_refl _)) (dP G [x,y])
theorem NH (G:GH) (w0:World) (hG:Hold G w0) (s:ByteArray) (hs:s.size < 4611686018427387904):Calls Tryz.prog 96 #[.string s] w0 (aU w0 G fun u G'=>u=vi (xX s)):=by
 refine eN [(0,_)] Tryz.func96 rfl Tryz.ntmps96 rfl rfl hG ?_;intro a H;refine kP H (SR fun _ K1=>Ra rfl (Kz K1 (SR fun _ K2=>Rm rfl ?_)));clear H K1;intro a H;refine s_call DN H wn rfl (E9 _ _ H.hp.ro s hs) rfl ?_;clear H;rintro v4 _ a w ⟨rfl,rfl⟩ - H;refine kH H (Rn rfl ?_);clear H;intro a H;refine s_call gX H wn rfl (iy _ _ H.hp.ro _ 12) rfl ?_;clear H;rintro v6 _ a w ⟨rfl,rfl⟩ - H;refine kH H (Rm rfl (Rv fB rfl (Rc rfl ?_)));clear H;intro a H;refine s_call gX H wn rfl (iy _ _ H.hp.ro _ 10) rfl ?_;clear H;rintro v10 _ a w ⟨rfl,rfl⟩ - H;refine fM lU dQ [_,_] [_,_] H wn rfl rfl rfl rfl rfl (by intro i q h;match i,h with|0,h=>exact h|1,h=>exact h|n+2,h=>simp at h) rfl rfl ?_;clear H;intro b11 a w yO H;obtain ⟨qj,xq,BK,H⟩:=H.dB;refine s_call mR H wn rfl (mU _ _ H.hp.ro _ _ (tu BK)) rfl ?_;clear H;rintro v12 _ a w ⟨rfl,rfl⟩ - H;exact kH H (Ra rfl (Kz K2 (LR Tryz.results96 rfl fun H=>H.hp.ret rfl)))
/-- Whether a byte is a letter; a digit, a hyphen or an underscore; whether it may stand at a place of a name. -/
def H6 (c:Int):Bool:=decide (97≤qx .or .u8 c 32) && decide (qx .or .u8 c 32≤122)
def Ao (c:Int):Bool:=(decide (48≤c) && decide (c≤57)) || decide (c=45) || decide (c=95)
def vW (s:ByteArray) (k:Nat):Bool:=H6 (fC s k) || (decide (k≠0) && Ao (fC s k))
def l8 (s:ByteArray):Bool:=decide (1≤s.size∧s.size≤40) && (List.range s.size).all (vW s)
theorem JO (G:GH) (w0:World) (hG:Hold G w0) (s:ByteArray) (hs:s.size < 4611686018427387904):Calls Tryz.prog 98 #[.string s] w0 (aU w0 G fun u G'=>u=.bool (l8 s)∧G=G'):=by
 refine eN [(0,_)] Tryz.func98 rfl Tryz.ntmps98 rfl rfl hG ?_;intro a H;refine kP H (SR fun _ K1=>Ra rfl (Kz K1 (SQ fun _ K2=>SR fun _ K3=>Rm rfl (Rv fB rfl (Rc rfl (Rm rfl (Sp 10 rfl ?_ ?_))))))) <;> clear H K1
 ·intro h10 a H
  try have r9:=dT h10
  exact kH H (Ks h10 rfl (Ks h10 rfl (Ks h10 rfl (Pt h10 rfl (Kz K3 (Ct rfl rfl (SR fun _ K4=>Ra rfl (Kz K4 (LR Tryz.results98 rfl fun H=>H.hp.ret ⟨congrArg Value.bool (by unfold l8;rw [decide_eq_false (by omega)];rfl),rfl⟩)))))))))
 intro h10 a H
 try have r9:=dF h10
 refine kH H (YM h10 rfl ?_);clear H;intro a H;refine Au fB H (wg H rfl rfl h10) rfl rfl ?_;clear H;intro a H;refine kH H (YC h10 rfl (Pf h10 rfl (Kz K3 (Cd rfl ?_ ?_)))) <;> clear H K3
 ·intro fE a H
  try have qM:=dT fE
  exact kP H (SR fun _ K5=>Ra rfl (Kz K5 (LR Tryz.results98 rfl fun H=>H.hp.ret ⟨congrArg Value.bool (by unfold l8;rw [decide_eq_false (by omega)];rfl),rfl⟩)))
 intro fE a H
 try have qM:=dF fE
 refine kP H (Kc K2 (SQ fun _ K6=>SR fun _ K7=>Rm rfl (Rv fB rfl (Rm rfl (Kz K7 (SB ?_))))));clear H K2 K7;intro a H;skip;refine d9 (ι:=Nat) (Tc:=[(0,_),(16,_)]) (Lc:=[]) (fun (gh:Nat)=>[(17,vi gh)]) (fun (gh:Nat)=>[]) (fun (gh:Nat)=>G) (fun (gh:Nat)=>gh≤s.size∧(List.range gh).all (vW s)=true) (fun (gh:Nat)=>s.size - gh) (0) (by exact (H).sub ⟨rfl,rfl,rfl,trivial⟩) ?_ ?_
 ·exact ⟨Nat.zero_le _,rfl⟩
 clear H;intro gh a w hI H;obtain ⟨k,hgh⟩:∃ x,x=gh:=⟨_,rfl⟩;subst hgh;obtain ⟨hk,hall⟩:=hI;dsimp only [List.cons_append,List.nil_append,List.append_nil] at H;refine kP H (SR fun _ K8=>Rc rfl (Kz K8 (SQ fun _ K9=>Cd rfl ?_ ?_))) <;> clear H K8
 ·intro h18 a H
  try have oZ:=dT h18
  have hk2:k < s.size:=by omega
  refine kP H (Kc K9 (SQ fun _ aH=>SB (SR fun _ aX=>Rm rfl (Ra rfl (Kz aX (SR fun _ bD=>Rm rfl (Rm rfl ?_)))))));clear H K9 aX;intro a H;refine lC k fB H wn rfl rfl rfl (by omega) rfl ?_;clear H;intro a H;rw [← jQ] at H;refine Iu rfl H wn rfl rfl rfl ?_;clear H;intro a H;refine kH H (Ra rfl (Kz bD ?_));clear H bD;intro a H;refine qW (ι:=Bool) (Tc:=[(0,_),(3,_),(16,_),(17,_)]) (Lc:=[]) (fun (gh:Bool)=>[(5,.bool gh)]) (fun (gh:Bool)=>[]) (fun (gh:Bool)=>G) (fun (gh:Bool)=>gh=H6 (fC s k)) (by exact (H).sub ⟨rfl,rfl,rfl,rfl,trivial⟩) ?_ ?_
  ·skip;refine kP H (SC (Rm rfl (Rc rfl (Rm rfl (Sp 26 rfl ?_ ?_))))) <;> clear H
   ·intro iE a H
    try have p26:=dT iE
    refine kH H (YM iE rfl (YC iE rfl (Pt iE rfl (Ra rfl ?_))));clear H;intro a H;refine au ?_;refine ⟨_,by exact (H).sub ⟨rfl,rfl,rfl,rfl,rfl,trivial⟩,?_⟩
    unfold H6;first|(simp_all;done)|(simp_all;omega)
   intro iE a H
   try have p26:=dF iE
   refine kH H (Ks iE rfl (Ks iE rfl (Pf iE rfl (Ra rfl ?_))));clear H;intro a H;refine au ?_;refine ⟨_,by exact (H).sub ⟨rfl,rfl,rfl,rfl,rfl,trivial⟩,?_⟩
   unfold H6;first|(simp_all;done)|(simp_all;omega)
  clear H;intro gh a w hI H;obtain ⟨lt,hgh⟩:∃ x,x=gh:=⟨_,rfl⟩;subst hgh;have hlt:=hI;dsimp only [List.cons_append,List.nil_append,List.append_nil] at H;refine qW (ι:=Bool) (Tc:=[(0,_),(3,_),(5,_),(16,_),(17,_)]) (Lc:=[]) (fun (gh:Bool)=>[(6,.bool gh)]) (fun (gh:Bool)=>[]) (fun (gh:Bool)=>G) (fun (gh:Bool)=>gh=Ao (fC s k)) (by exact (H).sub ⟨rfl,rfl,rfl,rfl,rfl,trivial⟩) ?_ ?_
  ·skip;refine kP H (SC (Rm rfl (Rm rfl ?_)));clear H;intro a H;refine lC k fB H wn rfl rfl rfl (by omega) rfl ?_;clear H;intro a H;rw [← jQ] at H;refine kH H (Rc rfl (Rm rfl (Sp 34 rfl ?_ ?_))) <;> clear H
   ·intro cZ a H
    try have p34:=dT cZ
    refine kH H (YM cZ rfl (YM cZ rfl ?_));clear H;intro a H;refine lC k fB H (wg H rfl rfl cZ) rfl rfl rfl (by omega) rfl ?_;clear H;intro a H;rw [← jQ] at H;refine kH H (YC cZ rfl (Pt cZ rfl (Rm rfl (Sp 40 rfl ?_ ?_)))) <;> clear H
    ·intro mV a H
     try have p40:=dT mV
     refine kH H (Ks mV rfl (Ks mV rfl (Ks mV rfl (Ks mV rfl (Pt mV rfl (Rm rfl (Ks rfl rfl (Ks rfl rfl (Ks rfl rfl (Ks rfl rfl (Pt rfl rfl (Ra rfl ?_))))))))))));clear H;intro a H;refine au ?_;refine ⟨_,by exact (H).sub ⟨rfl,rfl,rfl,rfl,rfl,rfl,trivial⟩,?_⟩
     unfold Ao;first|(simp_all;done)|(simp_all;omega)
    intro mV a H
    try have p40:=dF mV
    refine kH H (YM mV rfl (YM mV rfl ?_));clear H;intro a H;refine lC k fB H (wg H rfl rfl mV) rfl rfl rfl (by omega) rfl ?_;clear H;intro a H;rw [← jQ] at H;refine kH H (YC mV rfl (Pf mV rfl (Rm rfl (Sp 46 rfl ?_ ?_)))) <;> clear H
    ·intro h46 a H
     try have p46:=dT h46
     refine kH H (Ks h46 rfl (Ks h46 rfl (Ks h46 rfl (Ks h46 rfl (Pt h46 rfl (Ra rfl ?_))))));clear H;intro a H;refine au ?_;refine ⟨_,by exact (H).sub ⟨rfl,rfl,rfl,rfl,rfl,rfl,trivial⟩,?_⟩
     unfold Ao;first|(simp_all;done)|(simp_all;omega)
    intro h46 a H
    try have p46:=dF h46
    refine kH H (YM h46 rfl (YM h46 rfl ?_));clear H;intro a H;refine lC k fB H (wg H rfl rfl h46) rfl rfl rfl (by omega) rfl ?_;clear H;intro a H;rw [← jQ] at H;refine kH H (YC h46 rfl (Pf h46 rfl (Ra rfl ?_)));clear H;intro a H;refine au ?_;refine ⟨_,by exact (H).sub ⟨rfl,rfl,rfl,rfl,rfl,rfl,trivial⟩,?_⟩
    unfold Ao;first|(simp_all;done)|(simp_all;omega)
   intro cZ a H
   try have p34:=dF cZ
   refine kH H (Ks cZ rfl (Ks cZ rfl (Ks cZ rfl (Ks cZ rfl (Pf cZ rfl (Rm rfl ?_))))));clear H;intro a H;(iterate 2 refine IC H (wg H rfl rfl rfl) rfl rfl ?_;clear H;intro a H);refine lC k fB H (wg H rfl rfl rfl) rfl rfl rfl (by omega) rfl ?_;clear H;intro a H;rw [← jQ] at H;refine Iw H (wg H rfl rfl rfl) rfl rfl rfl rfl ?_;clear H;intro a H;refine kH H (Pf rfl rfl (Rm rfl (Sp 46 rfl ?_ ?_))) <;> clear H
   ·intro h46 a H
    try have p46:=dT h46
    refine kH H (Ks h46 rfl (Ks h46 rfl (Ks h46 rfl (Ks h46 rfl (Pt h46 rfl (Ra rfl ?_))))));clear H;intro a H;refine au ?_;refine ⟨_,by exact (H).sub ⟨rfl,rfl,rfl,rfl,rfl,rfl,trivial⟩,?_⟩
    unfold Ao;first|(simp_all;done)|(simp_all;omega)
   intro h46 a H
   try have p46:=dF h46
   refine kH H (YM h46 rfl (YM h46 rfl ?_));clear H;intro a H;refine lC k fB H (wg H rfl rfl h46) rfl rfl rfl (by omega) rfl ?_;clear H;intro a H;rw [← jQ] at H;refine kH H (YC h46 rfl (Pf h46 rfl (Ra rfl ?_)));clear H;intro a H;refine au ?_;refine ⟨_,by exact (H).sub ⟨rfl,rfl,rfl,rfl,rfl,rfl,trivial⟩,?_⟩
   unfold Ao;first|(simp_all;done)|(simp_all;omega)
  clear H;intro gh a w hI H;obtain ⟨ot,hgh⟩:∃ x,x=gh:=⟨_,rfl⟩;subst hgh;have hot:=hI;dsimp only [List.cons_append,List.nil_append,List.append_nil] at H;refine kP H (SR fun _ bH=>Rm rfl (Rn rfl (Rm rfl (Sp 54 rfl ?_ ?_)))) <;> clear H
  ·intro fG a H
   try have p54:=dT fG
   refine kH H (YM fG rfl (YC fG rfl (YM fG rfl (Sp 57 rfl ?_ ?_)))) <;> clear H
   ·intro h57 a H
    try have p57:=dT h57
    refine kH H (Ks h57 rfl (Ks h57 rfl (PT fG h57 rfl (Pt fG rfl (Kz bH (Ct rfl rfl (SR fun _ bG=>Ra rfl (Kz bG ?_))))))));clear H bH bG;intro a H;refine lr H Tryz.results98 rfl ?_
    first
     | exact H.hp.ret ⟨congrArg Value.bool (by
       unfold l8
       rw [show k=s.size by omega] at hall
       rw [hall,decide_eq_true (by omega)];rfl),rfl⟩
     | exact H.hp.ret ⟨congrArg Value.bool (by
       unfold l8
       rw [show (List.range s.size).all (vW s)=false from List.all_eq_false.2 ⟨k,by simpa using hk2,by unfold vW;simp_all⟩,Bool.and_false]),rfl⟩
   intro h57 a H
   try have p57:=dF h57
   refine kH H (YM h57 rfl (YN h57 rfl (PF fG h57 rfl (Pt fG rfl (Kz bH (Cd rfl ?_ ?_)))))) <;> clear H bH
   ·intro zU a H
    try have p61:=dT zU
    refine kP H (SR fun _ bV=>Ra rfl (Kz bV ?_));clear H bV;intro a H;refine lr H Tryz.results98 rfl ?_
    first
     | exact H.hp.ret ⟨congrArg Value.bool (by
       unfold l8
       rw [show k=s.size by omega] at hall
       rw [hall,decide_eq_true (by omega)];rfl),rfl⟩
     | exact H.hp.ret ⟨congrArg Value.bool (by
       unfold l8
       rw [show (List.range s.size).all (vW s)=false from List.all_eq_false.2 ⟨k,by simpa using hk2,by unfold vW;simp_all⟩,Bool.and_false]),rfl⟩
   intro zU a H
   try have p61:=dF zU
   refine kP H (Kc aH (SC (Rd rfl (Rm rfl ?_))));clear H aH;intro a H;refine au ?_;refine dD ((k+1)) (by exact (H).sub ⟨rfl,rfl,rfl,trivial⟩) ?_ ?_
   ·exact ⟨by omega,by rw [List.range_succ,List.all_append,hall];simp [vW];simp_all⟩
   first|omega|(dsimp only;omega)
  intro fG a H
  try have p54:=dF fG
  refine kH H (Ks fG rfl (Ks fG rfl (Ks fG rfl (Ku rfl (Ku rfl (Ks fG rfl (Pf fG rfl (Kz bH (Cf rfl rfl (Kc aH (SC (Rd rfl (Rm rfl ?_)))))))))))));clear H bH aH;intro a H;refine au ?_;refine dD ((k+1)) (by exact (H).sub ⟨rfl,rfl,rfl,trivial⟩) ?_ ?_
  ·exact ⟨by omega,by rw [List.range_succ,List.all_append,hall];simp [vW];simp_all⟩
  first|omega|(dsimp only;omega)
 intro h18 a H
 try have oZ:=dF h18
 refine dL ?_;refine K6 _ _ ?_;clear K6;refine kP H (SR fun _ bQ=>Ra rfl (Kz bQ ?_));clear H bQ;intro a H;refine lr H Tryz.results98 rfl ?_
 first
  | exact H.hp.ret ⟨congrArg Value.bool (by
    unfold l8
    rw [show k=s.size by omega] at hall
    rw [hall,decide_eq_true (by omega)];rfl),rfl⟩
  | exact H.hp.ret ⟨congrArg Value.bool (by
    unfold l8
    rw [show (List.range s.size).all (vW s)=false from List.all_eq_false.2 ⟨k,by simpa using hk2,by unfold vW;simp_all⟩,Bool.and_false]),rfl⟩
end
section
open Go.RowKit
section
variable {N:Nat} {D:List Deferred} {w0:World} {F:Nat→Prop} {G0 G:GH} {L:OL} {T:List (Nat × Value)}
variable {r:Option Nat} {P:Program} {ops:Array Oper} {Q:Exit→Act→World→Prop} {rest:List Oper} {a:Act} {w:World}
variable {d:Nat} {ty:TypeId} {pos:String} {aG:Array Edge} {g:Option (Nat × Bool)}
end
end
section
open Go.RowKit
section
variable {N:Nat} {D:List Deferred} {w0:World} {F:Nat→Prop} {G0 G:GH} {L:OL} {T T':List (Nat × Value)}
variable {r:Option Nat} {P:Program} {Q:Exit→Act→World→Prop} {l:List Oper} {a a':Act} {w w':World} {ε:Type}
/-- What the slots of the operations that are done hold. -/
def Bb (l:List Oper) (pr:ε→Nat→Value→Prop) (T:List (Nat × Value)) (S:Nat→Bool) (E:ε) (T':List (Nat × Value)):Prop :=
 (∀ t v,lk T t=some v→lk T' t=some v)∧∀ i d,S i=true→dO l i=some d→∃ v,lk T' d=some v∧pr E i v
theorem Bb.put {pr:ε→Nat→Value→Prop} {S:Nat→Bool} {E E':ε} {i d:Nat} {v:Value} (h:Bb l pr T S E T') (hok:XR l T=true) (hi:dO l i=some d) (hv:pr E' i v) (hE:∀ j u,j≠i→pr E j u→pr E' j u):Bb l pr T (eu S i) E' ((d,v) :: T'):=by
 have hil:=wO hi
 have hok1:=List.all_eq_true.1 hok i (List.mem_range.2 hil)
 rw [kX,hi] at hok1
 simp only [Bool.and_eq_true,Option.isNone_iff_eq_none,List.all_eq_true,List.mem_range] at hok1
 refine ⟨fun t u ht=>?_,fun j e hj he=>?_⟩
 ·rw [pY (fun e=>by subst e;rw [hok1.1] at ht;cases ht)];exact h.1 t u ht
 ·by_cases hji:j=i
  ·subst hji;rw [hi] at he;cases he;exact ⟨v,rW _ _ _,hv⟩
  ·have hSj:S j=true:=by unfold eu at hj;rwa [if_neg hji] at hj
   obtain ⟨u,hu1,hu2⟩:=h.2 j e hSj he
   have hne:d≠e:=by
    intro e';subst e'
    have h2:=hok1.2 j (wO he)
    have hb:Nat.beq i j=false:=vE (fun h=>hji h.symm)
    rw [hb,he] at h2
    simp at h2
   exact ⟨u,by rw [pY hne];exact hu1,hE j u hji hu2⟩
theorem Bb.add {pr:ε→Nat→Value→Prop} {S:Nat→Bool} {E:ε} (h:Bb l pr T S E T') {t:Nat} {u:Value} (hu:lk T' t=some u):Bb l pr T S E ((t,u) :: T'):=by
 have e:∀ s v,lk T' s=some v→lk ((t,u) :: T') s=some v:=fun s v hs=>by
  by_cases hst:t=s
  ·subst hst;rw [hu] at hs;cases hs;exact rW _ _ _
  ·rw [pY hst];exact hs
 exact ⟨fun s v hs=>e s v (h.1 s v hs),fun i d hi hd=>by
  obtain ⟨v,h1,h2⟩:=h.2 i d hi hd
  exact ⟨v,e d v h1,h2⟩⟩
end
end
section
open Go.RowKit
section
variable {N:Nat} {D:List Deferred} {w0:World} {F:Nat→Prop} {G0 G G1 G2:GH} {L L1:OL} {T Xs:List (Nat × Value)}
variable {r:Option Nat} {P:Program} {Q:Exit→Act→World→Prop} {l:List Oper} {a a':Act} {w w':World}
theorem O6 {id:Nat} (hm:P.follows .mixedOrders=true) (bM:List (List Nat)) (B:List Nat) (hk:zO l bM=true) (hB:xW l bM B=true) (X:(Nat→Bool)→Act→World→Prop) (h0:X (fun _=>false) a w.drew)
  (hstep:∀ i o S a w,l[i]?=some o→B.contains i=false→S i=false→(∀ j∈bM.getD i [],S j=true)→(∀ j,j < l.length→i∈bM.getD j []→S j=false)→X S a w→WL r P l.toArray (fun e a' w'=>e=.normal∧X (eu S i) a' w') [o] a w)
  (hend:∀ S a w,(∀ i,i < l.length→B.contains i=false→S i=true)→(∀ i,B.contains i=true→S i=false)→X S a w→WL r P l.toArray (fun e a w=>e=.normal∧Q .normal a w) (ou l B) a w):WP r P (.region id l.toArray true) Q a w:=by
 have hB1:∀ p b,B[p]?=some b→b < l.length∧∀ i,i < l.length→(B.contains i=false∨(B.take p).contains i=true)→i∈bM.getD b []:=by
  intro p b hp
  simp only [xW,Bool.and_eq_true] at hB
  have h1:=List.all_eq_true.1 hB.1 p (List.mem_range.2 (List.getElem?_eq_some_iff.1 hp).1)
  rw [hp] at h1
  simp only [Bool.and_eq_true,List.all_eq_true,List.mem_range] at h1
  refine ⟨Eq.mp Nat.blt_eq h1.1,fun i hi hor=>?_⟩
  have h2:=h1.2 i hi
  rcases hor with h3|h3
  ·have h4:i∉B:=by simpa using h3
   simpa [h4] using h2
  ·have h4:i∈B.take p:=by simpa using h3
   simpa [h4] using h2
 have hB2:∀ i,i < l.length→B.contains i=false→∀ j∈bM.getD i [],B.contains j=false:=by
  intro i hi hb j hj
  simp only [xW,Bool.and_eq_true] at hB
  have h1:=List.all_eq_true.1 hB.2 i (List.mem_range.2 hi)
  rw [hb] at h1
  simp only [Bool.false_or,List.all_eq_true] at h1
  simpa using h1 j hj
 refine O5 hm bM hk (fun S a w=>((∀ i,B.contains i=true→S i=false)∧X S a w) ∨
   ∃ p,(∀ i,i < l.length→B.contains i=false→S i=true)∧(∀ i,(B.take p).contains i=true→S i=true)∧(∀ q b,B[q]?=some b→p≤q→S b=false)∧WL r P l.toArray (fun e a w=>e=.normal∧Q .normal a w) (ou l (B.drop p)) a w)
  (.inl ⟨fun _ _=>rfl,h0⟩) ?_ ?_
 ·intro i o S a w ho hX aZ lN hdesc
  have hil:i < l.length:=(List.getElem?_eq_some_iff.1 ho).1
  by_cases hbi:B.contains i=true
  ·-- an operation of the tail: all that stands ahead of it is done
   obtain ⟨p0,hp0⟩:=List.getElem?_of_mem (by simpa using hbi:i∈B)
   have hall:∀ j,j < l.length→B.contains j=false→S j=true:=fun j hj hb=>lN j ((hB1 p0 i hp0).2 j hj (.inl hb))
   have Mk:∃ p,(∀ i,(B.take p).contains i=true→S i=true)∧(∀ q b,B[q]?=some b→p≤q→S b=false)∧WL r P l.toArray (fun e a w=>e=.normal∧Q .normal a w) (ou l (B.drop p)) a w:=by
    rcases hX with ⟨h1,hD⟩|⟨p,_,h2,h3,h4⟩
    ·exact ⟨0,by simp,fun q b hq _=>h1 b (by simpa using List.mem_of_getElem? hq),hend S a w hall h1 hD⟩
    ·exact ⟨p,h2,h3,h4⟩
   obtain ⟨p,h2,h3,h4⟩:=Mk
   -- i is the next one
   have hpp:p≤p0:=by
    rcases Nat.lt_or_ge p0 p with hlt|hge
    ·have:(B.take p).contains i=true:=by
      simp only [List.contains_iff_mem]
      exact List.mem_of_getElem? (i:=p0) (by rw [List.getElem?_take,if_pos hlt];exact hp0)
     rw [h2 i this] at aZ;cases aZ
    ·exact hge
   have z8:p < B.length:=by have:=(List.getElem?_eq_some_iff.1 hp0).1;omega
   have hbp:B[p]?=some B[p]:=List.getElem?_eq_getElem z8
   have heq:B[p]=i:=by
    rcases Nat.lt_or_ge p p0 with hlt|hge
    ·exfalso
     have hin:B[p]∈bM.getD i []:=(hB1 p0 i hp0).2 _ (hB1 p _ hbp).1 (.inr (by
      simp only [List.contains_iff_mem]
      exact List.mem_of_getElem? (i:=p) (by rw [List.getElem?_take,if_pos hlt];exact hbp)))
     have:=lN _ hin
     rw [h3 p _ hbp (Nat.le_refl _)] at this;cases this
    ·have:p=p0:=by omega
     subst this
     rw [hbp] at hp0;simpa using hp0
   have hdrop:B.drop p=i :: B.drop (p+1):=by rw [List.drop_eq_getElem_cons z8,heq]
   have hops:ou l (B.drop p)=o :: ou l (B.drop (p+1)):=by rw [hdrop];simp [ou,ho]
   rw [hops] at h4
   refine U3 (fun a' w' h5=>.inr ⟨p+1,fun j hj hb=>?_,fun j hj=>?_,fun q b hq hpq=>?_,h5⟩) h4
   ·unfold eu;split
    ·rfl
    ·exact hall j hj hb
   ·unfold eu;split
    ·rfl
    ·rename_i hne
     refine h2 j ?_
     simp only [List.contains_iff_mem] at hj ⊢
     rw [List.take_succ_eq_append_getElem z8,List.mem_append] at hj
     rcases hj with hj|hj
     ·exact hj
     ·simp only [List.mem_singleton] at hj;exact absurd (hj.trans heq) hne
   ·unfold eu
    rw [if_neg ?_]
    ·exact h3 q b hq (by omega)
    ·rintro rfl
     -- i would stand twice in B: it would come ahead of itself
     have h6:=(hB1 q b hq).2 b (hB1 q b hq).1 (.inr (by
      simp only [List.contains_iff_mem]
      exact List.mem_of_getElem? (i:=p) (by rw [List.getElem?_take,if_pos (by omega)];rw [hbp,heq])))
     rw [lN _ h6] at aZ;cases aZ
  ·have zZ:B.contains i=false:=by cases h:B.contains i with|false=>rfl|true=>exact absurd h hbi
   rcases hX with ⟨h1,hX⟩|⟨p,h0,_,_,_⟩
   ·refine pF (fun e a' w' ⟨he,hD⟩=>⟨he,.inl ⟨fun j hj=>?_,hD⟩⟩) (hstep i o S a w ho zZ aZ lN hdesc hX)
    unfold eu
    rw [if_neg (by rintro rfl;rw [zZ] at hj;cases hj)]
    exact h1 j hj
   ·rw [h0 i hil zZ] at aZ;cases aZ
 ·intro S a w hall hX
  rcases hX with ⟨h1,hD⟩|⟨p,_,_,h3,h4⟩
  ·have hnil:B=[]:=by
    cases B with
    | nil=>rfl
    | cons b B=>have h5:=h1 b (by simp);rw [hall b (hB1 0 b rfl).1] at h5;cases h5
   subst hnil
   exact (hend S a w (fun j hj _=>hall j hj) h1 hD).2
  ·have hnil:B.drop p=[]:=by
    cases hd:B.drop p with
    | nil=>rfl
    | cons b B' =>
     have hb:B[p]?=some b:=by
      have:=congrArg (fun x:List Nat=>x[0]?) hd
      simpa using this
     have h5:=h3 p b hb (Nat.le_refl _)
     rw [hall b (hB1 p b hb).1] at h5;cases h5
   rw [hnil] at h4
   exact h4.2
/-- The operation that makes what is owned more. -/
theorem PL {pr:Nat→Value→GH→Prop} {S:Nat→Bool} {i d:Nat} {v:Value} (hok:kX l T i=true) (hi:dO l i=some d) 
  (HT:St N D w0 F G0 G1 L T a w) (Hb:St N D w0 F G0 G1 L (Xs++full N a) a w) (hG:∀ k o,G k=some o→G1 k=some o) (hv:∀ j d,j≠i→S j=true→dO l j=some d→∃ v,a.tmps[d]?=some v∧pr j v G1)
  (hp:pr i v G1) (H:St N D w0 F G0 G1 L1 ((d,v) :: (Xs++full N a)) a' w'):DX N D w0 F G0 G L1 T l pr (eu S i) a' w':=by
 have hil:i < l.length:=wO hi
 have hok1:=hok
 rw [kX,hi] at hok1
 simp only [Bool.and_eq_true,Option.isNone_iff_eq_none,List.all_eq_true,List.mem_range] at hok1
 have hsame:∀ t,t≠d→a'.tmps[t]?=a.tmps[t]?:=by
  intro t ht
  by_cases hlt:t < N
  ·have h1:∃ u,lk (Xs++full N a) t=some u:=by
    rw [HY]
    cases lk Xs t with
    | some u=>exact ⟨u,rfl⟩
    | none=>exact ⟨_,HZ a hlt⟩
   obtain ⟨u,hu⟩:=h1
   rw [Hb.get t u hu,H.get t u (by rw [pY (Ne.symm ht)];exact hu)]
  ·rw [Array.getElem?_eq_none (by rw [H.jP];omega),Array.getElem?_eq_none (by rw [Hb.jP];omega)]
 refine ⟨G1,hG,⟨H.jP,fun t u ht=>?_,H.nQ,H.hp⟩,fun j e hj he=>?_⟩
 ·rw [hsame t (fun e=>by rw [e,hok1.1] at ht;cases ht)]
  exact HT.get t u ht
 ·by_cases hji:j=i
  ·subst hji
   rw [hi] at he
   simp only [Option.some.injEq] at he
   subst he
   exact ⟨v,H.get d v (rW _ _ _),hp⟩
  ·have hSj:S j=true:=by unfold eu at hj;rwa [if_neg hji] at hj
   obtain ⟨u,hu1,hu2⟩:=hv j e hji hSj he
   have hne:e≠d:=by
    intro e'
    subst e'
    have h2:=hok1.2 j (wO he)
    rw [vE (fun h=>hji h.symm),he] at h2
    simp at h2
   exact ⟨u,by rw [hsame e hne];exact hu1,hu2⟩
end
end
section
open Go.RowKit
section
variable {N:Nat} {D:List Deferred} {w0:World} {F:Nat→Prop} {G0 G:GH} {L:OL} {T:List (Nat × Value)}
variable {r:Option Nat} {P:Program} {ops:Array Oper} {Q:Exit→Act→World→Prop} {rest:List Oper} {a:Act} {w:World}
variable {d:Nat} {ty:TypeId} {pos:String} {aG:Array Edge} {g:Option (Nat × Bool)}
theorem Cu {t:TypeId} (H:St N D w0 F G0 G L T a w) (hw:Region.wanted ⟨some d,.makeMap t none,ty,pos,aG,g⟩ (yielded ops a.tmps)=true) (hd:Nat.blt d N=true)
  (k:∀ b a' w',w0.heap.size≤b→St N D w0 F G0 G ((b,.map #[] 0) :: L) ((d,.map (some b)) :: T) a' w'→WL r P ops Q rest a' w'):WL r P ops Q (⟨some d,.makeMap t none,ty,pos,aG,g⟩ :: rest) a w:=by
 refine eT (v:=.map (some w.heap.size)) (w':=w.alloc (.map #[] 0)) hw rfl ?_ (k _ _ _ H.hp.size (H.put hd _ (H.hp.alloc _)))
 simp [execOp,Instr.makeMap,newObj,Sem.run,Sem.run_bind]
/-- What a lookup finds. -/
def xJ (an:Option (Nat × Value)) (zv:Value):Value × Bool:=match an with|some (_,v)=>(v,true)|none=>(zv,false)
theorem ad7 {t kt et:TypeId} {kd:TypeDesc} {x y:Operand} {b i clock:Nat} {es:Array MapEntry} {ky zv:Value} (an:Option (Nat × Value)) (hm:P.underlying t=some (.map kt et)) (hk:P.underlying kt=some kd) (hz:(P.info? et).map (fun i=>i.zero)=some (some zv)) (H:St N D w0 F G0 G L T a w)
  (hw:Region.wanted ⟨some d,.lookup t x y true,ty,pos,aG,g⟩ (yielded ops a.tmps)=true) (hx:ev T x=some (.map (some b))) (hy:ev T y=some ky) (hi:L[i]?=some (b,.map es clock)) (hky:MapKept.IsKey kd ky) (hf:Instr.findNow kd ky es.toList 0=some an) (hd:Nat.blt d N=true)
  (k:∀ a',St N D w0 F G0 G L ((d,.tuple #[(xJ an zv).1,.bool (xJ an zv).2]) :: T) a' w→WL r P ops Q rest a' w):WL r P ops Q (⟨some d,.lookup t x y true,ty,pos,aG,g⟩ :: rest) a w:=by
 have hb:w.heap[b]?=some (.map es clock):=H.hp.own _ (List.mem_of_getElem? hi)
 obtain ⟨inf,hi1,hi2⟩:=Option.map_eq_some_iff.1 hz
 refine eT (v:=.tuple #[(xJ an zv).1,.bool (xJ an zv).2]) (w':=w) hw rfl ?_ (k _ (H.put hd _ H.hp))
 have h1:=MapKept.run_checkKey (w:=w) hk hky es.isEmpty 9999
 have h2:=MapKept.run_findKey (w:=w) hk hf
 cases an with
 | none=>simp [execOp,Instr.lookup,H.ev hx,H.ev hy,Sem.run_bind,mE hm,MapKept.run_getObj_map hb,h1,h2,Result.andThen,zeroValue,Ar hi1,hi2,xJ]
 | some q=>simp [execOp,Instr.lookup,H.ev hx,H.ev hy,Sem.run_bind,mE hm,MapKept.run_getObj_map hb,h1,h2,Result.andThen,xJ]
theorem ae9 {w:World} {b clock:Nat} {es:Array MapEntry} {o:Obj} (h:w.heap[b]?=some (.map es clock)):qo b o w { w with heap:=w.heap.setIfInBounds b o }:=by
 have hlt:b < w.heap.size:=(Array.getElem?_eq_some_iff.1 h).1
 refine ⟨rfl,rfl,rfl,by simp,by simp [hlt],fun k hk=>?_⟩
 simp only
 rw [Array.getElem?_setIfInBounds_ne (Ne.symm hk)]
/-- A key that is not there yet. -/
theorem TV {t kt et:TypeId} {kd:TypeDesc} {x y z:Operand} {b i clock:Nat} {es:Array MapEntry} {ky v:Value} (hm:P.underlying t=some (.map kt et)) (hk:P.underlying kt=some kd) (H:St N D w0 F G0 G L T a w)
  (hw:Region.wanted ⟨none,.mapUpdate t x y z,ty,pos,aG,g⟩ (yielded ops a.tmps)=true) (hx:ev T x=some (.map (some b))) (hy:ev T y=some ky) (hzv:ev T z=some v) (hi:L[i]?=some (b,.map es clock)) (hky:MapKept.IsKey kd ky) (hf:Instr.findNow kd ky es.toList 0=some none)
  (k:∀ w',St N D w0 F G0 G (L.set i (b,.map (es.push ⟨ky,v,clock⟩) (clock+1))) T a w'→WL r P ops Q rest a w'):WL r P ops Q (⟨none,.mapUpdate t x y z,ty,pos,aG,g⟩ :: rest) a w:=by
 have hb:w.heap[b]?=some (.map es clock):=H.hp.own _ (List.mem_of_getElem? hi)
 have h1:=MapKept.run_checkKey (w:=w) hk hky false 9999
 have h2:=MapKept.run_findKey (w:=w) hk hf
 refine U4 (w':={ w with heap:=w.heap.setIfInBounds b (.map (es.push ⟨ky,v,clock⟩) (clock+1)) }) hw rfl ?_ (k _ (H.move (H.hp.upd hi (ae9 hb))))
 simp [execOp,Instr.mapUpdate,H.ev hx,H.ev hy,H.ev hzv,Sem.run_bind,mE hm,MapKept.run_getObj_map hb,h1,h2,MapKept.run_setObj_map _ hb,Result.andThen]
theorem aea {t yt:TypeId} {x y:Operand} {p q:ByteArray} (H:St N D w0 F G0 G L T a w) (hw:Region.wanted ⟨some d,.binOp .neq t x y yt,ty,pos,aG,g⟩ (yielded ops a.tmps)=true) (hx:ev T x=some (.string p)) (hy:ev T y=some (.string q)) (hd:Nat.blt d N=true)
  (k:∀ a',St N D w0 F G0 G L ((d,.bool (!(p.toList == q.toList))) :: T) a' w→WL r P ops Q rest a' w):WL r P ops Q (⟨some d,.binOp .neq t x y yt,ty,pos,aG,g⟩ :: rest) a w:=by
 refine eT (v:=.bool (!(p.toList == q.toList))) (w':=w) hw rfl ?_ (k _ (H.put hd _ H.hp))
 simp [execOp,H.ev hx,H.ev hy,Sem.run_bind,eqGuard,binOp,Op.stringOp]
theorem Hp.MU (h:Hp w0 F G0 G L w) {b o:Nat} {c:Array Value} {e:TypeId} {fz:Nat × Nat} {v:Value} (hm:(b,Obj.cells c e fz)∈L) (hv:c[o]?=some v):w.cell? ⟨b,o,none⟩=some v:=by
 have:=h.own _ hm
 simp only [World.cell?,this]
 exact hv
end
end
section
open Go.RowKit
section
variable {N:Nat} {D:List Deferred} {w0:World} {F:Nat→Prop} {G0 G G1 G2:GH} {L L1:OL} {T Xs:List (Nat × Value)}
variable {r:Option Nat} {P:Program} {Q:Exit→Act→World→Prop} {l:List Oper} {a a':Act} {w w':World}
end
end
section
open Go.RowKit
section
variable {N:Nat} {D:List Deferred} {w0:World} {F:Nat→Prop} {G0 G G1 G2:GH} {L L1 L2:OL} {T Xs:List (Nat × Value)}
variable {r:Option Nat} {P:Program} {Q:Exit→Act→World→Prop} {l:List Oper} {a a':Act} {w w':World}
theorem XP {pr:Nat→Value→GH→Prop} {S:Nat→Bool} {i:Nat} (hi:dO l i=none) (HT:St N D w0 F G0 G1 L T a w) (hG:∀ k o,G k=some o→G1 k=some o) (hv:∀ i d,S i=true→dO l i=some d→∃ v,a.tmps[d]?=some v∧pr i v G1)
  (H:St N D w0 F G0 G1 L2 (Xs++full N a) a w'):DX N D w0 F G0 G L2 T l pr (eu S i) a w' :=
 ⟨G1,hG,HT.move H.hp,fun j e hj he=>hv j e (by
  unfold eu at hj
  by_cases hji:j=i
  ·subst hji;rw [hi] at he;cases he
  ·rwa [if_neg hji] at hj) he⟩
/-- One operation turns one owned block into another one; the others are shown beside both. -/
theorem Ws {id:Nat} (hm:P.follows .mixedOrders=true) (bM:List (List Nat)) (B:List Nat) (hk:zO l bM=true) (hB:xW l bM B=true) (m:Nat) (hmB:B.contains m=false) (pr:Nat→Value→GH→Prop) (ix:Nat) (ob:Nat × Obj)
  (H:St N D w0 F G0 G L T a w)
  (hstep:allI (fun i o=>∀ S a w G1,B.contains i=false→Nat.beq i m=false→S i=false→(∀ j∈bM.getD i [],S j=true)→(∀ k o,G k=some o→G1 k=some o)→St N D w0 F G0 G1 L T a w→(∀ i d,S i=true→dO l i=some d→∃ v,a.tmps[d]?=some v∧pr i v G1) →
   WL r P l.toArray (fun e a' w'=>e=.normal∧DX N D w0 F G0 G L T l pr (eu S i) a' w') [o] a w) 0 l)
  (hmid:∀ o S a w G1,l[m]?=some o→S m=false→(∀ j∈bM.getD m [],S j=true)→(∀ k o,G k=some o→G1 k=some o)→St N D w0 F G0 G1 L T a w→(∀ i d,S i=true→dO l i=some d→∃ v,a.tmps[d]?=some v∧pr i v G1) →
   WL r P l.toArray (fun e a' w'=>e=.normal∧DX N D w0 F G0 G (L.set ix ob) T l pr (eu S m) a' w') [o] a w)
  (hstep2:allI (fun i o=>∀ S a w G1,(B.contains i || (bM.getD m []).contains i)=false→Nat.beq i m=false→S i=false→(∀ j∈bM.getD i [],S j=true)→(∀ k o,G k=some o→G1 k=some o)→St N D w0 F G0 G1 (L.set ix ob) T a w→(∀ i d,S i=true→dO l i=some d→∃ v,a.tmps[d]?=some v∧pr i v G1) →
   WL r P l.toArray (fun e a' w'=>e=.normal∧DX N D w0 F G0 G (L.set ix ob) T l pr (eu S i) a' w') [o] a w) 0 l)
  (hend:∀ a w G1,(∀ k o,G k=some o→G1 k=some o)→St N D w0 F G0 G1 (L.set ix ob) T a w→(∀ i d,B.contains i=false→dO l i=some d→∃ v,a.tmps[d]?=some v∧pr i v G1)→WL r P l.toArray (fun e a w=>e=.normal∧Q .normal a w) (ou l B) a w)
  (hml:Nat.blt m l.length=true):WP r P (.region id l.toArray true) Q a w:=by
 refine O6 hm bM B hk hB (fun S a w=>(S m=false∧DX N D w0 F G0 G L T l pr S a w)∨(S m=true∧DX N D w0 F G0 G (L.set ix ob) T l pr S a w))
  (.inl ⟨rfl,G,fun _ _ h=>h,H.move H.hp.drew,fun _ _ h=>absurd (show false=true from h) (by decide)⟩) ?_ ?_
 ·rintro i o S a w ho hb aZ lN hdesc hX
  by_cases him:i=m
  ·subst him
   rcases hX with ⟨_,G1,hG,HS,hv⟩|⟨h1,_⟩
   ·have h:=hmid o S a w G1 ho aZ lN hG HS hv
    have e1:eu S i i=true:=if_pos rfl
    exact pF (fun e a' w' ⟨he,hD⟩=>⟨he,.inr ⟨e1,hD⟩⟩) h
   ·rw [h1] at aZ;cases aZ
  ·have e:eu S i m=S m:=if_neg (fun h=>him h.symm)
   rcases hX with ⟨h1,G1,hG,HS,hv⟩|⟨h1,G1,hG,HS,hv⟩
   ·have h:=Dt hstep i o ho
    rw [Nat.zero_add] at h
    exact pF (fun e' a' w' ⟨he,hD⟩=>⟨he,.inl ⟨e.trans h1,hD⟩⟩) (h S a w G1 hb (vE him) aZ lN hG HS hv)
   ·have h:=Dt hstep2 i o ho
    rw [Nat.zero_add] at h
    have hnc:(B.contains i || (bM.getD m []).contains i)=false:=by
     rw [hb,Bool.false_or]
     cases hc2:(bM.getD m []).contains i with
     | false=>rfl
     | true=>have:=hdesc m (Eq.mp Nat.blt_eq hml) (List.contains_iff_mem.1 hc2);rw [h1] at this;cases this
    exact pF (fun e' a' w' ⟨he,hD⟩=>⟨he,.inr ⟨e.trans h1,hD⟩⟩) (h S a w G1 hnc (vE him) aZ lN hG HS hv)
 ·rintro S a w hall hnB hX
  have Rq:S m=true:=hall m (Eq.mp Nat.blt_eq hml) hmB
  rcases hX with ⟨h1,_⟩|⟨h1,G1,hG,HS,hv⟩
  ·rw [h1] at Rq;cases Rq
  ·exact hend a w G1 hG HS fun j d hb hd=>hv j d (hall j (wO hd) hb) hd
end
end
section
open Go.RowKit
theorem acu:liesAt Tryz.prog Tryz.prog.depth 228 (7 / Tryz.prog.cellsOf 228) 2 226 1=true:=by kernel_rfl
theorem YG:∀ args w,(callFunc 146 args).run Tryz.prog w=.ok (.enter 146 args) w:=enters Tryz.func146 rfl (by kernel_rfl)
theorem IY:Ty Tryz.prog 5 1 1 [.int .u8 0] false:=⟨by kernel_rfl,by kernel_rfl⟩
/-- A scanner's block. -/
abbrev eZ (b:Nat) (s:ByteArray) (i:Int) (p v q:Value) (pl e:Int):Nat × Obj:=(b,.cells #[.string s,vi i,p,v,q,vi pl,vi e] 228 (0,0))
theorem aek (G:GH) (L:OL) (w0:World) (b:Nat) (s:ByteArray) (i:Int) (A:Option Addr) (n c:Nat) (B:Option Addr) (m d:Nat) (pl e:Int) (hO:gT G (eZ b s i (.pointer none) (.slice A n c) (.slice B m d) pl e :: L) w0) :
  Calls Tryz.prog 146 #[.pointer (some ⟨b,2,none⟩)] w0 (fQ w0 G (eZ b s i (.pointer none) (.slice A n c) (.slice B m d) pl e :: L) fun u G' L'=>L'=eZ b s i (.pointer (some ⟨b,2,none⟩)) (.slice A n c) (.slice B m d) pl e :: L∧G'=G):=by
 refine jv (N:=20) (T:=[(0,_)]) Tryz.func146 rfl Tryz.ntmps146 rfl rfl hO ?_;intro a H;refine kP H (SR fun _ K1=>Rm rfl (Rk rfl (Rf DY rfl (Ro ES 0 rfl rfl ?_))));clear H;intro a H;refine TT EW H wn rfl rfl ?_;clear H;intro a H;refine K1 _ _ ?_;clear K1;refine l6 H rfl ?_ ?_
 ·intro h6
  try have p6:=dT h6
  refine kP H (SC (Rm rfl (Rm rfl ?_)));clear H;intro a H;refine aeh EW Uv Nw H wn rfl 0 rfl rfl rfl ?_;clear H;intro a H;refine aeb (xs:=[.tmp 9]) (acM _) H wn rfl rfl ?_;clear H;intro a H;refine ad6 Uv EW Nw H wn rfl 0 rfl acu rfl ?_;clear H;intro a H;refine kH H (Rk rfl (Rf DY rfl ?_));clear H;intro a H;refine aP ES 0 (vs:=[_]) _ H wn rfl rfl rfl rfl rfl rfl rfl rfl ?_;clear H;intro w H;dsimp only [List.set,setRow] at H;refine au ?_;refine (leave0 H Tryz.results146 ?_).2;exact H.hp.eG ⟨rfl,rfl⟩
 intro h6
 try have p6:=dF h6
 exact absurd h6 (by decide)
theorem ael (G:GH) (L:OL) (w0:World) (b:Nat) (s:ByteArray) (i:Int) (A:Option Addr) (n c:Nat) (B:Option Addr) (m d:Nat) (pl e:Int) (hO:gT G (eZ b s i (.pointer (some ⟨b,2,none⟩)) (.slice A n c) (.slice B m d) pl e :: L) w0) :
  Calls Tryz.prog 146 #[.pointer (some ⟨b,2,none⟩)] w0 (fQ w0 G (eZ b s i (.pointer (some ⟨b,2,none⟩)) (.slice A n c) (.slice B m d) pl e :: L) fun u G' L'=>L'=eZ b s i (.pointer (some ⟨b,2,none⟩)) (.slice A n c) (.slice B m d) pl e :: L∧G'=G):=by
 refine jv (N:=20) (T:=[(0,_)]) Tryz.func146 rfl Tryz.ntmps146 rfl rfl hO ?_;intro a H;refine kP H (SR fun _ K1=>Rm rfl (Rk rfl (Rf DY rfl (Ro ES 0 rfl rfl ?_))));clear H;intro a H;refine TT EW H wn rfl rfl ?_;clear H;intro a H;refine K1 _ _ ?_;clear K1;refine l6 H rfl ?_ ?_
 ·intro h6
  try have p6:=dT h6
  exact absurd h6 (by simp)
 intro h6
 try have p6:=dF h6
 refine kP H (SR fun _ K2=>Rm rfl (Rk rfl (Rf DY rfl (Ro ES 0 rfl rfl (Rm rfl ?_)))));clear H;intro a H;refine ad9 EW Nw H wn rfl rfl rfl ?_;clear H;intro a H;refine K2 _ _ ?_;clear K2;refine l6 H rfl ?_ ?_
 ·intro h19
  try have j6:=dT h19
  exact absurd h19 (by decide)
 intro h19
 try have j6:=dF h19
 refine eX ?_;refine (leave0 H Tryz.results146 ?_).2;exact H.hp.eG ⟨rfl,rfl⟩
theorem aem (G:GH) (L:OL) (w0:World) (b:Nat) (s:ByteArray) (i:Int) (p:Value) (A:Option Addr) (n c:Nat) (B:Option Addr) (m d:Nat) (pl e:Int) (hp:p=.pointer none∨p=.pointer (some ⟨b,2,none⟩)) (hO:gT G (eZ b s i p (.slice A n c) (.slice B m d) pl e :: L) w0) :
  Calls Tryz.prog 146 #[.pointer (some ⟨b,2,none⟩)] w0 (fQ w0 G (eZ b s i p (.slice A n c) (.slice B m d) pl e :: L) fun u G' L'=>L'=eZ b s i (.pointer (some ⟨b,2,none⟩)) (.slice A n c) (.slice B m d) pl e :: L∧G'=G):=by
 rcases hp with rfl|rfl
 ·exact aek G L w0 b s i A n c B m d pl e hO
 exact ael G L w0 b s i A n c B m d pl e hO
theorem UY (G:GH) (Lp Lo:OL) (w0:World) (b:Nat) (s:ByteArray) (i:Int) (p v:Value) (B:Option Addr) (m d:Nat) (pl e:Int) (n:Nat) (xs:List Value) (c:Int) (hp:p=.pointer none∨p=.pointer (some ⟨b,2,none⟩)) (hO:gT G (eZ b s i p v (.slice B m d) pl e :: (Lp++Lo)) w0) (hrow:eB 5 1 v n xs Lo) (hn:n≤4294967296) :
  Calls Tryz.prog 141 #[.pointer (some ⟨b,2,none⟩),.int .u8 c] w0 (fQ w0 G (eZ b s i p v (.slice B m d) pl e :: (Lp++Lo)) fun u G' L'=>∃ v' iB,L'=eZ b s i (.pointer (some ⟨b,2,none⟩)) v' (.slice B m d) pl e :: (Lp++iB)∧eB 5 1 v' (n+1) (xs++[.int .u8 c]) iB∧G'=G):=by
 have hml:maxLen=9223372036854775807:=rfl;obtain ⟨A,c0,rfl,-,-⟩:=hrow.shape;obtain ⟨Lt,lM⟩:∃ x,x=Lp++Lo:=⟨_,rfl⟩;rw [← lM] at hO ⊢;refine jv (N:=17) (T:=[(0,_),(1,_)]) Tryz.func141 rfl Tryz.ntmps141 rfl rfl hO ?_;intro a H;refine kP H (SR fun _ K1=>Ra rfl (Kz K1 (SR fun _ K2=>Rm rfl ?_)));clear H K1;intro a H;refine gy YG (Li:=[]) (L:=eZ b s i p _ (.slice B m d) pl e :: Lt) H wn rfl (aem _ _ _ b s i p A n c0 B m d pl e hp (Hp.owns (Li:=[]) H.hp)) rfl ?_;clear H;rintro v6 _ L6 a w ⟨rfl,rfl⟩ Rj H;dsimp only [List.nil_append] at H;refine K2 _ _ ?_;clear K2;refine kP H (SR fun _ K3=>Rm rfl (Rm rfl (Rk rfl (Rf Bv rfl (Ro CB 0 rfl rfl (Rm rfl ?_))))));clear H;intro a H;refine fM Az IY [_] [_] H wn rfl rfl rfl rfl rfl (by intro i q h;match i,h with|0,h=>exact h|n+1,h=>simp at h) rfl rfl ?_;clear H;intro b13 a w Ei H;subst lM;have H:=St.un (A:=[_,_]) (B:=Lp) (C:=Lo) H;refine sF (Li:=[_,_]++Lp) (Lo:=Lo) (news:=[.int .u8 c]) Az IY rfl rfl H wn rfl rfl hrow rfl (H.hp.bF 0 rfl rfl) rfl (by omega) (by omega) rfl ?_;clear H;intro v14 VO a w RJ H;obtain ⟨Va,c14,rfl,-,-⟩:=RJ.shape;have H:=H.assoc;dsimp only [List.cons_append,List.nil_append] at H;refine kH H (Rk rfl (Rf Bv rfl ?_));clear H;intro a H;refine aP CB 1 (vs:=[_]) _ H wn rfl rfl rfl rfl rfl rfl rfl rfl ?_;clear H;intro w H;dsimp only [List.set,setRow] at H;refine K3 _ _ ?_;clear K3;exact kP H (SR fun _ K4=>Ra rfl (Kz K4 (LR Tryz.results141 rfl fun H=>H.hp.bR (L':=eZ b s i _ _ _ pl e :: (Lp++VO)) (List.sublist_cons_self _ _) ⟨_,_,rfl,RJ,rfl⟩)))
theorem aeE (G:GH) (L:OL) (w0:World) (b:Nat) (s:ByteArray) (i:Int) (p:Value) (A:Option Addr) (n c:Nat) (B:Option Addr) (m d:Nat) (pl e:Int) (hO:gT G (eZ b s i p (.slice A n c) (.slice B m d) pl e :: L) w0) :
  Calls Tryz.prog 147 #[.pointer (some ⟨b,2,none⟩)] w0 (fQ w0 G (eZ b s i p (.slice A n c) (.slice B m d) pl e :: L) fun u G' L'=>u=vi n∧L'=eZ b s i p (.slice A n c) (.slice B m d) pl e :: L∧G'=G):=by
 refine jv (N:=8) (T:=[(0,_)]) Tryz.func147 rfl Tryz.ntmps147 rfl rfl hO ?_;intro a H;exact kP H (SR fun _ K1=>Ra rfl (Kz K1 (SR fun _ K2=>Rm rfl (Rk rfl (Rf Bv rfl (Ro CB 0 rfl rfl (Rl Az rfl (Ra rfl (Kz K2 (LR Tryz.results147 rfl fun H=>H.hp.eG ⟨rfl,rfl,rfl⟩))))))))))
theorem aeM (G:GH) (L:OL) (w0:World) (b:Nat) (s:ByteArray) (i:Int) (p:Value) (A:Option Addr) (n c:Nat) (B:Option Addr) (m d:Nat) (pl e:Int) (hO:gT G (eZ b s i p (.slice A n c) (.slice B m d) pl e :: L) w0) :
  Calls Tryz.prog 149 #[.pointer (some ⟨b,2,none⟩)] w0 (fQ w0 G (eZ b s i p (.slice A n c) (.slice B m d) pl e :: L) fun u G' L'=>L'=eZ b s i (.pointer none) (.slice none 0 0) (.slice B m d) pl e :: L∧G'=G):=by
 refine jv (N:=8) (T:=[(0,_)]) Tryz.func149 rfl Tryz.ntmps149 rfl rfl hO ?_;intro a H;refine kP H (SR fun _ K1=>Rm rfl (Rk rfl (Rf DY rfl ?_)));clear H;intro a H;refine aP ES 0 (vs:=[_]) _ H wn rfl rfl rfl rfl rfl rfl rfl rfl ?_;clear H;intro w H;dsimp only [List.set,setRow] at H;refine K1 _ _ ?_;clear K1;refine kP H (SC (Rm rfl (Rk rfl (Rf Bv rfl ?_))));clear H;intro a H;refine aP CB 0 (vs:=[_]) _ H wn rfl rfl rfl rfl rfl rfl rfl rfl ?_;clear H;intro w H;dsimp only [List.set,setRow] at H;refine au ?_;refine (leave0 H Tryz.results149 ?_).2;exact H.hp.eG ⟨rfl,rfl⟩
theorem aeN (G:GH) (Lp Lo:OL) (w0:World) (b:Nat) (s:ByteArray) (i:Int) (p v:Value) (B:Option Addr) (m d:Nat) (pl e:Int) (l:List UInt8) (hO:gT G (eZ b s i p v (.slice B m d) pl e :: (Lp++Lo)) w0) (hrow:eB 5 1 v l.length (Lib.byteCells l) Lo) (h0:l≠[]) :
  Calls Tryz.prog 148 #[.pointer (some ⟨b,2,none⟩)] w0 (fQ w0 G (eZ b s i p v (.slice B m d) pl e :: (Lp++Lo)) fun u G' L'=>u=.string ⟨l.toArray⟩∧L'=eZ b s i p v (.slice B m d) pl e :: Lp):=by
 rcases hrow.2 with ⟨-,h,-⟩|⟨b2,cap,cur,rfl,rfl,hc1,hc2,hc3,hc4⟩
 ·exact absurd (List.eq_nil_of_length_eq_zero h) h0
 have hl0:l.length≠0:=fun h=>h0 (List.eq_nil_of_length_eq_zero h);have hml:maxLen=9223372036854775807:=rfl;obtain ⟨Lt,lM⟩:∃ x,x=Lp++[(b2,Obj.cells cur 5 (0,0))]:=⟨_,rfl⟩;rw [← lM] at hO ⊢;refine jv (N:=14) (T:=[(0,_)]) Tryz.func148 rfl Tryz.ntmps148 rfl rfl hO ?_;intro a H;refine kP H (SR fun _ K1=>Ra rfl (Kz K1 (SQ fun _ K2=>?_)));clear H K1;intro a H;have H:=H.sub (T':=[(0,_)]) ⟨rfl,trivial⟩;refine dz (hmx) [[],[0],[0,1],[0,1,2],[0,1,2,3],[],[5],[5,6],[5,6,7],[5,6,7,8],(List.range 10),(List.range 11)] [10,11] (by kernel_rfl) (by kernel_rfl) (fun (aC:Nat) (v:Value) (G:GH)=>match aC with|0=>v=.pointer (some ⟨b,2,none⟩)|1=>v=.pointer (some ⟨b,2,none⟩)|2=>v=.pointer (some ⟨b,3,none⟩)|3=>v=.slice (some ⟨b2,0,none⟩) l.length cap|4=>v=.pointer (some ⟨b2,0,none⟩)|5=>v=.pointer (some ⟨b,2,none⟩)|6=>v=.pointer (some ⟨b,2,none⟩)|7=>v=.pointer (some ⟨b,3,none⟩)|8=>v=.slice (some ⟨b2,0,none⟩) l.length cap|9=>v=vi l.length|_=>True) (fun _ _ _ _ _ h=>h) H ?_ ?_
 ·clear H;refine av (Z0 rfl (Rm rfl)) (Z1 0 3 rfl (Rk rfl)) (Z1 1 4 rfl (Rf Bv rfl)) (Z1 2 5 rfl (Ro CB 0 rfl rfl)) (av ?_ (Z0 rfl (Rm rfl)) (Z1 5 8 rfl (Rk rfl)) (Z1 6 9 rfl (Rf Bv rfl)) (av (Z1 7 10 rfl (Ro CB 0 rfl rfl)) (Z1 8 11 rfl (Rl Az rfl)) (aT rfl) (aT rfl) dh))
  refine dS 3 6 rfl rfl fun _ a w G1 hG HT H fin=>?_;refine aee H wn rfl (by omega) rfl ?_;clear H;intro a H;exact fin H iJ rfl
 clear H;intro a w G kZ H hv;have H:=H.aM (hv 4 7 rfl rfl) rfl;have H:=H.aM (hv 9 12 rfl rfl) rfl;clear hv;subst lM;have H:=H.perm (List.Perm.cons _ List.perm_append_comm);dsimp only [List.cons_append,List.nil_append] at H;refine aei (i:=1) l aeZ WI h0 (by omega) H wn rfl rfl rfl (by rw [← hc4,Nat.mul_one]) rfl ?_;clear H;intro fz a w H;dsimp only [List.set] at H;refine kH H (Ra rfl ?_);clear H;intro a H;refine au ⟨rfl,?_⟩;refine K2 _ _ ?_;clear K2;refine lr H Tryz.results148 rfl ?_;exact H.hp.bR (L':=eZ b s i _ _ _ pl e :: Lp) (List.Sublist.cons_cons _ (List.sublist_cons_self _ _)) ⟨rfl,rfl⟩
end
section
open Go.RowKit
section
variable {N:Nat} {D:List Deferred} {w0:World} {F:Nat→Prop} {G0 G G1 G2:GH} {L L1 L2:OL} {T Xs:List (Nat × Value)}
variable {r:Option Nat} {P:Program} {Q:Exit→Act→World→Prop} {l:List Oper} {a a':Act} {w w':World}
theorem DX.perm {pr:Nat→Value→GH→Prop} {S:Nat→Bool} (h:DX N D w0 F G0 G L1 T l pr S a w) (hp:L1.Perm L2):DX N D w0 F G0 G L2 T l pr S a w:=by
 obtain ⟨G1,hG,HS,hv⟩:=h
 exact ⟨G1,hG,HS.perm hp,hv⟩
end
end
section
open Go.RowKit
section
variable {N:Nat} {D:List Deferred} {w0:World} {F:Nat→Prop} {G0 G G1 G2:GH} {L L1 L2:OL} {T Xs:List (Nat × Value)}
variable {r:Option Nat} {P:Program} {Q:Exit→Act→World→Prop} {l:List Oper} {a a':Act} {w w':World}
theorem XQ {pr:Nat→Value→GH→Prop} {S:Nat→Bool} {i d:Nat} {v:Value} (hok:kX l T i=true) (iN:∀ i v (G G':GH),(∀ k o,G k=some o→G' k=some o)→pr i v G→pr i v G') (hi:dO l i=some d)
  (HT:St N D w0 F G0 G1 L T a w) (Hb:St N D w0 F G0 G1 L (Xs++full N a) a w) (hG:∀ k o,G k=some o→G1 k=some o) (hv:∀ j d,j≠i→S j=true→dO l j=some d→∃ v,a.tmps[d]?=some v∧pr j v G1)
  (hG2:∀ k o,G1 k=some o→G2 k=some o) (hp:pr i v G2) (H:St N D w0 F G0 G2 L1 ((d,v) :: (Xs++full N a)) a' w'):DX N D w0 F G0 G L1 T l pr (eu S i) a' w':=by
 have hok1:=hok
 rw [kX,hi] at hok1
 simp only [Bool.and_eq_true,Option.isNone_iff_eq_none,List.all_eq_true,List.mem_range] at hok1
 have hsame:∀ t,t≠d→a'.tmps[t]?=a.tmps[t]?:=by
  intro t ht
  by_cases hlt:t < N
  ·have h1:∃ u,lk (Xs++full N a) t=some u:=by
    rw [HY]
    cases lk Xs t with
    | some u=>exact ⟨u,rfl⟩
    | none=>exact ⟨_,HZ a hlt⟩
   obtain ⟨u,hu⟩:=h1
   rw [Hb.get t u hu,H.get t u (by rw [pY (Ne.symm ht)];exact hu)]
  ·rw [Array.getElem?_eq_none (by rw [H.jP];omega),Array.getElem?_eq_none (by rw [Hb.jP];omega)]
 refine ⟨G2,fun k o hk=>hG2 k o (hG k o hk),⟨H.jP,fun t u ht=>?_,H.nQ,H.hp⟩,fun j e hj he=>?_⟩
 ·rw [hsame t (fun e=>by rw [e,hok1.1] at ht;cases ht)]
  exact HT.get t u ht
 ·by_cases hji:j=i
  ·subst hji
   rw [hi] at he
   simp only [Option.some.injEq] at he
   subst he
   exact ⟨v,H.get d v (rW _ _ _),hp⟩
  ·have hSj:S j=true:=by unfold eu at hj;rwa [if_neg hji] at hj
   obtain ⟨u,hu1,hu2⟩:=hv j e hji hSj he
   have hne:e≠d:=by
    intro e'
    subst e'
    have h2:=hok1.2 j (wO he)
    rw [vE (fun h=>hji h.symm),he] at h2
    simp at h2
   exact ⟨u,by rw [hsame e hne];exact hu1,iN j u _ _ hG2 hu2⟩
/-- Operation m1 turns L into L2, operation m2 behind it makes a block, operation m3 behind that turns all into L3; the others look into C alone. -/
theorem Wp {id:Nat} {κ:Type} (k0:κ) (hm:P.follows .mixedOrders=true) (bM:List (List Nat)) (B:List Nat) (hk:zO l bM=true) (hB:xW l bM B=true) (m1 m2 m3:Nat) (agm:B.contains m1=false) (agn:B.contains m2=false) (abt:B.contains m3=false) (hne:Nat.beq m1 m2=false) (Ru:Nat.beq m2 m3=false) (hne1:Nat.beq m1 m3=false) (h12:(bM.getD m2 []).contains m1=true) (eO:(bM.getD m3 []).contains m1=true) (h23:(bM.getD m3 []).contains m2=true)
  (C L2:OL) (ob:Obj) (L3:Nat→κ→OL) (hC:∀ x,x∈C→x∈L) (hC2:∀ x,x∈C→x∈L2) (hC3:∀ b k x,x∈C→x∈L3 b k) (pr:Nat→κ→Nat→Value→GH→Prop)
  (abD:∀ b b' k i v G,Nat.beq i m2=false→(bM.getD i []).contains m2=false→pr b k i v G→pr b' k i v G)
  (abE:∀ b k k' i v G,Nat.beq i m3=false→(bM.getD i []).contains m3=false→pr b k i v G→pr b k' i v G)
  (H:St N D w0 F G0 G L T a w)
  (hstep:allI (fun i o=>∀ b k L' S a w G1,(∀ x,x∈C→x∈L')→B.contains i=false→Nat.beq i m1=false→Nat.beq i m2=false→Nat.beq i m3=false→S i=false→(∀ j∈bM.getD i [],S j=true)→(∀ k o,G k=some o→G1 k=some o)→St N D w0 F G0 G1 L' T a w→(∀ i d,S i=true→dO l i=some d→∃ v,a.tmps[d]?=some v∧pr b k i v G1) →
   WL r P l.toArray (fun e a' w'=>e=.normal∧DX N D w0 F G0 G L' T l (pr b k) (eu S i) a' w') [o] a w) 0 l)
  (abu:∀ o b k S a w G1,l[m1]?=some o→S m1=false→(∀ j∈bM.getD m1 [],S j=true)→(∀ k o,G k=some o→G1 k=some o)→St N D w0 F G0 G1 L T a w→(∀ i d,i≠m1→S i=true→dO l i=some d→∃ v,a.tmps[d]?=some v∧pr b k i v G1) →
   WL r P l.toArray (fun e a' w'=>e=.normal∧DX N D w0 F G0 G L2 T l (pr b k) (eu S m1) a' w') [o] a w)
  (abv:∀ o k S a w G1,l[m2]?=some o→S m2=false→(∀ j∈bM.getD m2 [],S j=true)→(∀ k o,G k=some o→G1 k=some o)→St N D w0 F G0 G1 L2 T a w→(∀ b i d,i≠m2→S i=true→dO l i=some d→∃ v,a.tmps[d]?=some v∧pr b k i v G1) →
   WL r P l.toArray (fun e a' w'=>e=.normal∧∃ b,DX N D w0 F G0 G ((b,ob) :: L2) T l (pr b k) (eu S m2) a' w') [o] a w)
  (abw:∀ o b S a w G1,l[m3]?=some o→S m3=false→(∀ j∈bM.getD m3 [],S j=true)→(∀ k o,G k=some o→G1 k=some o)→St N D w0 F G0 G1 ((b,ob) :: L2) T a w→(∀ k i d,i≠m3→S i=true→dO l i=some d→∃ v,a.tmps[d]?=some v∧pr b k i v G1) →
   WL r P l.toArray (fun e a' w'=>e=.normal∧∃ k,DX N D w0 F G0 G (L3 b k) T l (pr b k) (eu S m3) a' w') [o] a w)
  (hend:∀ b k a w G1,(∀ k o,G k=some o→G1 k=some o)→St N D w0 F G0 G1 (L3 b k) T a w→(∀ i d,B.contains i=false→dO l i=some d→∃ v,a.tmps[d]?=some v∧pr b k i v G1)→WL r P l.toArray (fun e a w=>e=.normal∧Q .normal a w) (ou l B) a w)
  (Me:Nat.blt m2 l.length=true) (Mf:Nat.blt m3 l.length=true):WP r P (.region id l.toArray true) Q a w:=by
 have SI:m1≠m2:=fun e=>by subst e;rw [Nat.beq_refl] at hne;cases hne
 have SL:m2≠m3:=fun e=>by subst e;rw [Nat.beq_refl] at Ru;cases Ru
 have SK:m1≠m3:=fun e=>by subst e;rw [Nat.beq_refl] at hne1;cases hne1
 refine O6 hm bM B hk hB (fun S a w=>(S m2=true→S m1=true)∧(S m3=true→S m2=true)∧∃ b k L',L'=(bif S m3 then L3 b k else bif S m2 then (b,ob) :: L2 else bif S m1 then L2 else L)∧DX N D w0 F G0 G L' T l (pr b k) S a w)
  ⟨fun h=>h,fun h=>h,0,k0,L,rfl,G,fun _ _ h=>h,H.move H.hp.drew,fun _ _ h=>absurd (show false=true from h) (by decide)⟩ ?_ ?_
 ·rintro i o S a w ho hb aZ lN hdesc ⟨abA,abB,b,k,L',hL,G1,hG,HS,hv⟩
  have hsub:∀ x,x∈C→x∈L':=fun x hx=>by
   rw [hL]
   cases S m3 with
   | true=>exact hC3 b k x hx
   | false=>cases S m2 with
    | true=>exact List.mem_cons_of_mem _ (hC2 x hx)
    | false=>cases S m1 with
     | true=>exact hC2 x hx
     | false=>exact hC x hx
  have hno:∀ j,j < l.length→S j=true→(bM.getD j []).contains i=false:=fun j hjl hj=>by
   cases hc:(bM.getD j []).contains i with
   | false=>rfl
   | true =>
    have:=hdesc j hjl (by simpa using hc)
    rw [this] at hj;cases hj
  by_cases h1:i=m1
  ·subst h1
   have hS2:S m2=false:=hdesc m2 (Eq.mp Nat.blt_eq Me) (by simpa using h12)
   have BI:S m3=false:=hdesc m3 (Eq.mp Nat.blt_eq Mf) (by simpa using eO)
   rw [BI,hS2,aZ] at hL
   subst hL
   have h:=abu o b k S a w G1 ho aZ lN hG HS fun j d hj hSj hd=>hv j d hSj hd
   have e2:eu S i m2=S m2:=if_neg (fun e=>SI e.symm)
   have e3:eu S i m3=S m3:=if_neg (fun e=>SK e.symm)
   refine pF (fun e a' w' ⟨he,hD⟩=>⟨he,fun _=>if_pos rfl,fun h=>(by rw [e3,BI] at h;cases h),b,k,_,?_,hD⟩) h
   rw [show eu S i i=true from if_pos rfl,e2,e3,hS2,BI]
   rfl
  ·by_cases h2:i=m2
   ·subst h2
    have hS1:S m1=true:=lN m1 (by simpa using h12)
    have BI:S m3=false:=hdesc m3 (Eq.mp Nat.blt_eq Mf) (by simpa using h23)
    rw [BI,aZ,hS1] at hL
    subst hL
    have e1:eu S i m1=S m1:=if_neg SI
    have e3:eu S i m3=S m3:=if_neg (fun e=>SL e.symm)
    have h:=abv o k S a w G1 ho aZ lN hG HS fun b' j d hj hSj hd=>by
     obtain ⟨v,hv1,hv2⟩:=hv j d hSj hd
     exact ⟨v,hv1,abD b b' k j v _ (vE hj) (hno j (wO hd) hSj) hv2⟩
    refine pF (fun e a' w' ⟨he,b',hD⟩=>⟨he,fun _=>by rw [e1];exact hS1,fun _=>if_pos rfl,b',k,_,?_,hD⟩) h
    rw [show eu S i i=true from if_pos rfl,e3,BI];rfl
   ·by_cases h3:i=m3
    ·subst h3
     have hS1:S m1=true:=lN m1 (by simpa using eO)
     have hS2:S m2=true:=lN m2 (by simpa using h23)
     rw [aZ,hS2] at hL
     subst hL
     have e1:eu S i m1=S m1:=if_neg SK
     have e2:eu S i m2=S m2:=if_neg SL
     have h:=abw o b S a w G1 ho aZ lN hG HS fun k' j d hj hSj hd=>by
      obtain ⟨v,hv1,hv2⟩:=hv j d hSj hd
      exact ⟨v,hv1,abE b k k' j v _ (vE hj) (hno j (wO hd) hSj) hv2⟩
     refine pF (fun e a' w' ⟨he,k',hD⟩=>⟨he,fun _=>by rw [e1];exact hS1,fun _=>by rw [e2];exact hS2,b,k',_,?_,hD⟩) h
     rw [show eu S i i=true from if_pos rfl];rfl
    ·have h:=Dt hstep i o ho
     rw [Nat.zero_add] at h
     have e1:eu S i m1=S m1:=if_neg (fun e=>h1 e.symm)
     have e2:eu S i m2=S m2:=if_neg (fun e=>h2 e.symm)
     have e3:eu S i m3=S m3:=if_neg (fun e=>h3 e.symm)
     refine pF (fun e a' w' ⟨he,hD⟩=>⟨he,by rw [e1,e2];exact abA,by rw [e2,e3];exact abB,b,k,L',?_,hD⟩) (h b k L' S a w G1 hsub hb (vE h1) (vE h2) (vE h3) aZ lN hG HS hv)
     rw [e1,e2,e3];exact hL
 ·rintro S a w hall hnB ⟨_,_,b,k,L',hL,G1,hG,HS,hv⟩
  have hs3:S m3=true:=hall m3 (Eq.mp Nat.blt_eq Mf) abt
  rw [hs3] at hL
  subst hL
  exact hend b k a w G1 hG HS fun j d hb hd=>hv j d (hall j (wO hd) hb) hd
end
theorem aeY {z:Int} (h1:0≤z) (h2:z < 256):IntKind.u8.wrap z=z:=by
 simp only [IntKind.wrap,IntKind.bits,IntKind.signed,Bool.false_and,Bool.false_eq_true,if_false]
 omega
section
variable {N:Nat} {D:List Deferred} {w0:World} {F:Nat→Prop} {G0 G:GH} {L:OL} {T:List (Nat × Value)}
variable {r:Option Nat} {P:Program} {ops:Array Oper} {Q:Exit→Act→World→Prop} {rest:List Oper} {a:Act} {w:World}
variable {d:Nat} {ty:TypeId} {pos:String} {aG:Array Edge} {g:Option (Nat × Bool)}
theorem aeg {x y:Operand} {t yt:TypeId} {p q:Int} (H:St N D w0 F G0 G L T a w) (hw:Region.wanted ⟨some d,.binOp .sub t x y yt,ty,pos,aG,g⟩ (yielded ops a.tmps)=true) (hx:ev T x=some (.int .u8 p)) (hy:ev T y=some (.int .u8 q)) (h1:0≤p - q) (h2:p - q < 256) (hd:Nat.blt d N=true)
  (k:∀ a',St N D w0 F G0 G L ((d,.int .u8 (p - q)) :: T) a' w→WL r P ops Q rest a' w):WL r P ops Q (⟨some d,.binOp .sub t x y yt,ty,pos,aG,g⟩ :: rest) a w :=
 eT (v:=.int .u8 (p - q)) (w':=w) hw rfl (by simp [execOp,eqGuard,binOp,Op.intArith,H.ev hx,H.ev hy,Sem.run_bind,aeY h1 h2]) (k _ (H.put hd _ H.hp))
end
end
section
open Go.RowKit
theorem YH:∀ args w,(callFunc 147 args).run Tryz.prog w=.ok (.enter 147 args) w:=enters Tryz.func147 rfl (by kernel_rfl)
theorem ER:Ty Tryz.prog 205 1 24 [.slice none 0 0] false:=⟨by kernel_rfl,by kernel_rfl⟩
theorem YJ:∀ args w,(callFunc 148 args).run Tryz.prog w=.ok (.enter 148 args) w:=enters Tryz.func148 rfl (by kernel_rfl)
theorem CP:Tryz.prog.underlying 205=some (.slice 210):=by kernel_rfl
theorem Cz:Ty Tryz.prog 210 3 32 [.string ⟨#[]⟩,.int .i64 0,.bool false] true:=⟨by kernel_rfl,by kernel_rfl⟩
theorem YK:∀ args w,(callFunc 149 args).run Tryz.prog w=.ok (.enter 149 args) w:=enters Tryz.func149 rfl (by kernel_rfl)
theorem DZ:bO Tryz.prog 228 2 2:=⟨by kernel_rfl⟩
theorem D5:bO Tryz.prog 228 3 4:=⟨by kernel_rfl⟩
theorem Ui:oN Tryz.prog 210 [(0,1),(1,1),(2,1)] [.string ⟨#[]⟩,.int .i64 0,.bool false]:=⟨by kernel_rfl,by kernel_rfl⟩
theorem JZ:∀ args w,(callFunc 142 args).run Tryz.prog w=.ok (.enter 142 args) w:=enters Tryz.func142 rfl (by kernel_rfl)
theorem Gn:bO Tryz.prog 228 4 5:=⟨by kernel_rfl⟩
structure gM where
 lit:ByteArray
 level:Int
 plain:Bool
def gM.dat (x:gM):List Dat:=[.lf (.string x.lit),li x.level,.lf (.bool x.plain)]
abbrev gM.cells (x:gM):List Value:=[.string x.lit,vi x.level,.bool x.plain]
theorem Sv (G:GH) (x:gM):aO G x.dat x.cells:=by
 simp only [gM.dat,gM.cells,aO]
 exact ⟨_,_,rfl,by simp [ah,Value.oneCell'],_,_,rfl,by simp [ah,Value.oneCell'],_,_,rfl,by simp [ah,Value.oneCell'],rfl⟩
theorem Sr {G:GH} {x:gM} {cs:List Value} (h:aO G x.dat cs):cs=x.cells:=by
 simp only [gM.dat,aO,ah] at h
 obtain ⟨_,_,rfl,⟨rfl,_⟩,_,_,rfl,⟨rfl,_⟩,_,_,rfl,⟨rfl,_⟩,rfl⟩:=h
 rfl
def y7 (l:List gM):List Value:=(l.map gM.cells).flatten
theorem Sq (l:List gM) (x:gM):y7 (l++[x])=y7 l++x.cells:=by simp [y7]
/-- What the scanner holds besides its numbers: the literal that was begun, and the parts. -/
structure vC (b:Nat) (lit:List UInt8) (parts:List gM) (p v q:Value) (Lp Lo:OL):Prop where
 ptr:p=.pointer none∨p=.pointer (some ⟨b,2,none⟩)
 buf:eB 5 1 v lit.length (Lib.byteCells lit) Lo
 prt:eB 210 3 q parts.length (y7 parts) Lp
def pK (lit:List UInt8) (parts:List gM):List gM:=if lit=[] then parts else parts++[⟨⟨lit.toArray⟩,0,false⟩]
set_option maxHeartbeats 1000000 in
theorem KD (G:GH) (Lp Lo:OL) (w0:World) (b:Nat) (s:ByteArray) (i:Int) (p v q:Value) (pl e:Int) (lit:List UInt8) (parts:List gM) (hR:vC b lit parts p v q Lp Lo) (hO:gT G (eZ b s i p v q pl e :: (Lp++Lo)) w0) (hl:lit.length≤4294967296) (hp:parts.length≤4294967296) :
  Calls Tryz.prog 142 #[.pointer (some ⟨b,0,none⟩)] w0 (fQ w0 G (eZ b s i p v q pl e :: (Lp++Lo)) fun u G' L'=>∃ p' v' q' mI iB,L'=eZ b s i p' v' q' pl e :: (mI++iB)∧vC b [] (pK lit parts) p' v' q' mI iB):=by
 obtain ⟨RF,hbuf,Hf⟩:=hR;have hml:maxLen=9223372036854775807:=rfl;obtain ⟨A,c,rfl,RS,RU⟩:=hbuf.shape;obtain ⟨B,d,rfl,RG,RH⟩:=Hf.shape;obtain ⟨Lt,lM⟩:∃ x,x=Lp++Lo:=⟨_,rfl⟩;rw [← lM] at hO ⊢;refine jv (N:=25) (T:=[(0,_)]) Tryz.func142 rfl Tryz.ntmps142 rfl rfl hO ?_;intro a H;refine kP H (SR fun _ K1=>Rm rfl (Rk rfl (Rf DZ rfl ?_)));clear H;intro a H;refine gy YH (Li:=[]) (L:=eZ b s i p (.slice A lit.length c) (.slice B parts.length d) pl e :: Lt) H wn rfl (aeE _ _ _ b s i p A lit.length c B parts.length d pl e (Hp.owns (Li:=[]) H.hp)) rfl ?_;clear H;rintro v5 _ L5 a w ⟨rfl,rfl,rfl⟩ BO H;dsimp only [List.nil_append] at H;refine kH H (Rc rfl (Kz K1 (Cd rfl ?_ ?_))) <;> clear H K1
 ·intro h6 a H
  try have p6:=dT h6
  have hne:lit≠[]:=fun e=>by rw [e] at p6;simp at p6
  subst lM;refine aQ (fun _ K2=>?_)
  have gN:∀ (ji:Nat) (fH:(Option Addr × Nat) × OL) (aC:Nat) (v:Value) (G G':GH),(∀ k o,G k=some o→G' k=some o)→(fun (ji:Nat) (fH:(Option Addr × Nat) × OL) (aC:Nat) (v:Value) (G:GH)=>match aC with|0=>v=.pointer (some ⟨b,0,none⟩)|1=>v=.pointer (some ⟨b,0,none⟩)|2=>v=.pointer (some ⟨b,0,none⟩)|3=>v=.pointer (some ⟨b,4,none⟩)|4=>v=.slice B parts.length d|5=>v=.pointer (some ⟨b,0,none⟩)|6=>v=.pointer (some ⟨b,0,none⟩)|7=>v=.pointer (some ⟨b,2,none⟩)|8=>v=.string ⟨lit.toArray⟩|9=>v=.agg (gM.cells ⟨⟨lit.toArray⟩,0,false⟩).toArray|10=>v=.slice (some ⟨ji,0,none⟩) 1 1|11=>v=.slice fH.1.1 (parts.length+1) fH.1.2∧eB 210 3 v (parts.length+1) (y7 (parts++[⟨⟨lit.toArray⟩,0,false⟩])) fH.2|_=>True) ji fH aC v G→(fun (ji:Nat) (fH:(Option Addr × Nat) × OL) (aC:Nat) (v:Value) (G:GH)=>match aC with|0=>v=.pointer (some ⟨b,0,none⟩)|1=>v=.pointer (some ⟨b,0,none⟩)|2=>v=.pointer (some ⟨b,0,none⟩)|3=>v=.pointer (some ⟨b,4,none⟩)|4=>v=.slice B parts.length d|5=>v=.pointer (some ⟨b,0,none⟩)|6=>v=.pointer (some ⟨b,0,none⟩)|7=>v=.pointer (some ⟨b,2,none⟩)|8=>v=.string ⟨lit.toArray⟩|9=>v=.agg (gM.cells ⟨⟨lit.toArray⟩,0,false⟩).toArray|10=>v=.slice (some ⟨ji,0,none⟩) 1 1|11=>v=.slice fH.1.1 (parts.length+1) fH.1.2∧eB 210 3 v (parts.length+1) (y7 (parts++[⟨⟨lit.toArray⟩,0,false⟩])) fH.2|_=>True) ji fH aC v G':=by
   intro ji fH aC v G G' hm h
   match aC,h with
   | 0,h=>exact h
   | 1,h=>exact h
   | 2,h=>exact h
   | 3,h=>exact h
   | 4,h=>exact h
   | 5,h=>exact h
   | 6,h=>exact h
   | 7,h=>exact h
   | 8,h=>exact h
   | 9,h=>exact h
   | 10,h=>exact h
   | 11,h=>exact h
   | 12,h=>exact trivial
   | 13,h=>exact trivial
   | 14,h=>exact trivial
   | _+15,h=>exact trivial
  refine Wp (κ:=(Option Addr × Nat) × OL) (((none,0),[])) (hmx) [[],[],[1],[1,2],[1,2,3],[],[5],[5,6],[5,6,7],[5,6,7,8],[5,6,7,8,9],[1,2,3,4,5,6,7,8,9,10],(List.range 12),(List.range 13),(List.range 14)] [12,13,14] (by kernel_rfl) (by kernel_rfl) 8 10 11 (by decide) (by decide) (by decide) (by decide) (by decide) (by decide) (by decide) (by decide) (by decide) [eZ b s i p (.slice A lit.length c) (.slice B parts.length d) pl e] (eZ b s i p (.slice A lit.length c) (.slice B parts.length d) pl e :: Lp) (.cells (gM.cells ⟨⟨lit.toArray⟩,0,false⟩).toArray 210 (0,0)) (fun b_ k_=>(b_,.cells (gM.cells ⟨⟨lit.toArray⟩,0,false⟩).toArray 210 (0,0)) :: eZ b s i p (.slice A lit.length c) (.slice B parts.length d) pl e :: k_.2) (fun x hx=>by rw [List.mem_singleton.1 hx];exact List.mem_cons_self) (fun x hx=>by rw [List.mem_singleton.1 hx];exact List.mem_cons_self) (fun _ _ x hx=>by rw [List.mem_singleton.1 hx];exact List.mem_cons_of_mem _ List.mem_cons_self) (fun (ji:Nat) (fH:(Option Addr × Nat) × OL) (aC:Nat) (v:Value) (G:GH)=>match aC with|0=>v=.pointer (some ⟨b,0,none⟩)|1=>v=.pointer (some ⟨b,0,none⟩)|2=>v=.pointer (some ⟨b,0,none⟩)|3=>v=.pointer (some ⟨b,4,none⟩)|4=>v=.slice B parts.length d|5=>v=.pointer (some ⟨b,0,none⟩)|6=>v=.pointer (some ⟨b,0,none⟩)|7=>v=.pointer (some ⟨b,2,none⟩)|8=>v=.string ⟨lit.toArray⟩|9=>v=.agg (gM.cells ⟨⟨lit.toArray⟩,0,false⟩).toArray|10=>v=.slice (some ⟨ji,0,none⟩) 1 1|11=>v=.slice fH.1.1 (parts.length+1) fH.1.2∧eB 210 3 v (parts.length+1) (y7 (parts++[⟨⟨lit.toArray⟩,0,false⟩])) fH.2|_=>True) (fun b b' k i v G hi hc h=>by match i,hi,hc,h with|0,_,_,h=>exact h|1,_,_,h=>exact h|2,_,_,h=>exact h|3,_,_,h=>exact h|4,_,_,h=>exact h|5,_,_,h=>exact h|6,_,_,h=>exact h|7,_,_,h=>exact h|8,_,_,h=>exact h|9,_,_,h=>exact h|10,hi,_,_=>exact absurd hi (by decide)|11,_,hc,_=>exact absurd hc (by decide)|12,_,hc,_=>exact absurd hc (by decide)|13,_,hc,_=>exact absurd hc (by decide)|14,_,hc,_=>exact absurd hc (by decide)|_+15,_,_,_=>exact trivial) (fun b k k' i v G hi hc h=>by match i,hi,hc,h with|0,_,_,h=>exact h|1,_,_,h=>exact h|2,_,_,h=>exact h|3,_,_,h=>exact h|4,_,_,h=>exact h|5,_,_,h=>exact h|6,_,_,h=>exact h|7,_,_,h=>exact h|8,_,_,h=>exact h|9,_,_,h=>exact h|10,_,_,h=>exact h|11,hi,_,_=>exact absurd hi (by decide)|12,_,hc,_=>exact absurd hc (by decide)|13,_,hc,_=>exact absurd hc (by decide)|14,_,hc,_=>exact absurd hc (by decide)|_+15,_,_,_=>exact trivial) H ?_ ?_ ?_ ?_ ?_ (by kernel_rfl) (by kernel_rfl)
  ·clear H;refine av ?_ ?_ ?_ ?_ (av ?_ ?_ ?_ ?_ (av ?_ ?_ ?_ ?_ (bq ?_ (bq ?_ (bq ?_ dh)))))
   ·intro ji fH yE bC a w G1 wY _ _ _ _ aZ hc hG HT hv;have H:=HT;clear aZ;have Hb:=H.full;have H:=Hb;clear hc;refine kH H (Rm rfl ?_);clear H;intro a H;refine au ⟨rfl,?_⟩;exact iH (by kernel_rfl) (gN ji fH) rfl rfl HT Hb hG hv (fun _ _ h=>h) (rfl) H
   ·intro ji fH yE bC a w G1 wY _ _ _ _ aZ hc hG HT hv;have H:=HT;clear aZ;have Hb:=H.full;have H:=Hb;clear hc;refine kH H (Rm rfl ?_);clear H;intro a H;refine au ⟨rfl,?_⟩;exact iH (by kernel_rfl) (gN ji fH) rfl rfl HT Hb hG hv (fun _ _ h=>h) (rfl) H
   ·intro ji fH yE bC a w G1 wY _ _ _ _ aZ hc hG HT hv;have H:=HT;clear aZ;have H:=H.aM (hv 1 8 (hc 1 (by decide)) rfl) rfl;have Hb:=H.full;have H:=Hb;clear hc;refine kH H (Rk rfl ?_);clear H;intro a H;refine au ⟨rfl,?_⟩;exact iH (by kernel_rfl) (gN ji fH) rfl rfl HT Hb hG hv (fun _ _ h=>h) (rfl) H
   ·intro ji fH yE bC a w G1 wY _ _ _ _ aZ hc hG HT hv;have H:=HT;clear aZ;have H:=H.aM (hv 2 9 (hc 2 (by decide)) rfl) rfl;have Hb:=H.full;have H:=Hb;clear hc;refine kH H (Rf D5 rfl ?_);clear H;intro a H;refine au ⟨rfl,?_⟩;exact iH (by kernel_rfl) (gN ji fH) rfl rfl HT Hb hG hv (fun _ _ h=>h) (rfl) H
   ·intro ji fH yE bC a w G1 wY _ _ _ _ aZ hc hG HT hv;have H:=HT;clear aZ;have H:=H.aM (hv 3 10 (hc 3 (by decide)) rfl) rfl;have Hb:=H.full;have H:=Hb;clear hc;refine xR ER H wn rfl (H.hp.MU (wY _ List.mem_cons_self) rfl) rfl ?_;clear H;intro a H;refine au ⟨rfl,?_⟩;exact iH (by kernel_rfl) (gN ji fH) rfl rfl HT Hb hG hv (fun _ _ h=>h) (rfl) H
   ·intro ji fH yE bC a w G1 wY _ _ _ _ aZ hc hG HT hv;have H:=HT;clear aZ;have Hb:=H.full;have H:=Hb;clear hc;refine kH H (Rm rfl ?_);clear H;intro a H;refine au ⟨rfl,?_⟩;exact iH (by kernel_rfl) (gN ji fH) rfl rfl HT Hb hG hv (fun _ _ h=>h) (rfl) H
   ·intro ji fH yE bC a w G1 wY _ _ _ _ aZ hc hG HT hv;have H:=HT;clear aZ;have H:=H.aM (hv 5 12 (hc 5 (by decide)) rfl) rfl;have Hb:=H.full;have H:=Hb;clear hc;refine kH H (Rk rfl ?_);clear H;intro a H;refine au ⟨rfl,?_⟩;exact iH (by kernel_rfl) (gN ji fH) rfl rfl HT Hb hG hv (fun _ _ h=>h) (rfl) H
   ·intro ji fH yE bC a w G1 wY _ _ _ _ aZ hc hG HT hv;have H:=HT;clear aZ;have H:=H.aM (hv 6 13 (hc 6 (by decide)) rfl) rfl;have Hb:=H.full;have H:=Hb;clear hc;refine kH H (Rf DZ rfl ?_);clear H;intro a H;refine au ⟨rfl,?_⟩;exact iH (by kernel_rfl) (gN ji fH) rfl rfl HT Hb hG hv (fun _ _ h=>h) (rfl) H
   ·intro _ _ _ _ _ _ _ _ _ hB;exact absurd hB (by decide)
   ·intro ji fH yE bC a w G1 wY _ _ _ _ aZ hc hG HT hv;have H:=HT;clear aZ;have H:=H.aM (hv 8 15 (hc 8 (by decide)) rfl) rfl;have Hb:=H.full;have H:=Hb;clear hc;refine iP Ui [_,_,_] H wn rfl rfl rfl rfl ?_;clear H;intro a H;refine au ⟨rfl,?_⟩;exact iH (by kernel_rfl) (gN ji fH) rfl rfl HT Hb hG hv (fun _ _ h=>h) (rfl) H
   ·intro _ _ _ _ _ _ _ _ _ _ hB;exact absurd hB (by decide)
   ·intro _ _ _ _ _ _ _ _ _ _ _ hB;exact absurd hB (by decide)
   ·intro _ _ _ _ _ _ _ _ hB;exact absurd hB (by decide)
   ·intro _ _ _ _ _ _ _ _ hB;exact absurd hB (by decide)
   intro _ _ _ _ _ _ _ _ hB;exact absurd hB (by decide)
  ·clear H;intro o_ ji fH bC a w G1 uz _ hc hG HT hv;obtain rfl:_=o_:=Option.some.inj uz;clear uz;have H:=HT;have H:=H.aM (hv 7 14 (by decide) (hc 7 (by decide)) rfl) rfl;have Hb:=H.full;have H:=Hb;clear hc;refine gy YJ (Li:=[]) (L:=eZ b s i p (.slice A lit.length c) (.slice B parts.length d) pl e :: (Lp++Lo)) H wn rfl (aeN _ _ _ _ b s i p _ B parts.length d pl e lit (Hp.owns (Li:=[]) H.hp) hbuf hne) rfl ?_;clear H;rintro v15 zy L15 a w ⟨rfl,rfl⟩ zX H;dsimp only [List.nil_append] at H;refine au ⟨rfl,?_⟩;exact XQ (by kernel_rfl) (gN ji fH) rfl HT Hb hG (fun j e h1 h2 h3=>hv j e h1 h2 h3) zX (rfl) H
  ·clear H;intro o_ fH bC a w G1 uz _ hc hG HT hv;obtain rfl:_=o_:=Option.some.inj uz;clear uz;have H:=HT;have H:=H.aM (hv 0 9 16 (by decide) (hc 9 (by decide)) rfl) rfl;have Hb:=H.full;have H:=Hb;clear hc;refine fM CP Cz [_,_,_] [_,_,_] H wn rfl rfl rfl rfl rfl (by intro i q h;match i,h with|0,h=>exact h|n+1,h=>simp at h) rfl rfl ?_;clear H;intro b17 a w af0 H;refine au ⟨rfl,b17,?_⟩;exact PL (by kernel_rfl) rfl HT Hb hG (fun j e h1 h2 h3=>hv _ j e h1 h2 h3) (rfl) H
  ·clear H;intro o_ ji bC a w G1 uz _ hc hG HT hv;obtain rfl:_=o_:=Option.some.inj uz;clear uz;have H:=HT;have H:=H.aM (hv (((none,0),[])) 4 11 (by decide) (hc 4 (by decide)) rfl) rfl;have H:=H.aM (hv (((none,0),[])) 10 17 (by decide) (hc 10 (by decide)) rfl) rfl;have Hb:=H.full;have H:=Hb;clear hc;refine sF (Li:=[_,_]) (Lo:=Lp) (news:=gM.cells ⟨⟨lit.toArray⟩,0,false⟩) CP Cz rfl rfl H wn rfl rfl Hf rfl (H.hp.bF 0 rfl rfl) rfl (by omega) (by omega) rfl ?_;clear H;intro v18 VR a w BR H;obtain ⟨Ve,c18,rfl,-,-⟩:=BR.shape;rw [← Sq] at BR;refine au ⟨rfl,((Ve,c18),VR),?_⟩;exact PL (by kernel_rfl) rfl HT Hb hG (fun j e h1 h2 h3=>hv _ j e h1 h2 h3) (⟨rfl,BR⟩) H
  clear H;intro b17 fH a w G kZ H hv;have H:=H.aM (hv 0 7 rfl rfl) rfl;obtain ⟨u18,abR,RA⟩:=hv 11 18 (by decide) rfl;(try dsimp only at RA);obtain ⟨rfl,BR⟩:=RA;have H:=H.kr abR;clear hv;refine kH H (Rk rfl (Rf D5 rfl ?_));clear H;intro a H;refine aP ER 1 (vs:=[_]) _ H wn rfl rfl rfl rfl rfl rfl rfl rfl ?_;clear H;intro w H;dsimp only [List.set,setRow] at H;refine au ⟨rfl,?_⟩;refine K2 _ _ ?_;clear K2;refine kP H (SC (Rm rfl (Rk rfl (Rf DZ rfl ?_))));clear H;intro a H;refine gy YK (Li:=[_]) (L:=eZ b s i p (.slice A lit.length c) (.slice fH.1.1 (parts.length+1) fH.1.2) pl e :: fH.2) H wn rfl (aeM _ _ _ b s i p A lit.length c fH.1.1 (parts.length+1) fH.1.2 pl e (Hp.owns (Li:=[_]) H.hp)) rfl ?_;clear H;rintro v24 _ L24 a w ⟨rfl,rfl⟩ uw H;dsimp only [List.cons_append,List.nil_append] at H;refine au ?_;refine (leave0 H Tryz.results142 ?_).2
  first
   | exact H.hp.bR (L':=eZ b s i _ _ _ pl e :: fH.2) (List.sublist_cons_self _ _) ⟨_,_,_,fH.2,[],by rw [List.append_nil],⟨.inl rfl,eB.nil,by rw [pK,if_neg hne];simpa using BR⟩⟩
   | exact H.hp.eG ⟨_,_,_,Lp,Lo,by rw [lM],by
     have h0:lit=[]:=by
      cases lit with
      | nil=>rfl
      | cons x r=>simp at p6
     subst h0;exact ⟨RF,hbuf,by rw [pK,if_pos rfl];exact Hf⟩⟩
 intro h6 a H
 try have p6:=dF h6
 refine eX ?_;refine (leave0 H Tryz.results142 ?_).2
 first
  | exact H.hp.bR (L':=eZ b s i _ _ _ pl e :: fH.2) (List.sublist_cons_self _ _) ⟨_,_,_,fH.2,[],by rw [List.append_nil],⟨.inl rfl,eB.nil,by rw [pK,if_neg hne];simpa using BR⟩⟩
  | exact H.hp.eG ⟨_,_,_,Lp,Lo,by rw [lM],by
    have h0:lit=[]:=by
     cases lit with
     | nil=>rfl
     | cons x r=>simp at p6
    subst h0;exact ⟨RF,hbuf,by rw [pK,if_pos rfl];exact Hf⟩⟩
theorem TB (G:GH) (Lp Lo:OL) (w0:World) (b:Nat) (s:ByteArray) (i:Int) (p v q:Value) (pl e:Int) (lit:List UInt8) (parts:List gM) (ch:Int) (plain:Bool) (hR:vC b lit parts p v q Lp Lo) (hO:gT G (eZ b s i p v q pl e :: (Lp++Lo)) w0) (hl:lit.length≤4294967296) (hp:parts.length≤4294967290) (hc:49≤ch∧ch≤57) (hpl:0≤pl∧pl≤4294967296) :
  Calls Tryz.prog 145 #[.pointer (some ⟨b,0,none⟩),.int .u8 ch,.bool plain] w0 (fQ w0 G (eZ b s i p v q pl e :: (Lp++Lo)) fun u G' L'=>∃ p' v' q' mI iB,L'=eZ b s i p' v' q' (pl+1) e :: (mI++iB)∧vC b [] (pK lit parts++[⟨⟨#[]⟩,ch - 48,plain⟩]) p' v' q' mI iB):=by
 have hml:maxLen=9223372036854775807:=rfl
 have hfl:(pK lit parts).length≤parts.length+1:=by unfold pK;split <;> simp
 obtain ⟨A,c,rfl,RS,RU⟩:=hR.buf.shape;obtain ⟨B,d,rfl,RG,RH⟩:=hR.prt.shape;obtain ⟨Lt,lM⟩:∃ x,x=Lp++Lo:=⟨_,rfl⟩;rw [← lM] at hO ⊢;refine jv (N:=29) (T:=[(0,_),(1,_),(2,_)]) Tryz.func145 rfl Tryz.ntmps145 rfl rfl hO ?_;intro a H;refine kP H (SR fun _ K1=>Rm rfl ?_);clear H;intro a H;refine gy JZ (Li:=[]) (L:=eZ b s i p (.slice A lit.length c) (.slice B parts.length d) pl e :: Lt) H wn rfl (by subst lM;exact KD _ Lp Lo _ b s i p _ _ pl e lit parts hR (Hp.owns (Li:=[]) H.hp) hl (by omega)) rfl ?_;clear H;rintro v7 G7 L7 a w ⟨p',v',q',mI,iB,rfl,Eh⟩ xC H;dsimp only [List.nil_append] at H;obtain ⟨A7,c7,rfl,-,-⟩:=Eh.buf.shape;obtain ⟨B7,d7,rfl,-,-⟩:=Eh.prt.shape;refine K1 _ _ ?_;clear K1;refine kP H (SR fun _ K2=>Rm rfl (Rm rfl (Rk rfl (Rf D5 rfl (Ro ER 0 rfl rfl (Rm rfl ?_))))));clear H;intro a H;refine aeg H wn rfl rfl (by omega) (by omega) rfl ?_;clear H;intro a H;refine Cr _ kU EX H wn rfl rfl rfl ?_;clear H;intro a H;rw [EF (by omega) (by omega)] at H;refine kH H (Rm rfl ?_);clear H;intro a H;refine iP Ui [_,_,_] H wn rfl rfl rfl rfl ?_;clear H;intro a H;refine fM CP Cz [_,_,_] [_,_,_] H wn rfl rfl rfl rfl rfl (by intro i q h;match i,h with|0,h=>exact h|n+1,h=>simp at h) rfl rfl ?_;clear H;intro b18 a w GN H;have H:=(St.cast H (show _=[_,_]++(mI++iB) from rfl)).perm (List.Perm.append_left _ List.perm_append_comm);have H:=St.un H;refine sF (Li:=[_,_]++iB) (Lo:=mI) (news:=gM.cells ⟨⟨#[]⟩,ch - 48,plain⟩) CP Cz rfl rfl H wn rfl rfl Eh.prt rfl (H.hp.bF 0 rfl rfl) rfl (by omega) (by omega) rfl ?_;clear H;intro v19 OO a w sU H;obtain ⟨NS,c19,rfl,-,-⟩:=sU.shape;rw [← Sq] at sU;have H:=H.assoc.perm (List.Perm.append_left _ List.perm_append_comm);dsimp only [List.cons_append,List.nil_append] at H;refine kH H (Rk rfl (Rf D5 rfl ?_));clear H;intro a H;refine aP ER 1 (vs:=[_]) _ H wn rfl rfl rfl rfl rfl rfl rfl rfl ?_;clear H;intro w H;dsimp only [List.set,setRow] at H;refine K2 _ _ ?_;clear K2;refine kP H (SC (Rm rfl (Rk rfl (Rf Gn rfl (Ro ak 1 rfl rfl (Rd rfl (Rk rfl (Rf Gn rfl ?_))))))));clear H;intro a H;refine aP ak 1 (vs:=[_]) _ H wn rfl rfl rfl rfl rfl rfl rfl rfl ?_;clear H;intro w H;dsimp only [List.set,setRow] at H;refine au ?_;refine (leave0 H Tryz.results145 ?_).2;exact H.hp.bR (L':=eZ b s i _ _ _ (pl+1) e :: (OO++iB)) (List.sublist_cons_self _ _) ⟨_,_,_,OO,iB,rfl,Eh.ptr,Eh.buf,by simpa using sU⟩
end
section
open Go.RowKit
section
variable {N:Nat} {D:List Deferred} {w0:World} {F:Nat→Prop} {G0 G:GH} {L:OL} {T Xs:List (Nat × Value)}
variable {r:Option Nat} {P:Program} {Q:Exit→Act→World→Prop} {l:List Oper} {a a':Act} {w w':World}
/-- A slot, what it holds, the operation on which that hangs, and whether that one is done. -/
abbrev NW:Type:=Nat × Value × Nat × Bool
def NY (ent:List NW) (S:Nat→Bool) (a:Act):Prop:=∀ e∈ent,S e.2.2.1=e.2.2.2→a.tmps[e.1]?=some e.2.1
theorem NY.at {ent:List NW} {S:Nat→Bool} {a:Act} (h:NY ent S a) (k:Nat) {t:Nat} {v:Value} {j:Nat} {b:Bool} (hk:ent[k]?=some (t,v,j,b)) (hS:S j=b):a.tmps[t]?=some v:=h _ (List.mem_of_getElem? hk) hS
/-- The beginning of a string. -/
theorem aef {ops:Array Oper} {rest:List Oper} {d:Nat} {ty:TypeId} {pos:String} {aG:Array Edge} {g:Option (Nat × Bool)} {t:TypeId} {x y:Operand} {s:ByteArray} {ky:IntKind} {p:Int} (hi:Nat) (ht:P.underlying t=some .string) (H:St N D w0 F G0 G L T a w) (hw:Region.wanted ⟨some d,.slice t x none (some y) none,ty,pos,aG,g⟩ (yielded ops a.tmps)=true) (hx:ev T x=some (.string s)) (hy:ev T y=some (.int ky p)) (hp:p=(hi:Int)) (h1:hi≤s.size) (hd:Nat.blt d N=true)
  (k:∀ a',St N D w0 F G0 G L ((d,.string (s.extract 0 hi)) :: T) a' w→WL r P ops Q rest a' w):WL r P ops Q (⟨some d,.slice t x none (some y) none,ty,pos,aG,g⟩ :: rest) a w:=by
 subst hp
 have hr:=run_slice_string_h (P:=P) w t s ht ky (hi:Int) (by omega) (by omega)
 rw [Int.toNat_natCast] at hr
 refine eT (v:=.string (s.extract 0 hi)) (w':=w) hw rfl ?_ (k _ (H.put hd _ H.hp))
 simp only [execOp,H.ev hx,Option.map_some,Option.map_none,H.ev hy,Sem.run_bind,run_sliceAt_string w t _ _ _ _ ht,hr,Result.andThen_ok,Sem.run_pure]
end
end
section
open Go.RowKit
theorem YP:∀ args w,(callFunc 150 args).run Tryz.prog w=.ok (.enter 150 args) w:=enters Tryz.func150 rfl (by kernel_rfl)
theorem q9:bO Tryz.prog 228 0 0:=⟨by kernel_rfl⟩
theorem PU:∀ args w,(callFunc 141 args).run Tryz.prog w=.ok (.enter 141 args) w:=enters Tryz.func141 rfl (by kernel_rfl)
theorem PV:∀ args w,(callFunc 144 args).run Tryz.prog w=.ok (.enter 144 args) w:=enters Tryz.func144 rfl (by kernel_rfl)
theorem PW:∀ args w,(callFunc 145 args).run Tryz.prog w=.ok (.enter 145 args) w:=enters Tryz.func145 rfl (by kernel_rfl)
theorem l9:bO Tryz.prog 228 1 1:=⟨by kernel_rfl⟩
theorem J2:∀ args w,(callFunc 143 args).run Tryz.prog w=.ok (.enter 143 args) w:=enters Tryz.func143 rfl (by kernel_rfl)
theorem vH:bO Tryz.prog 228 5 6:=⟨by kernel_rfl⟩
def mX (s p:ByteArray):Bool:=decide (p.size≤s.size) && ((s.extract 0 p.size).toList == p.toList)
theorem aaO (G:GH) (w0:World) (hG:Hold G w0) (s p:ByteArray) (hs:s.size≤4611686018427387904) (hp:p.size≤4611686018427387904):Calls Tryz.prog 150 #[.string s,.string p] w0 (aU w0 G fun u G'=>u=.bool (mX s p)∧G=G'):=by
 refine eN [(0,_),(1,_)] Tryz.func150 rfl Tryz.ntmps150 rfl rfl hG ?_;intro a H;refine kP H (SR fun _ K1=>Ra rfl (Kz K1 (SR fun _ K2=>Rm rfl (Rv fB rfl (Rm rfl (Rv fB rfl (Rc rfl (Rm rfl (Sp 10 rfl ?_ ?_))))))))) <;> clear H K1
 ·intro h10 a H
  try have r9:=dT h10
  refine kH H (YM h10 rfl (YM h10 rfl ?_));clear H;intro a H;refine Au fB H (wg H rfl rfl h10) rfl rfl ?_;clear H;intro a H;refine aef p.size fB H (wg H rfl rfl h10) rfl rfl rfl (by omega) rfl ?_;clear H;intro a H;refine kH H (YM h10 rfl ?_);clear H;intro a H;refine EO H (wg H rfl rfl h10) rfl rfl rfl ?_;clear H;intro a H;exact kH H (Pt h10 rfl (Ra rfl (Kz K2 (LR Tryz.results150 rfl fun H=>H.hp.ret ⟨congrArg Value.bool (by unfold mX;first|(simp_all;done)|(simp_all;omega)),rfl⟩))))
 intro h10 a H
 try have r9:=dF h10
 exact kH H (Ks h10 rfl (Ks h10 rfl (Ks h10 rfl (Ks h10 rfl (Ks h10 rfl (Ks h10 rfl (Pf h10 rfl (Ra rfl (Kz K2 (LR Tryz.results150 rfl fun H=>H.hp.ret ⟨congrArg Value.bool (by unfold mX;first|(simp_all;done)|(simp_all;omega)),rfl⟩))))))))))
theorem Lm (G:GH) (w0:World) (hG:Hold G w0) (s p:ByteArray) (hs:s.size≤4611686018427387904) (hp:p.size≤4611686018427387904):Calls Tryz.prog 143 #[.string s,.string p] w0 (aU w0 G fun u G'=>u=.bool (mX s p)∧G=G'):=by
 refine eN [(0,_),(1,_)] Tryz.func143 rfl Tryz.ntmps143 rfl rfl hG ?_;intro a H;refine kP H (SR fun _ K1=>Ra rfl (Kz K1 (SR fun _ K2=>Rm rfl (Rm rfl ?_))));clear H K1;intro a H;refine s_call YP H wn rfl (aaO _ _ H.hp.ro s p hs hp) rfl ?_;clear H;rintro v7 _ a w ⟨rfl,rfl⟩ - H;exact kH H (Ra rfl (Kz K2 (LR Tryz.results143 rfl fun H=>H.hp.ret ⟨rfl,rfl⟩)))
/-- Whether a digit from 1 to 9 stands at a place. -/
def nR (s:ByteArray) (k:Nat):Bool:=decide (k < s.size) && decide (49≤fC s k) && decide (fC s k≤57)
theorem PK (G:GH) (L:OL) (w0:World) (b:Nat) (s:ByteArray) (i:Int) (p v q:Value) (pl e:Int) (k:Nat) (hs:s.size≤4611686018427387904) (hO:gT G (eZ b s i p v q pl e :: L) w0) :
  Calls Tryz.prog 144 #[.pointer (some ⟨b,0,none⟩),vi k] w0 (fQ w0 G (eZ b s i p v q pl e :: L) fun u G' L'=>u=.bool (nR s k)∧L'=eZ b s i p v q pl e :: L∧G'=G):=by
 refine jv (N:=30) (T:=[(0,_),(1,_)]) Tryz.func144 rfl Tryz.ntmps144 rfl rfl hO ?_;intro a H;refine kP H (SR fun _ K1=>Ra rfl (Kz K1 (SR fun _ K2=>Rm rfl (Rm rfl (Rk rfl (Rf q9 rfl (Ro gB 0 rfl rfl (Rv fB rfl (Rc rfl (Rm rfl (Sp 12 rfl ?_ ?_))))))))))) <;> clear H K1
 ·intro h12 a H
  try have oz:=dT h12
  refine kH H (YM h12 rfl ?_);clear H;intro a H;refine o8 H (wg H rfl rfl h12) rfl rfl ?_;clear H;intro a H;refine kH H (YF q9 h12 rfl (YO gB 0 h12 rfl rfl (YM h12 rfl ?_)));clear H;intro a H;refine lC k fB H (wg H rfl rfl h12) rfl rfl rfl (by omega) rfl ?_;clear H;intro a H;rw [← jQ] at H;refine kH H (YC h12 rfl (Pt h12 rfl (Rm rfl (Sp 21 rfl ?_ ?_)))) <;> clear H
  ·intro h21 a H
   try have lS:=dT h21
   refine kH H (YM h21 rfl ?_);clear H;intro a H;refine o8 H (wg H rfl rfl h21) rfl rfl ?_;clear H;intro a H;refine kH H (YF q9 h21 rfl (YO gB 0 h21 rfl rfl (YM h21 rfl ?_)));clear H;intro a H;refine lC k fB H (wg H rfl rfl h21) rfl rfl rfl (by omega) rfl ?_;clear H;intro a H;rw [← jQ] at H;exact kH H (YC h21 rfl (Pt h21 rfl (Ra rfl (Kz K2 (LR Tryz.results144 rfl fun H=>H.hp.eG ⟨congrArg Value.bool (by unfold nR;first|(simp_all;done)|(simp_all;omega)),rfl,rfl⟩)))))
  intro h21 a H
  try have lS:=dF h21
  exact kH H (Ks h21 rfl (Ks h21 rfl (Ks h21 rfl (Ks h21 rfl (Ks h21 rfl (Ks h21 rfl (Ks h21 rfl (Pf h21 rfl (Ra rfl (Kz K2 (LR Tryz.results144 rfl fun H=>H.hp.eG ⟨congrArg Value.bool (by unfold nR;first|(simp_all;done)|(simp_all;omega)),rfl,rfl⟩)))))))))))
 intro h12 a H
 try have oz:=dF h12
 refine kH H (Ks h12 rfl (Ks h12 rfl (Ks h12 rfl (Ks h12 rfl (Ks h12 rfl (Ks h12 rfl (Ks h12 rfl (Pf h12 rfl (Rm rfl (Ks rfl rfl (Ks rfl rfl (Ks rfl rfl (Ks rfl rfl (Ks rfl rfl (Ks rfl rfl (Ks rfl rfl ?_))))))))))))))));clear H;intro a H;exact kH H (Pf rfl rfl (Ra rfl (Kz K2 (LR Tryz.results144 rfl fun H=>H.hp.eG ⟨congrArg Value.bool (by unfold nR;first|(simp_all;done)|(simp_all;omega)),rfl,rfl⟩))))
structure lX where
 i:Nat
 lit:List UInt8
 parts:List gM
 pl:Nat
 e:Int
def lg (s:ByteArray) (x:lX):lX :=
 if mX (s.extract x.i s.size) ⟨#[37,37]⟩=true then ⟨x.i+2,x.lit++[37],x.parts,x.pl,x.e⟩
 else if nR s (x.i+1)=true then ⟨x.i+2,[],pK x.lit x.parts++[⟨⟨#[]⟩,fC s (x.i+1) - 48,false⟩],x.pl+1,x.e⟩
 else if mX (s.extract x.i s.size) ⟨#[37,100]⟩=true∧nR s (x.i+2)=true then ⟨x.i+3,[],pK x.lit x.parts++[⟨⟨#[]⟩,fC s (x.i+2) - 48,true⟩],x.pl+1,x.e⟩
 else ⟨x.i,x.lit,x.parts,x.pl,14⟩
abbrev qN (b:Nat) (s:ByteArray) (x:lX) (p v q:Value):Nat × Obj:=eZ b s x.i p v q x.pl x.e
theorem PI {s:ByteArray} {k:Nat} (h:nR s k=true):k < s.size∧49≤fC s k∧fC s k≤57:=by
 simpa [nR,and_assoc] using h
set_option maxHeartbeats 1000000 in
theorem ade (G:GH) (Lp Lo:OL) (w0:World) (b:Nat) (s:ByteArray) (x:lX) (p v q:Value) (hR:vC b x.lit x.parts p v q Lp Lo) (hO:gT G (qN b s x p v q :: (Lp++Lo)) w0) (hs:s.size≤4294967290) (hi:x.i < s.size) (hl:x.lit.length≤4294967290) (hp:x.parts.length≤4294967290) (hpl:x.pl≤4294967290) :
    Calls Tryz.prog 140 #[.pointer (some ⟨b,0,none⟩)] w0 (fQ w0 G (qN b s x p v q :: (Lp++Lo)) fun u G' L'=>∃ p' v' q' mI iB,L'=qN b s (lg s x) p' v' q' :: (mI++iB)∧vC b (lg s x).lit (lg s x).parts p' v' q' mI iB):=by
  obtain ⟨i,lit,parts,pl,e⟩:=x;dsimp only [qN] at *
  have hex:(s.extract i s.size).size≤4611686018427387904:=by rw [ByteArray.size_extract];omega
  obtain ⟨A,c,rfl,RS,RU⟩:=hR.buf.shape;obtain ⟨B,d,rfl,RG,RH⟩:=hR.prt.shape;obtain ⟨Lt,lM⟩:∃ x,x=Lp++Lo:=⟨_,rfl⟩;rw [← lM] at hO ⊢;refine jv (N:=93) (T:=[(0,_)]) Tryz.func140 rfl Tryz.ntmps140 rfl rfl hO ?_;intro a H;refine lZ ?_;refine aQ (fun _ K1=>?_);refine dz (hmx) [[],[0],[0,1],[0,1,2],[],[4],[4,5],[4,5,6],(List.range 8),(List.range 9),(List.range 10)] [] (by kernel_rfl) (by kernel_rfl) (fun (aC:Nat) (v:Value) (G:GH)=>match aC with|0=>v=.pointer (some ⟨b,0,none⟩)|1=>v=.pointer (some ⟨b,0,none⟩)|2=>v=.pointer (some ⟨b,0,none⟩)|3=>v=.string s|4=>v=.pointer (some ⟨b,0,none⟩)|5=>v=.pointer (some ⟨b,0,none⟩)|6=>v=.pointer (some ⟨b,1,none⟩)|7=>v=vi i|8=>v=.string (s.extract i s.size)|9=>v=.bool (mX (s.extract i s.size) ⟨#[37,37]⟩)|10=>v=.bool (mX (s.extract i s.size) ⟨#[37,37]⟩)|_=>True) (fun _ _ _ _ _ h=>h) H ?_ ?_
  · clear H;refine av (Z0 rfl (Rm rfl)) (Z1 0 6 rfl (Rk rfl)) (Z1 1 7 rfl (Rf q9 rfl)) (Z1 2 8 rfl (Ro gB 0 rfl rfl)) (av (Z0 rfl (Rm rfl)) (Z1 4 10 rfl (Rk rfl)) (Z1 5 11 rfl (Rf l9 rfl)) (Z1 6 12 rfl (Ro ak 0 rfl rfl)) (bq ?_ (bq ?_ (bq (Z1 9 15 rfl (Ra rfl)) dh))))
    · refine dK 3 9 7 13 rfl rfl fun _ a w G1 hG HT H fin=>?_;refine Nu i fB H wn rfl rfl rfl (by omega) rfl ?_;clear H;intro a H;exact fin H iJ rfl
    refine dS 8 14 rfl rfl fun _ a w G1 hG HT H fin=>?_;refine s_call J2 H wn rfl (Lm _ _ H.hp.ro _ _ hex (by decide)) rfl ?_;clear H;rintro v15 zy a w ⟨rfl,rfl⟩ zX H;exact fin H zX (rfl)
  clear H;intro a w G kZ H hv;have H:=H.aM (hv 10 5 rfl rfl) rfl;clear hv;refine au ⟨rfl,?_⟩;refine K1 _ _ ?_;clear K1;refine l6 H rfl ?_ ?_
  · intro h5
    try have p5:=dT h5
    refine kP H (SR fun _ K2=>Rm rfl (Rk rfl (Rf DZ rfl ?_)));clear H;intro a H;refine gy PU (Li:=[]) (L:=eZ b s i p (.slice A lit.length c) (.slice B parts.length d) pl e :: Lt) H wn rfl (by subst lM;exact UY _ Lp Lo _ b s i p _ B parts.length d pl e lit.length _ 37 hR.ptr (Hp.owns (Li:=[]) H.hp) hR.buf (by omega)) rfl ?_;clear H;rintro v19 _ L19 a w ⟨agF,zH,rfl,sU,rfl⟩ LZ H;dsimp only [List.nil_append] at H;obtain ⟨NS,c19,rfl,-,-⟩:=sU.shape;refine K2 _ _ ?_;clear K2;refine kP H (SC (Rm rfl (Rk rfl (Rf l9 rfl (Ro ak 0 rfl rfl (Rd rfl (Rk rfl (Rf l9 rfl ?_))))))));clear H;intro a H;refine aP ak 0 (vs:=[_]) _ H wn rfl rfl rfl rfl rfl rfl rfl rfl ?_;clear H;intro w H;dsimp only [List.set,setRow] at H;refine au ?_;refine (leave0 H Tryz.results140 ?_).2;exact H.hp.eG ⟨_,_,_,Lp,zH,by rw [lg,if_pos h5];rfl,by rw [lg,if_pos h5];exact ⟨.inr rfl,by simpa [Lib.byteCells] using sU,hR.prt⟩⟩
  intro h5
  try have p5:=dF h5
  refine kP H (SR fun _ K3=>Rm rfl (Rm rfl (Rk rfl (Rf l9 rfl (Ro ak 0 rfl rfl (Rd rfl ?_))))));clear H;intro a H;rw [show ((i:Int)+1)=((i+1:Nat):Int) from rfl] at H;refine gy PV (Li:=[]) (L:=eZ b s i p (.slice A lit.length c) (.slice B parts.length d) pl e :: Lt) H wn rfl (PK _ Lt _ b s i p _ _ pl e (i+1) (by omega) (Hp.owns (Li:=[]) H.hp)) rfl ?_;clear H;rintro v34 _ L34 a w ⟨rfl,rfl,rfl⟩ Rh H;dsimp only [List.nil_append] at H;refine kH H (Ra rfl (Kz K3 (Cd rfl ?_ ?_))) <;> clear H K3
  · intro h27 a H
    try have p27:=dT h27
    have hd1:=PI h27;refine aQ (fun _ K4=>?_);refine dz (hmx) [[],[],[1],[1,2],[1,2,3],[],[5],[5,6],[5,6,7],[5,6,7,8],[1,2,3,4,5,6,7,8,9],(List.range 11)] [11] (by kernel_rfl) (by kernel_rfl) (fun (aC:Nat) (v:Value) (G:GH)=>match aC with|0=>v=.pointer (some ⟨b,0,none⟩)|1=>v=.pointer (some ⟨b,0,none⟩)|2=>v=.pointer (some ⟨b,0,none⟩)|3=>v=.pointer (some ⟨b,0,none⟩)|4=>v=.string s|5=>v=.pointer (some ⟨b,0,none⟩)|6=>v=.pointer (some ⟨b,0,none⟩)|7=>v=.pointer (some ⟨b,1,none⟩)|8=>v=vi i|9=>v=vi ((i+1:Nat):Int)|10=>v=.int .u8 (fC s (i+1))|_=>True) (fun _ _ _ _ _ h=>h) H ?_ ?_
    · clear H;refine av (Z0 rfl (Rm rfl)) (Z0 rfl (Rm rfl)) (Z1 1 36 rfl (Rk rfl)) (Z1 2 37 rfl (Rf q9 rfl)) (av (Z1 3 38 rfl (Ro gB 0 rfl rfl)) (Z0 rfl (Rm rfl)) (Z1 5 40 rfl (Rk rfl)) (Z1 6 41 rfl (Rf l9 rfl)) (av (Z1 7 42 rfl (Ro ak 0 rfl rfl)) (Z1 8 43 rfl (Rd rfl)) ?_ (aT rfl) dh))
      refine dK 4 39 9 44 rfl rfl fun _ a w G1 hG HT H fin=>?_;refine lC (i+1) fB H wn rfl rfl rfl hd1.1 rfl ?_;clear H;intro a H;rw [← jQ] at H;exact fin H iJ rfl
    clear H;intro a w G yM H hv;have H:=H.aM (hv 0 35 rfl rfl) rfl;have H:=H.aM (hv 10 45 rfl rfl) rfl;clear hv;refine gy PW (Li:=[]) (L:=eZ b s i p (.slice A lit.length c) (.slice B parts.length d) pl e :: Lt) H wn rfl (by subst lM;exact TB _ Lp Lo _ b s i p _ _ pl e lit parts (fC s (i+1)) false hR (Hp.owns (Li:=[]) H.hp) (by omega) (by omega) hd1.2 (by omega)) rfl ?_;clear H;rintro v46 Je L46 a w ⟨p46,afg,q46,Dj,Di,rfl,wZ⟩ xB H;dsimp only [List.nil_append] at H;obtain ⟨Vg,c46,rfl,-,-⟩:=wZ.buf.shape;obtain ⟨Vm,XH,rfl,-,-⟩:=wZ.prt.shape;refine au ⟨rfl,?_⟩;refine K4 _ _ ?_;clear K4;refine kP H (SC (Rm rfl (Rk rfl (Rf l9 rfl (Ro ak 0 rfl rfl (Rd rfl (Rk rfl (Rf l9 rfl ?_))))))));clear H;intro a H;refine aP ak 0 (vs:=[_]) _ H wn rfl rfl rfl rfl rfl rfl rfl rfl ?_;clear H;intro w H;dsimp only [List.set,setRow] at H;refine au ?_;refine (leave0 H Tryz.results140 ?_).2;exact H.hp.eG ⟨_,_,_,Dj,Di,by rw [lg,if_neg (by simp [h5]),if_pos h27];rfl,by rw [lg,if_neg (by simp [h5]),if_pos h27];exact wZ⟩
  intro h27 a H
  try have p27:=dF h27
  refine aQ (fun _ K5=>?_)
  by_cases c1:mX (s.extract i s.size) ⟨#[37,100]⟩=true
  · skip;refine dz (hmx) [[],[0],[0,1],[0,1,2],[],[4],[4,5],[4,5,6],(List.range 8),(List.range 9),(List.range 10),(List.range 11),(List.range 11),(List.range 11++[12]),(List.range 11++[12,13]),(List.range 11++[12,13,14]),(List.range 11++[12,13,14,15]),(List.range 17),(List.range 18),(List.range 19)] [] (by kernel_rfl) (by kernel_rfl) (fun (aC:Nat) (v:Value) (G:GH)=>match aC with|0=>v=.pointer (some ⟨b,0,none⟩)|1=>v=.pointer (some ⟨b,0,none⟩)|2=>v=.pointer (some ⟨b,0,none⟩)|3=>v=.string s|4=>v=.pointer (some ⟨b,0,none⟩)|5=>v=.pointer (some ⟨b,0,none⟩)|6=>v=.pointer (some ⟨b,1,none⟩)|7=>v=vi i|8=>v=.string (s.extract i s.size)|9=>v=.bool (mX (s.extract i s.size) ⟨#[37,100]⟩)|10=>v=.bool (decide (mX (s.extract i s.size) ⟨#[37,100]⟩=true))|11=>v=.pointer (some ⟨b,0,none⟩)|12=>v=.pointer (some ⟨b,0,none⟩)|13=>v=.pointer (some ⟨b,0,none⟩)|14=>v=.pointer (some ⟨b,1,none⟩)|15=>v=vi i|16=>v=vi ((i+2:Nat):Int)|17=>v=.bool (nR s (i+2))|18=>v=.bool (nR s (i+2))|19=>v=.bool (nR s (i+2))|_=>True) (fun _ _ _ _ _ h=>h) H ?_ ?_
    · clear H;refine av (Z0 rfl (Rm rfl)) (Z1 0 55 rfl (Rk rfl)) (Z1 1 56 rfl (Rf q9 rfl)) (Z1 2 57 rfl (Ro gB 0 rfl rfl)) (av (Z0 rfl (Rm rfl)) (Z1 4 59 rfl (Rk rfl)) (Z1 5 60 rfl (Rf l9 rfl)) (Z1 6 61 rfl (Ro ak 0 rfl rfl)) (av ?_ ?_ ?_ (Z1 10 65 rfl (YM (ay c1) rfl)) (av (Z1 10 65 rfl (YM (ay c1) rfl)) ?_ (Z2 13 68 10 65 rfl (YF l9 (ay c1) rfl)) (Z2 14 69 10 65 rfl (YO ak 0 (ay c1) rfl rfl)) (av ?_ ?_ (Z2 10 65 17 72 rfl (Pt (ay c1) rfl)) (Z1 18 73 rfl (Ra rfl)) dh))))
      · refine dK 3 58 7 62 rfl rfl fun _ a w G1 hG HT H fin=>?_;refine Nu i fB H wn rfl rfl rfl (by omega) rfl ?_;clear H;intro a H;exact fin H iJ rfl
      · refine dS 8 63 rfl rfl fun _ a w G1 hG HT H fin=>?_;refine s_call J2 H wn rfl (Lm _ _ H.hp.ro _ _ hex (by decide)) rfl ?_;clear H;rintro v64 VF a w ⟨rfl,rfl⟩ KZ H;exact fin H KZ (rfl)
      · refine dS 9 64 rfl rfl fun _ a w G1 hG HT H fin=>?_;refine kH H (Rm rfl ?_);clear H;intro a H;exact fin H iJ (by simp)
      · refine dK 12 67 10 65 rfl rfl fun _ a w G1 hG HT H fin=>?_;refine o8 H (wg H rfl rfl (ay c1)) rfl rfl ?_;clear H;intro a H;exact fin H iJ rfl
      · refine dK 15 70 10 65 rfl rfl fun _ a w G1 hG HT H fin=>?_;refine Iq _ H (wg H rfl rfl (ay c1)) rfl rfl rfl (by omega) (by omega) rfl ?_;clear H;intro a H;exact fin H iJ rfl
      refine wK 11 66 16 71 10 65 rfl rfl fun _ a w G1 hG HT H fin=>?_;refine gy PV (Li:=[]) (L:=eZ b s i p (.slice A lit.length c) (.slice B parts.length d) pl e :: Lt) H (wg H rfl rfl (ay c1)) rfl (PK _ Lt _ b s i p _ _ pl e (i+2) (by omega) (Hp.owns (Li:=[]) H.hp)) rfl ?_;clear H;rintro v72 G72 L72 a w ⟨rfl,rfl,rfl⟩ aaH H;dsimp only [List.nil_append] at H;exact fin H aaH (rfl)
    clear H;intro a w G La H hv;have H:=H.aM (hv 19 54 rfl rfl) rfl;clear hv;refine au ⟨rfl,?_⟩;refine K5 _ _ ?_;clear K5;refine l6 H rfl ?_ ?_
    · intro fG
      try have p54:=dT fG
      have hd2:=PI fG;refine aQ (fun _ K6=>?_);refine dz (hmx) [[],[],[1],[1,2],[1,2,3],[],[5],[5,6],[5,6,7],[5,6,7,8],[1,2,3,4,5,6,7,8,9],(List.range 11)] [11] (by kernel_rfl) (by kernel_rfl) (fun (aC:Nat) (v:Value) (G:GH)=>match aC with|0=>v=.pointer (some ⟨b,0,none⟩)|1=>v=.pointer (some ⟨b,0,none⟩)|2=>v=.pointer (some ⟨b,0,none⟩)|3=>v=.pointer (some ⟨b,0,none⟩)|4=>v=.string s|5=>v=.pointer (some ⟨b,0,none⟩)|6=>v=.pointer (some ⟨b,0,none⟩)|7=>v=.pointer (some ⟨b,1,none⟩)|8=>v=vi i|9=>v=vi ((i+2:Nat):Int)|10=>v=.int .u8 (fC s (i+2))|_=>True) (fun _ _ _ _ _ h=>h) H ?_ ?_
      · clear H;refine av (Z0 rfl (Rm rfl)) (Z0 rfl (Rm rfl)) (Z1 1 75 rfl (Rk rfl)) (Z1 2 76 rfl (Rf q9 rfl)) (av (Z1 3 77 rfl (Ro gB 0 rfl rfl)) (Z0 rfl (Rm rfl)) (Z1 5 79 rfl (Rk rfl)) (Z1 6 80 rfl (Rf l9 rfl)) (av (Z1 7 81 rfl (Ro ak 0 rfl rfl)) (Z1 8 82 rfl (Rd rfl)) ?_ (aT rfl) dh))
        refine dK 4 78 9 83 rfl rfl fun _ a w G1 hG HT H fin=>?_;refine lC (i+2) fB H wn rfl rfl rfl hd2.1 rfl ?_;clear H;intro a H;rw [← jQ] at H;exact fin H iJ rfl
      clear H;intro a w G oV H hv;have H:=H.aM (hv 0 74 rfl rfl) rfl;have H:=H.aM (hv 10 84 rfl rfl) rfl;clear hv;refine gy PW (Li:=[]) (L:=eZ b s i p (.slice A lit.length c) (.slice B parts.length d) pl e :: Lt) H wn rfl (by subst lM;exact TB _ Lp Lo _ b s i p _ _ pl e lit parts (fC s (i+2)) true hR (Hp.owns (Li:=[]) H.hp) (by omega) (by omega) hd2.2 (by omega)) rfl ?_;clear H;rintro v85 G85 L85 a w ⟨p46,afg,q46,Dj,Di,rfl,wZ⟩ agk H;dsimp only [List.nil_append] at H;obtain ⟨Vg,c46,rfl,-,-⟩:=wZ.buf.shape;obtain ⟨Vm,XH,rfl,-,-⟩:=wZ.prt.shape;refine au ⟨rfl,?_⟩;refine K6 _ _ ?_;clear K6;refine kP H (SC (Rm rfl (Rk rfl (Rf l9 rfl (Ro ak 0 rfl rfl (Rd rfl (Rk rfl (Rf l9 rfl ?_))))))));clear H;intro a H;refine aP ak 0 (vs:=[_]) _ H wn rfl rfl rfl rfl rfl rfl rfl rfl ?_;clear H;intro w H;dsimp only [List.set,setRow] at H;refine au ?_;refine (leave0 H Tryz.results140 ?_).2
      have qH:¬ mX (s.extract i s.size) ⟨#[37,37]⟩=true:=by simp [h5]
      have qG:¬ nR s (i+1)=true:=by simp [h27]
      first
        | exact H.hp.eG ⟨_,_,_,Dj,Di,by rw [lg,if_neg qH,if_neg qG,if_pos ⟨c1,fG⟩];rfl,by rw [lg,if_neg qH,if_neg qG,if_pos ⟨c1,fG⟩];exact wZ⟩
        | (have yV:¬ (mX (s.extract i s.size) ⟨#[37,100]⟩=true∧nR s (i+2)=true):=by simp_all
           exact H.hp.eG ⟨_,_,_,Lp,Lo,by rw [lg,if_neg qH,if_neg qG,if_neg yV,lM],by rw [lg,if_neg qH,if_neg qG,if_neg yV];exact hR⟩)
    intro fG
    try have p54:=dF fG
    refine kP H (SC (Rm rfl (Rk rfl (Rf vH rfl ?_))));clear H;intro a H;refine aP dQ 0 (vs:=[_]) _ H wn rfl rfl rfl rfl rfl rfl rfl rfl ?_;clear H;intro w H;dsimp only [List.set,setRow] at H;refine au ?_;refine (leave0 H Tryz.results140 ?_).2
    have qH:¬ mX (s.extract i s.size) ⟨#[37,37]⟩=true:=by simp [h5]
    have qG:¬ nR s (i+1)=true:=by simp [h27]
    first
      | exact H.hp.eG ⟨_,_,_,Dj,Di,by rw [lg,if_neg qH,if_neg qG,if_pos ⟨c1,fG⟩];rfl,by rw [lg,if_neg qH,if_neg qG,if_pos ⟨c1,fG⟩];exact wZ⟩
      | (have yV:¬ (mX (s.extract i s.size) ⟨#[37,100]⟩=true∧nR s (i+2)=true):=by simp_all
         exact H.hp.eG ⟨_,_,_,Lp,Lo,by rw [lg,if_neg qH,if_neg qG,if_neg yV,lM],by rw [lg,if_neg qH,if_neg qG,if_neg yV];exact hR⟩)
  skip;refine dz (hmx) [[],[0],[0,1],[0,1,2],[],[4],[4,5],[4,5,6],(List.range 8),(List.range 9),(List.range 10),(List.range 11),(List.range 11),(List.range 11++[12]),(List.range 11++[12,13]),(List.range 11++[12,13,14]),(List.range 11++[12,13,14,15]),(List.range 17),(List.range 18),(List.range 19)] [] (by kernel_rfl) (by kernel_rfl) (fun (aC:Nat) (v:Value) (G:GH)=>match aC with|0=>v=.pointer (some ⟨b,0,none⟩)|1=>v=.pointer (some ⟨b,0,none⟩)|2=>v=.pointer (some ⟨b,0,none⟩)|3=>v=.string s|4=>v=.pointer (some ⟨b,0,none⟩)|5=>v=.pointer (some ⟨b,0,none⟩)|6=>v=.pointer (some ⟨b,1,none⟩)|7=>v=vi i|8=>v=.string (s.extract i s.size)|9=>v=.bool (mX (s.extract i s.size) ⟨#[37,100]⟩)|10=>v=.bool (decide (mX (s.extract i s.size) ⟨#[37,100]⟩=true))|11=>v=undef|12=>v=undef|13=>v=undef|14=>v=undef|15=>v=undef|16=>v=undef|17=>v=undef|18=>v=.bool false|19=>v=.bool false|_=>True) (fun _ _ _ _ _ h=>h) H ?_ ?_
  · clear H;refine av (Z0 rfl (Rm rfl)) (Z1 0 55 rfl (Rk rfl)) (Z1 1 56 rfl (Rf q9 rfl)) (Z1 2 57 rfl (Ro gB 0 rfl rfl)) (av (Z0 rfl (Rm rfl)) (Z1 4 59 rfl (Rk rfl)) (Z1 5 60 rfl (Rf l9 rfl)) (Z1 6 61 rfl (Ro ak 0 rfl rfl)) (av ?_ ?_ ?_ (aV (j:=10) (by kernel_rfl) (fun _ _ _ _ _ h=>h) rfl rfl rfl rfl rfl (fun _ _ h=>Eq.trans h (congrArg Value.bool (aL c1))) rfl (fun _=>rfl)) (av (aV (j:=10) (by kernel_rfl) (fun _ _ _ _ _ h=>h) rfl rfl rfl rfl rfl (fun _ _ h=>Eq.trans h (congrArg Value.bool (aL c1))) rfl (fun _=>rfl)) (aV (j:=10) (by kernel_rfl) (fun _ _ _ _ _ h=>h) rfl rfl rfl rfl rfl (fun _ _ h=>Eq.trans h (congrArg Value.bool (aL c1))) rfl (fun _=>rfl)) (aV (j:=10) (by kernel_rfl) (fun _ _ _ _ _ h=>h) rfl rfl rfl rfl rfl (fun _ _ h=>Eq.trans h (congrArg Value.bool (aL c1))) rfl (fun _=>rfl)) (aV (j:=10) (by kernel_rfl) (fun _ _ _ _ _ h=>h) rfl rfl rfl rfl rfl (fun _ _ h=>Eq.trans h (congrArg Value.bool (aL c1))) rfl (fun _=>rfl)) (av (aV (j:=10) (by kernel_rfl) (fun _ _ _ _ _ h=>h) rfl rfl rfl rfl rfl (fun _ _ h=>Eq.trans h (congrArg Value.bool (aL c1))) rfl (fun _=>rfl)) (aV (j:=10) (by kernel_rfl) (fun _ _ _ _ _ h=>h) rfl rfl rfl rfl rfl (fun _ _ h=>Eq.trans h (congrArg Value.bool (aL c1))) rfl (fun _=>rfl)) (Z2 10 65 17 72 rfl (Pf (aL c1) rfl)) (Z1 18 73 rfl (Ra rfl)) dh))))
    · refine dK 3 58 7 62 rfl rfl fun _ a w G1 hG HT H fin=>?_;refine Nu i fB H wn rfl rfl rfl (by omega) rfl ?_;clear H;intro a H;exact fin H iJ rfl
    · refine dS 8 63 rfl rfl fun _ a w G1 hG HT H fin=>?_;refine s_call J2 H wn rfl (Lm _ _ H.hp.ro _ _ hex (by decide)) rfl ?_;clear H;rintro v64 VF a w ⟨rfl,rfl⟩ KZ H;exact fin H KZ (rfl)
    refine dS 9 64 rfl rfl fun _ a w G1 hG HT H fin=>?_;refine kH H (Rm rfl ?_);clear H;intro a H;exact fin H iJ (by simp)
  clear H;intro a w G La H hv;have H:=H.aM (hv 19 54 rfl rfl) rfl;clear hv;refine au ⟨rfl,?_⟩;refine K5 _ _ ?_;clear K5;refine mO H rfl rfl ?_;refine kP H (SC (Rm rfl (Rk rfl (Rf vH rfl ?_))));clear H;intro a H;refine aP dQ 0 (vs:=[_]) _ H wn rfl rfl rfl rfl rfl rfl rfl rfl ?_;clear H;intro w H;dsimp only [List.set,setRow] at H;refine au ?_;refine (leave0 H Tryz.results140 ?_).2
  have qH:¬ mX (s.extract i s.size) ⟨#[37,37]⟩=true:=by simp [h5]
  have qG:¬ nR s (i+1)=true:=by simp [h27]
  first
    | exact H.hp.eG ⟨_,_,_,Dj,Di,by rw [lg,if_neg qH,if_neg qG,if_pos ⟨c1,fG⟩];rfl,by rw [lg,if_neg qH,if_neg qG,if_pos ⟨c1,fG⟩];exact wZ⟩
    | (have yV:¬ (mX (s.extract i s.size) ⟨#[37,100]⟩=true∧nR s (i+2)=true):=by simp_all
       exact H.hp.eG ⟨_,_,_,Lp,Lo,by rw [lg,if_neg qH,if_neg qG,if_neg yV,lM],by rw [lg,if_neg qH,if_neg qG,if_neg yV];exact hR⟩)
end
section
open Go.RowKit
theorem YE:∀ args w,(callFunc 140 args).run Tryz.prog w=.ok (.enter 140 args) w:=enters Tryz.func140 rfl (by kernel_rfl)
def FH (s:ByteArray) (i:Nat):UInt8:=if h:i < s.size then s[i] else 0
theorem V9 (s:ByteArray) (i:Nat):fC s i=((FH s i).toNat:Int):=by
 unfold fC FH;split <;> rfl
def kS (s:ByteArray) (x:lX):lX:=if fC s x.i=37 then lg s x else ⟨x.i+1,x.lit++[FH s x.i],x.parts,x.pl,x.e⟩
/-- What the scanner holds behind its rounds. -/
def xS (s:ByteArray):Nat→lX→lX
 | 0,x=>x
 | f+1,x=>if x.i < s.size∧x.e=0 then xS s f (kS s x) else x
def mS (s:ByteArray) (x:lX):Nat:=if x.e=0 then s.size - x.i else 0
theorem Uc {s:ByteArray} {f:Nat} {x:lX} (h:¬ (x.i < s.size∧x.e=0)):xS s f x=x:=by
 cases f with
 | zero=>rfl
 | succ f=>rw [xS,if_neg h]
theorem aao (lit:List UInt8) (parts:List gM):(pK lit parts).length≤parts.length+1:=by unfold pK;split <;> simp
theorem Um (s:ByteArray) (x:lX) (h:x.i < s.size∧x.e=0) (h1:x.lit.length≤x.i) (h2:x.parts.length≤2*x.i) (h3:x.pl≤x.i) :
  (kS s x).i≤x.i+3∧(kS s x).lit.length≤(kS s x).i∧(kS s x).parts.length≤2*(kS s x).i∧(kS s x).pl≤(kS s x).i∧mS s (kS s x) < mS s x∧mS s x≤s.size:=by
 have hf:=aao x.lit x.parts;have hm:mS s x=s.size - x.i:=if_pos h.2
 unfold kS lg
 split
 ·split
  ·refine ⟨?_,?_,?_,?_,?_,?_⟩ <;> simp only [mS,List.length_append,List.length_cons,List.length_nil] at*<;> simp only [h.2,if_true] at*<;> omega
  split
  ·refine ⟨?_,?_,?_,?_,?_,?_⟩ <;> simp only [mS,List.length_append,List.length_cons,List.length_nil] at*<;> simp only [h.2,if_true] at*<;> omega
  split
  ·refine ⟨?_,?_,?_,?_,?_,?_⟩ <;> simp only [mS,List.length_append,List.length_cons,List.length_nil] at*<;> simp only [h.2,if_true] at*<;> omega
  refine ⟨?_,?_,?_,?_,?_,?_⟩ <;> simp only [mS,List.length_append,List.length_cons,List.length_nil] at*<;> simp only [h.2,if_true] at*<;> (try omega) <;> (simp;omega)
 refine ⟨?_,?_,?_,?_,?_,?_⟩ <;> simp only [mS,List.length_append,List.length_cons,List.length_nil] at*<;> simp only [h.2,if_true] at*<;> omega
def wh:lX:=⟨0,[],[],0,0⟩
def iQ (s:ByteArray):lX:=xS s s.size wh
def oF (x:lX):Int:=if x.e=0∧9 < (x.pl:Int) then 9 else x.e
set_option maxHeartbeats 1000000 in
theorem aej (G:GH) (Fz Fy:OL) (w0:World) (b:Nat) (s:ByteArray) (p0 v0 q0:Value) (hR:vC b [] [] p0 v0 q0 Fz Fy) (hO:gT G (qN b s wh p0 v0 q0 :: (Fz++Fy)) w0) (hs:s.size≤1073741824) :
  Calls Tryz.prog 137 #[.pointer (some ⟨b,0,none⟩)] w0 (fQ w0 G (qN b s wh p0 v0 q0 :: (Fz++Fy)) fun u G' L'=>∃ p' v' q' mI iB,L'=eZ b s (iQ s).i p' v' q' (iQ s).pl (oF (iQ s)) :: (mI++iB)∧vC b [] (pK (iQ s).lit (iQ s).parts) p' v' q' mI iB):=by
 obtain ⟨A0,c0,rfl,-,-⟩:=hR.buf.shape;obtain ⟨B0,d0,rfl,-,-⟩:=hR.prt.shape;refine jv (N:=68) (T:=[(0,_)]) Tryz.func137 rfl Tryz.ntmps137 rfl rfl hO ?_;intro a H;refine aQ (fun _ K1=>?_);refine lZ ?_;skip;refine d9 (ι:=Nat × lX × Value × Option Addr × Nat × Option Addr × Nat × OL × OL × GH) (Tc:=[(0,_)]) (Lc:=[]) (fun (gh:Nat × lX × Value × Option Addr × Nat × Option Addr × Nat × OL × OL × GH)=>[]) (fun (gh:Nat × lX × Value × Option Addr × Nat × Option Addr × Nat × OL × OL × GH)=>[qN b s gh.2.1 gh.2.2.1 (.slice gh.2.2.2.1 gh.2.1.lit.length gh.2.2.2.2.1) (.slice gh.2.2.2.2.2.1 gh.2.1.parts.length gh.2.2.2.2.2.2.1)]++(gh.2.2.2.2.2.2.2.1++gh.2.2.2.2.2.2.2.2.1)) (fun (gh:Nat × lX × Value × Option Addr × Nat × Option Addr × Nat × OL × OL × GH)=>gh.2.2.2.2.2.2.2.2.2) (fun (gh:Nat × lX × Value × Option Addr × Nat × Option Addr × Nat × OL × OL × GH)=>vC b gh.2.1.lit gh.2.1.parts gh.2.2.1 (.slice gh.2.2.2.1 gh.2.1.lit.length gh.2.2.2.2.1) (.slice gh.2.2.2.2.2.1 gh.2.1.parts.length gh.2.2.2.2.2.2.1) gh.2.2.2.2.2.2.2.1 gh.2.2.2.2.2.2.2.2.1∧xS s gh.1 gh.2.1=iQ s∧mS s gh.2.1≤gh.1∧gh.1≤s.size∧gh.2.1.i≤s.size+3∧gh.2.1.lit.length≤gh.2.1.i∧gh.2.1.parts.length≤2*gh.2.1.i∧gh.2.1.pl≤gh.2.1.i) (fun (gh:Nat × lX × Value × Option Addr × Nat × Option Addr × Nat × OL × OL × GH)=>gh.1) ((s.size,wh,p0,A0,c0,B0,d0,Fz,Fy,G)) (by exact (H).sub ⟨rfl,trivial⟩) ?_ ?_
 ·exact ⟨hR,rfl,by simp [mS,wh],Nat.le_refl _,by simp [wh],by simp [wh],by simp [wh],by simp [wh]⟩
 clear H;intro gh a w hI H;obtain ⟨k,x,p,vA,vc,qA,qc,Lp,Lo,g⟩:=gh;dsimp only at hI H;obtain ⟨hR,hsc,hmk,hks,hxi,hx1,hx2,hx3⟩:=hI;dsimp only [List.cons_append,List.nil_append,List.append_nil] at H;refine aQ (fun _ K2=>?_);refine aQ (fun _ K3=>?_)
 by_cases c0:(x.i:Int) < (s.size:Int)
 ·skip
  by_cases c1:x.e=0
  ·skip;refine dz (hmx) [[],[0],[0,1],[0,1,2],[],[4],[4,5],[4,5,6],[4,5,6,7],(List.range 9),(List.range 10),(List.range 11),(List.range 12),(List.range 13),(List.range 14),(List.range 15),(List.range 16)] [] (by kernel_rfl) (by kernel_rfl) (fun (aC:Nat) (v:Value) (G:GH)=>match aC with|0=>v=.pointer (some ⟨b,0,none⟩)|1=>v=.pointer (some ⟨b,0,none⟩)|2=>v=.pointer (some ⟨b,1,none⟩)|3=>v=vi x.i|4=>v=.pointer (some ⟨b,0,none⟩)|5=>v=.pointer (some ⟨b,0,none⟩)|6=>v=.pointer (some ⟨b,0,none⟩)|7=>v=.string s|8=>v=vi s.size|9=>v=.bool (decide ((x.i:Int) < (s.size:Int)))|10=>v=.bool (decide ((x.i:Int) < (s.size:Int)))|11=>v=.pointer (some ⟨b,0,none⟩)|12=>v=.pointer (some ⟨b,0,none⟩)|13=>v=.pointer (some ⟨b,6,none⟩)|14=>v=vi x.e|15=>v=.bool (decide (x.e=0))|16=>v=.bool (decide (x.e=0))|_=>True) (fun _ _ _ _ _ h=>h) H ?_ ?_
   ·clear H;refine av (Z0 rfl (Rm rfl)) (Z1 0 2 rfl (Rk rfl)) (Z1 1 3 rfl (Rf l9 rfl)) (Z1 2 4 rfl (Ro ak 0 rfl rfl)) (av (Z0 rfl (Rm rfl)) (Z1 4 6 rfl (Rk rfl)) (Z1 5 7 rfl (Rf q9 rfl)) (Z1 6 8 rfl (Ro gB 0 rfl rfl)) (av (Z1 7 9 rfl (Rv fB rfl)) (Z2 3 5 8 10 rfl (Rc rfl)) (Z1 9 11 rfl (Rm rfl)) (Z1 10 12 rfl (YM (ay c0) rfl)) (av ?_ (Z2 12 14 10 12 rfl (YF vH (ay c0) rfl)) (Z2 13 15 10 12 rfl (YO dQ 0 (ay c0) rfl rfl)) (Z2 14 16 10 12 rfl (YC (ay c0) rfl)) (bq (Z2 10 12 15 17 rfl (Pt (ay c0) rfl)) dh))))
    refine dK 11 13 10 12 rfl rfl fun _ a w G1 hG HT H fin=>?_;refine o8 H (wg H rfl rfl (ay c0)) rfl rfl ?_;clear H;intro a H;exact fin H iJ rfl
   clear H;intro a w G QL H hv;have H:=H.aM (hv 16 18 rfl rfl) rfl;clear hv;refine au ⟨rfl,?_⟩;refine K3 _ _ ?_;clear K3;refine vG H rfl (ay c1) ?_;refine kP H (Kc K2 (SB (SQ fun _ K4=>SQ fun _ K5=>?_)));clear H K2;intro a H;refine dz (hmx) [[],[0],[0,1],[0,1,2],[],[4],[4,5],[4,5,6],(List.range 8),(List.range 9)] [] (by kernel_rfl) (by kernel_rfl) (fun (aC:Nat) (v:Value) (G:GH)=>match aC with|0=>v=.pointer (some ⟨b,0,none⟩)|1=>v=.pointer (some ⟨b,0,none⟩)|2=>v=.pointer (some ⟨b,0,none⟩)|3=>v=.string s|4=>v=.pointer (some ⟨b,0,none⟩)|5=>v=.pointer (some ⟨b,0,none⟩)|6=>v=.pointer (some ⟨b,1,none⟩)|7=>v=vi x.i|8=>v=.int .u8 (fC s x.i)|9=>v=.bool (decide (fC s x.i=37))|_=>True) (fun _ _ _ _ _ h=>h) H ?_ ?_
   ·clear H;refine av (Z0 rfl (Rm rfl)) (Z1 0 19 rfl (Rk rfl)) (Z1 1 20 rfl (Rf q9 rfl)) (Z1 2 21 rfl (Ro gB 0 rfl rfl)) (av (Z0 rfl (Rm rfl)) (Z1 4 23 rfl (Rk rfl)) (Z1 5 24 rfl (Rf l9 rfl)) (Z1 6 25 rfl (Ro ak 0 rfl rfl)) (bq ?_ (bq (Z1 8 27 rfl (Rc rfl)) dh)))
    refine dK 3 22 7 26 rfl rfl fun _ a w G1 hG HT H fin=>?_;refine lC x.i fB H wn rfl rfl rfl (by omega) rfl ?_;clear H;intro a H;rw [← jQ] at H;exact fin H iJ rfl
   clear H;intro a w G kZ H hv;have H:=H.aM (hv 9 28 rfl rfl) rfl;clear hv;refine au ⟨rfl,?_⟩;refine K5 _ _ ?_;clear K5;refine l6 H rfl ?_ ?_
   ·intro bW
    try have p28:=dT bW
    refine kP H (SR fun _ K6=>Rm rfl ?_);clear H;intro a H;refine gy YE (Li:=[]) (L:=qN b s x p (.slice vA x.lit.length vc) (.slice qA x.parts.length qc) :: (Lp++Lo)) H wn rfl (ade _ Lp Lo _ b s x p _ _ hR (Hp.owns (Li:=[]) H.hp) (by omega) (by omega) (by omega) (by omega) (by omega)) rfl ?_;clear H;rintro v30 wF L30 a w ⟨p',v',q',mI,iB,rfl,GK⟩ uy H;dsimp only [List.nil_append] at H;have hst:kS s x=lg s x:=if_pos p28;have hok:=Um s x ⟨by omega,c1⟩ hx1 hx2 hx3
    have hkk:k=(k - 1)+1:=by omega
    have Mv:xS s (k - 1) (kS s x)=iQ s:=by rw [hkk,xS,if_pos ⟨by omega,c1⟩] at hsc;exact hsc
    rw [← hst] at H GK;obtain ⟨Vf,Wn,rfl,-,-⟩:=GK.buf.shape;obtain ⟨Vl,XG,rfl,-,-⟩:=GK.prt.shape;refine K6 _ _ ?_;clear K6;refine dL ?_;refine dD ((k - 1,kS s x,p',Vf,Wn,Vl,XG,mI,iB,wF)) (by exact (H).sub ⟨rfl,trivial⟩) ?_ ?_
    ·(try dsimp only);exact ⟨GK,Mv,by omega,by omega,by omega,by omega,by omega,by omega⟩
    first|omega|(dsimp only;omega)
   intro bW
   try have p28:=dF bW
   refine eX ?_;refine K4 _ _ ?_;clear K4;refine aQ (fun _ K7=>?_);refine dz (hmx) [[],[0],[0,1],[],[3],[3,4],[3,4,5],[],[7],[7,8],[7,8,9],[3,4,5,6,7,8,9,10],(List.range 12)] [12] (by kernel_rfl) (by kernel_rfl) (fun (aC:Nat) (v:Value) (G:GH)=>match aC with|0=>v=.pointer (some ⟨b,0,none⟩)|1=>v=.pointer (some ⟨b,0,none⟩)|2=>v=.pointer (some ⟨b,2,none⟩)|3=>v=.pointer (some ⟨b,0,none⟩)|4=>v=.pointer (some ⟨b,0,none⟩)|5=>v=.pointer (some ⟨b,0,none⟩)|6=>v=.string s|7=>v=.pointer (some ⟨b,0,none⟩)|8=>v=.pointer (some ⟨b,0,none⟩)|9=>v=.pointer (some ⟨b,1,none⟩)|10=>v=vi x.i|11=>v=.int .u8 (fC s x.i)|_=>True) (fun _ _ _ _ _ h=>h) H ?_ ?_
   ·clear H;refine av (Z0 rfl (Rm rfl)) (Z1 0 31 rfl (Rk rfl)) (Z1 1 32 rfl (Rf DZ rfl)) (Z0 rfl (Rm rfl)) (av (Z1 3 34 rfl (Rk rfl)) (Z1 4 35 rfl (Rf q9 rfl)) (Z1 5 36 rfl (Ro gB 0 rfl rfl)) (Z0 rfl (Rm rfl)) (av (Z1 7 38 rfl (Rk rfl)) (Z1 8 39 rfl (Rf l9 rfl)) (Z1 9 40 rfl (Ro ak 0 rfl rfl)) ?_ (bq (aT rfl) dh)))
    refine dK 6 37 10 41 rfl rfl fun _ a w G1 hG HT H fin=>?_;refine lC x.i fB H wn rfl rfl rfl (by omega) rfl ?_;clear H;intro a H;rw [← jQ] at H;exact fin H iJ rfl
   clear H;intro a w G KS H hv;have H:=H.aM (hv 2 33 rfl rfl) rfl;have H:=H.aM (hv 11 42 rfl rfl) rfl;clear hv;refine gy PU (Li:=[]) (L:=qN b s x p (.slice vA x.lit.length vc) (.slice qA x.parts.length qc) :: (Lp++Lo)) H wn rfl (UY _ Lp Lo _ b s x.i p _ qA x.parts.length qc x.pl x.e x.lit.length _ (fC s x.i) hR.ptr (Hp.owns (Li:=[]) H.hp) hR.buf (by omega)) rfl ?_;clear H;rintro v43 _ L43 a w ⟨agG,Jl,rfl,RL,rfl⟩ kC H;dsimp only [List.nil_append] at H;obtain ⟨Jb,JB,rfl,-,-⟩:=RL.shape;have hst:kS s x=⟨x.i+1,x.lit++[FH s x.i],x.parts,x.pl,x.e⟩:=if_neg p28;have hok:=Um s x ⟨by omega,c1⟩ hx1 hx2 hx3
   have hkk:k=(k - 1)+1:=by omega
   have Mv:xS s (k - 1) (kS s x)=iQ s:=by rw [hkk,xS,if_pos ⟨by omega,c1⟩] at hsc;exact hsc
   have aaK:vC b (kS s x).lit (kS s x).parts (.pointer (some ⟨b,2,none⟩)) (.slice Jb (kS s x).lit.length JB) (.slice qA (kS s x).parts.length qc) Lp Jl:=by
    rw [hst];exact ⟨.inr rfl,by simpa [Lib.byteCells,V9] using RL,hR.prt⟩
   refine au ⟨rfl,?_⟩;refine K7 _ _ ?_;clear K7;refine kP H (SC (Rm rfl (Rk rfl (Rf l9 rfl (Ro ak 0 rfl rfl (Rd rfl (Rk rfl (Rf l9 rfl ?_))))))));clear H;intro a H;refine aP ak 0 (vs:=[_]) _ H wn rfl rfl rfl rfl rfl rfl rfl rfl ?_;clear H;intro w H;dsimp only [List.set,setRow] at H;replace H:St _ _ _ _ _ _ (qN b s (kS s x) (.pointer (some ⟨b,2,none⟩)) (.slice Jb (kS s x).lit.length JB) (.slice qA (kS s x).parts.length qc) :: (Lp++Jl)) _ _ _:=H.cast (by rw [hst];simp [qN,eZ]);refine au ?_;refine dD ((k - 1,kS s x,.pointer (some ⟨b,2,none⟩),Jb,JB,qA,qc,Lp,Jl,_)) (by exact (H).sub ⟨rfl,trivial⟩) ?_ ?_
   ·(try dsimp only);exact ⟨aaK,Mv,by omega,by omega,by omega,by omega,by omega,by omega⟩
   first|omega|(dsimp only;omega)
  skip;refine dz (hmx) [[],[0],[0,1],[0,1,2],[],[4],[4,5],[4,5,6],[4,5,6,7],(List.range 9),(List.range 10),(List.range 11),(List.range 12),(List.range 13),(List.range 14),(List.range 15),(List.range 16)] [] (by kernel_rfl) (by kernel_rfl) (fun (aC:Nat) (v:Value) (G:GH)=>match aC with|0=>v=.pointer (some ⟨b,0,none⟩)|1=>v=.pointer (some ⟨b,0,none⟩)|2=>v=.pointer (some ⟨b,1,none⟩)|3=>v=vi x.i|4=>v=.pointer (some ⟨b,0,none⟩)|5=>v=.pointer (some ⟨b,0,none⟩)|6=>v=.pointer (some ⟨b,0,none⟩)|7=>v=.string s|8=>v=vi s.size|9=>v=.bool (decide ((x.i:Int) < (s.size:Int)))|10=>v=.bool (decide ((x.i:Int) < (s.size:Int)))|11=>v=.pointer (some ⟨b,0,none⟩)|12=>v=.pointer (some ⟨b,0,none⟩)|13=>v=.pointer (some ⟨b,6,none⟩)|14=>v=vi x.e|15=>v=.bool (decide (x.e=0))|16=>v=.bool (decide (x.e=0))|_=>True) (fun _ _ _ _ _ h=>h) H ?_ ?_
  ·clear H;refine av (Z0 rfl (Rm rfl)) (Z1 0 2 rfl (Rk rfl)) (Z1 1 3 rfl (Rf l9 rfl)) (Z1 2 4 rfl (Ro ak 0 rfl rfl)) (av (Z0 rfl (Rm rfl)) (Z1 4 6 rfl (Rk rfl)) (Z1 5 7 rfl (Rf q9 rfl)) (Z1 6 8 rfl (Ro gB 0 rfl rfl)) (av (Z1 7 9 rfl (Rv fB rfl)) (Z2 3 5 8 10 rfl (Rc rfl)) (Z1 9 11 rfl (Rm rfl)) (Z1 10 12 rfl (YM (ay c0) rfl)) (av ?_ (Z2 12 14 10 12 rfl (YF vH (ay c0) rfl)) (Z2 13 15 10 12 rfl (YO dQ 0 (ay c0) rfl rfl)) (Z2 14 16 10 12 rfl (YC (ay c0) rfl)) (bq (Z2 10 12 15 17 rfl (Pt (ay c0) rfl)) dh))))
   refine dK 11 13 10 12 rfl rfl fun _ a w G1 hG HT H fin=>?_;refine o8 H (wg H rfl rfl (ay c0)) rfl rfl ?_;clear H;intro a H;exact fin H iJ rfl
  clear H;intro a w G QL H hv;have H:=H.aM (hv 16 18 rfl rfl) rfl;clear hv;refine au ⟨rfl,?_⟩;refine K3 _ _ ?_;clear K3;refine mO H rfl (aL c1) ?_;refine dL ?_;refine K1 _ _ ?_;clear K1;refine aQ (fun _ K8=>?_)
  have MJ:x=iQ s:=by
   rw [Uc (by first|exact fun h=>c0 (by omega)|exact fun h=>c1 h.2)] at hsc;exact hsc
  subst MJ;refine kP H (SC (Rm rfl ?_));clear H;intro a H;refine gy JZ (Li:=[]) (L:=qN b s (iQ s) p (.slice vA (iQ s).lit.length vc) (.slice qA (iQ s).parts.length qc) :: (Lp++Lo)) H wn rfl (KD _ Lp Lo _ b s (iQ s).i p _ _ (iQ s).pl (iQ s).e (iQ s).lit (iQ s).parts hR (Hp.owns (Li:=[]) H.hp) (by omega) (by omega)) rfl ?_;clear H;rintro v52 Jg VL a w ⟨p52,afh,q52,VT,VQ,rfl,nV⟩ Mc H;dsimp only [List.nil_append] at H;obtain ⟨Vh,Wo,rfl,-,-⟩:=nV.buf.shape;obtain ⟨Vn,XI,rfl,-,-⟩:=nV.prt.shape;refine kH H (Kn K8 (SR fun _ K9=>Rm rfl (Rk rfl (Rf vH rfl (Ro dQ 0 rfl rfl (Rc rfl (Rm rfl (Sp 58 rfl ?_ ?_)))))))) <;> clear H K8
  ·intro gU a H
   try have p58:=dT gU
   refine kH H (YM gU rfl ?_);clear H;intro a H;refine o8 H (wg H rfl rfl gU) rfl rfl ?_;clear H;intro a H;refine kH H (YF Gn gU rfl (YO ak 0 gU rfl rfl (YC gU rfl (Pt gU rfl (Kz K9 (Cd rfl ?_ ?_)))))) <;> clear H K9
   ·intro h64 a H
    try have p64:=dT h64
    refine kP H (SC (Rm rfl (Rk rfl (Rf vH rfl ?_))));clear H;intro a H;refine aP dQ 0 (vs:=[_]) _ H wn rfl rfl rfl rfl rfl rfl rfl rfl ?_;clear H;intro w H;dsimp only [List.set,setRow] at H;refine au ?_;refine (leave0 H Tryz.results137 ?_).2
    first
     | exact H.hp.eG ⟨_,_,_,_,_,by rw [oF,if_pos ⟨by assumption,by assumption⟩],nV⟩
     | exact H.hp.eG ⟨_,_,_,_,_,by rw [oF,if_neg (by first|exact fun h=>p58 h.1|exact fun h=>p64 h.2)],nV⟩
   intro h64 a H
   try have p64:=dF h64
   refine eX ?_;refine (leave0 H Tryz.results137 ?_).2
   first
    | exact H.hp.eG ⟨_,_,_,_,_,by rw [oF,if_pos ⟨by assumption,by assumption⟩],nV⟩
    | exact H.hp.eG ⟨_,_,_,_,_,by rw [oF,if_neg (by first|exact fun h=>p58 h.1|exact fun h=>p64 h.2)],nV⟩
  intro gU a H
  try have p58:=dF gU
  refine kH H (Ks gU rfl (Ks gU rfl (Ks gU rfl (Ks gU rfl (Ks gU rfl (Pf gU rfl (Kz K9 (Cf rfl rfl ?_))))))));clear H K9;intro a H;refine eX ?_;refine (leave0 H Tryz.results137 ?_).2
  first
   | exact H.hp.eG ⟨_,_,_,_,_,by rw [oF,if_pos ⟨by assumption,by assumption⟩],nV⟩
   | exact H.hp.eG ⟨_,_,_,_,_,by rw [oF,if_neg (by first|exact fun h=>p58 h.1|exact fun h=>p64 h.2)],nV⟩
 skip;refine dz (hmx) [[],[0],[0,1],[0,1,2],[],[4],[4,5],[4,5,6],[4,5,6,7],(List.range 9),(List.range 10),(List.range 11),(List.range 12),(List.range 13),(List.range 14),(List.range 15),(List.range 16)] [] (by kernel_rfl) (by kernel_rfl) (fun (aC:Nat) (v:Value) (G:GH)=>match aC with|0=>v=.pointer (some ⟨b,0,none⟩)|1=>v=.pointer (some ⟨b,0,none⟩)|2=>v=.pointer (some ⟨b,1,none⟩)|3=>v=vi x.i|4=>v=.pointer (some ⟨b,0,none⟩)|5=>v=.pointer (some ⟨b,0,none⟩)|6=>v=.pointer (some ⟨b,0,none⟩)|7=>v=.string s|8=>v=vi s.size|9=>v=.bool (decide ((x.i:Int) < (s.size:Int)))|10=>v=.bool (decide ((x.i:Int) < (s.size:Int)))|11=>v=undef|12=>v=undef|13=>v=undef|14=>v=undef|15=>v=undef|16=>v=.bool false|_=>True) (fun _ _ _ _ _ h=>h) H ?_ ?_
 ·exact av (Z0 rfl (Rm rfl)) (Z1 0 2 rfl (Rk rfl)) (Z1 1 3 rfl (Rf l9 rfl)) (Z1 2 4 rfl (Ro ak 0 rfl rfl)) (av (Z0 rfl (Rm rfl)) (Z1 4 6 rfl (Rk rfl)) (Z1 5 7 rfl (Rf q9 rfl)) (Z1 6 8 rfl (Ro gB 0 rfl rfl)) (av (Z1 7 9 rfl (Rv fB rfl)) (Z2 3 5 8 10 rfl (Rc rfl)) (Z1 9 11 rfl (Rm rfl)) (aV (j:=10) (by kernel_rfl) (fun _ _ _ _ _ h=>h) rfl rfl rfl rfl rfl (fun _ _ h=>Eq.trans h (congrArg Value.bool (aL c0))) rfl (fun _=>rfl)) (av (aV (j:=10) (by kernel_rfl) (fun _ _ _ _ _ h=>h) rfl rfl rfl rfl rfl (fun _ _ h=>Eq.trans h (congrArg Value.bool (aL c0))) rfl (fun _=>rfl)) (aV (j:=10) (by kernel_rfl) (fun _ _ _ _ _ h=>h) rfl rfl rfl rfl rfl (fun _ _ h=>Eq.trans h (congrArg Value.bool (aL c0))) rfl (fun _=>rfl)) (aV (j:=10) (by kernel_rfl) (fun _ _ _ _ _ h=>h) rfl rfl rfl rfl rfl (fun _ _ h=>Eq.trans h (congrArg Value.bool (aL c0))) rfl (fun _=>rfl)) (aV (j:=10) (by kernel_rfl) (fun _ _ _ _ _ h=>h) rfl rfl rfl rfl rfl (fun _ _ h=>Eq.trans h (congrArg Value.bool (aL c0))) rfl (fun _=>rfl)) (bq (Z2 10 12 15 17 rfl (Pf (aL c0) rfl)) dh))))
 clear H;intro a w G QL H hv;have H:=H.aM (hv 16 18 rfl rfl) rfl;clear hv;refine au ⟨rfl,?_⟩;refine K3 _ _ ?_;clear K3;refine mO H rfl rfl ?_;refine dL ?_;refine K1 _ _ ?_;clear K1;refine aQ (fun _ aH=>?_)
 have MJ:x=iQ s:=by
  rw [Uc (by first|exact fun h=>c0 (by omega)|exact fun h=>c1 h.2)] at hsc;exact hsc
 subst MJ;refine kP H (SC (Rm rfl ?_));clear H;intro a H;refine gy JZ (Li:=[]) (L:=qN b s (iQ s) p (.slice vA (iQ s).lit.length vc) (.slice qA (iQ s).parts.length qc) :: (Lp++Lo)) H wn rfl (KD _ Lp Lo _ b s (iQ s).i p _ _ (iQ s).pl (iQ s).e (iQ s).lit (iQ s).parts hR (Hp.owns (Li:=[]) H.hp) (by omega) (by omega)) rfl ?_;clear H;rintro v52 Jg VL a w ⟨p52,afh,q52,VT,VQ,rfl,nV⟩ Mc H;dsimp only [List.nil_append] at H;obtain ⟨Vh,Wo,rfl,-,-⟩:=nV.buf.shape;obtain ⟨Vn,XI,rfl,-,-⟩:=nV.prt.shape;refine kH H (Kn aH (SR fun _ aX=>Rm rfl (Rk rfl (Rf vH rfl (Ro dQ 0 rfl rfl (Rc rfl (Rm rfl (Sp 58 rfl ?_ ?_)))))))) <;> clear H aH
 ·intro gU a H
  try have p58:=dT gU
  refine kH H (YM gU rfl ?_);clear H;intro a H;refine o8 H (wg H rfl rfl gU) rfl rfl ?_;clear H;intro a H;refine kH H (YF Gn gU rfl (YO ak 0 gU rfl rfl (YC gU rfl (Pt gU rfl (Kz aX (Cd rfl ?_ ?_)))))) <;> clear H aX
  ·intro h64 a H
   try have p64:=dT h64
   refine kP H (SC (Rm rfl (Rk rfl (Rf vH rfl ?_))));clear H;intro a H;refine aP dQ 0 (vs:=[_]) _ H wn rfl rfl rfl rfl rfl rfl rfl rfl ?_;clear H;intro w H;dsimp only [List.set,setRow] at H;refine au ?_;refine (leave0 H Tryz.results137 ?_).2
   first
    | exact H.hp.eG ⟨_,_,_,_,_,by rw [oF,if_pos ⟨by assumption,by assumption⟩],nV⟩
    | exact H.hp.eG ⟨_,_,_,_,_,by rw [oF,if_neg (by first|exact fun h=>p58 h.1|exact fun h=>p64 h.2)],nV⟩
  intro h64 a H
  try have p64:=dF h64
  refine eX ?_;refine (leave0 H Tryz.results137 ?_).2
  first
   | exact H.hp.eG ⟨_,_,_,_,_,by rw [oF,if_pos ⟨by assumption,by assumption⟩],nV⟩
   | exact H.hp.eG ⟨_,_,_,_,_,by rw [oF,if_neg (by first|exact fun h=>p58 h.1|exact fun h=>p64 h.2)],nV⟩
 intro gU a H
 try have p58:=dF gU
 refine kH H (Ks gU rfl (Ks gU rfl (Ks gU rfl (Ks gU rfl (Ks gU rfl (Pf gU rfl (Kz aX (Cf rfl rfl ?_))))))));clear H aX;intro a H;refine eX ?_;refine (leave0 H Tryz.results137 ?_).2
 first
  | exact H.hp.eG ⟨_,_,_,_,_,by rw [oF,if_pos ⟨by assumption,by assumption⟩],nV⟩
  | exact H.hp.eG ⟨_,_,_,_,_,by rw [oF,if_neg (by first|exact fun h=>p58 h.1|exact fun h=>p64 h.2)],nV⟩
end
section
open Go.RowKit
def uV (c:Int):List Dat:=[.lf (.int .u8 c)]
theorem Ut {G:GH} {c:Int} {cs:List Value} (h:aO G (uV c) cs):cs=[.int .u8 c]:=by
 simp only [uV,aO,ah] at h
 obtain ⟨_,_,rfl,⟨rfl,_⟩,rfl⟩:=h
 rfl
/-- The bytes of a string. -/
def Bf (s:ByteArray):List Int:=s.data.toList.map fun b=>(b.toNat:Int)
theorem Wm (G:GH) (l:List Int):eU G 1 (l.map uV) (l.map fun c=>Value.int .u8 c):=by
 refine ⟨l.map fun c=>[.int .u8 c],by induction l with|nil=>rfl|cons x r ih=>simp [ih],by simp,fun j r cs hr hc=>?_⟩
 rw [List.getElem?_map] at hr hc
 obtain ⟨x,hx,rfl⟩:=Option.map_eq_some_iff.1 hr
 rw [hx] at hc
 cases hc
 exact ⟨by simp only [uV,aO];exact ⟨_,_,rfl,by simp [ah,Value.oneCell'],rfl⟩,rfl⟩
theorem adL {G:GH} {sz b o n cap:Nat} {cur:Array Value} {e:TypeId} {fz:Nat × Nat} {rows:List (List Dat)} (hb:G b=some (.cells cur e fz)) (h:ah (fun k=>if k=b then some (.cells cur e (0,0)) else G k) (.sl sz rows) (.slice (some ⟨b,o,none⟩) n cap)) (hr:∀ r∈rows,∃ c,r=uV c):ah G (.sl sz rows) (.slice (some ⟨b,o,none⟩) n cap):=by
 simp only [ah] at h ⊢
 obtain ⟨A,c,h1,h2,h3,h4⟩:=h
 refine ⟨A,c,h1,h2,h3,fun hn=>?_⟩
 obtain ⟨b',o',e',hrr⟩:=h4 hn
 injection h1 with e1
 subst e1
 injection e' with e2
 injection e2 with e3 e4
 subst e3;subst e4
 refine ⟨_,_,rfl,jH.mk fun k r hk=>?_⟩
 obtain ⟨cs,g1,g2,g3⟩:=hrr.get hk
 refine ⟨cs,g1,fun j u hj=>?_,?_⟩
 ·have:=g2 j u hj
  unfold aB at this ⊢
  simp only [if_true] at this
  rw [hb];exact this
 ·obtain ⟨c,rfl⟩:=hr r (List.mem_of_getElem? hk)
  have:=Ut g3
  subst this
  simp only [uV,aO];exact ⟨_,_,rfl,by simp [ah,Value.oneCell'],rfl⟩
section
variable {N:Nat} {D:List Deferred} {w0:World} {F:Nat→Prop} {G0 G:GH} {L:OL} {T:List (Nat × Value)}
variable {r:Option Nat} {P:Program} {ops:Array Oper} {Q:Exit→Act→World→Prop} {rest:List Oper} {a:Act} {w:World}
variable {d:Nat} {ty:TypeId} {pos:String} {aG:Array Edge} {g:Option (Nat × Bool)}
theorem ae8 {w:World} {b o n:Nat} {c:Array Value} {e:TypeId} {fz:Nat × Nat} (h:w.heap[b]?=some (.cells c e fz)) (hn:n≠0):∃ zR,qo b (.cells c e zR) w (w.freeze ⟨b,o,none⟩ n):=by
 unfold World.freeze
 rw [if_neg hn]
 refine ⟨if fz.1 == fz.2 then (o,o+n) else (min fz.1 o,max fz.2 (o+n)),rfl,rfl,rfl,by simp,?_,fun k hk=>?_⟩
 ·simp [Array.getElem?_modify,h]
 ·simp [Array.getElem?_modify,Ne.symm hk]
theorem ad4 {t u e:TypeId} {x:Operand} {s:ByteArray} (ht:P.underlying t=some .string) (hu:P.underlying u=some (.slice e)) (he:P.underlying e=some (.int .u8)) (H:St N D w0 F G0 G L T a w) (hw:Region.wanted ⟨some d,.convert t u x,ty,pos,aG,g⟩ (yielded ops a.tmps)=true) (hx:ev T x=some (.string s)) (hz:s.size≤4294967296) (hd:Nat.blt d N=true)
  (k:∀ v G' a' w',(∀ k o,G k=some o→G' k=some o)→ah G' (.sl 1 ((Bf s).map uV)) v→St N D w0 F G0 G' L ((d,v) :: T) a' w'→WL r P ops Q rest a' w'):WL r P ops Q (⟨some d,.convert t u x,ty,pos,aG,g⟩ :: rest) a w:=by
 have hc:=Lib.run_convert_string_bytes (P:=P) w t u e s ht hu he
 have hge:=grownCap_ge w s.size 0 e
 have hml:s.size≤maxLen:=by
  have:maxLen=9223372036854775807:=rfl
  omega
 have hgm:=grownCap_le_maxLen w s.size 0 e hml
 have H1:=H.hp.drew.alloc (.cells (Lib.bytesCells w e s) e)
 have hw1:(w.drew.alloc (.cells (Lib.bytesCells w e s) e)).heap[w.drew.heap.size]?=some (.cells (Lib.bytesCells w e s) e (0,0)):=H1.own _ List.mem_cons_self
 obtain ⟨fz,hu2⟩:=ae8 (o:=(Lib.bytesCells w e s).size) (n:=1) hw1 (by decide)
 have H2:=H1.upd (i:=0) rfl hu2
 have H3:St N D w0 F G0 G ((w.heap.size,.cells (Lib.bytesCells w e s) e fz) :: L) ((d,.slice (some ⟨w.heap.size,0,none⟩) s.size (grownCap w s.size 0 e)) :: T) (a.put (some d) (.slice (some ⟨w.heap.size,0,none⟩) s.size (grownCap w s.size 0 e))) (Lib.bytesWorld w e s):=H.put hd _ H2
 obtain ⟨G',hm,hb,H4⟩:=H3.dB
 have hlen:(Bf s).length=s.size:=by rw [Bf,List.length_map,Array.length_toList];rfl
 have hrep:ah G' (.sl 1 ((Bf s).map uV)) (.slice (some ⟨w.heap.size,0,none⟩) s.size (grownCap w s.size 0 e)):=by
  refine adL hb ?_ (fun r hr=>by obtain ⟨c,-,rfl⟩:=List.mem_map.1 hr;exact ⟨c,rfl⟩)
  refine ah.dG (cur:=Lib.bytesCells w e s) (e:=e) (n:=s.size) (cap:=grownCap w s.size 0 e) (by simp) (by rw [List.length_map,hlen]) hge hgm ?_ (Wm _ _)
  rw [Lib.bytesCells,Array.toList_append,Nat.mul_one,List.take_left' (by rw [Array.toList_map,List.length_map,Array.length_toList];rfl)]
  simp [Bf]
 have k2:=k _ _ _ _ hm hrep H4
 refine eT (v:=.slice (some ⟨w.heap.size,0,none⟩) s.size (grownCap w s.size 0 e)) (w':=Lib.bytesWorld w e s) hw rfl ?_ k2
 simp only [execOp,H.ev hx,Sem.run_bind,hc,Result.andThen_ok,Sem.run_pure]
theorem ad8 {t yt:TypeId} {x y:Operand} {p q:ByteArray} (H:St N D w0 F G0 G L T a w) (hw:Region.wanted ⟨some d,.binOp .lss t x y yt,ty,pos,aG,g⟩ (yielded ops a.tmps)=true) (hx:ev T x=some (.string p)) (hy:ev T y=some (.string q)) (hd:Nat.blt d N=true)
  (k:∀ a',St N D w0 F G0 G L ((d,.bool (Op.bytesLess p.toList q.toList)) :: T) a' w→WL r P ops Q rest a' w):WL r P ops Q (⟨some d,.binOp .lss t x y yt,ty,pos,aG,g⟩ :: rest) a w:=by
 refine eT (v:=.bool (Op.bytesLess p.toList q.toList)) (w':=w) hw rfl ?_ (k _ (H.put hd _ H.hp))
 simp [execOp,H.ev hx,H.ev hy,Sem.run_bind,eqGuard,binOp,Op.stringOp]
end
end
section
open Go.RowKit
theorem YB:∀ args w,(callFunc 139 args).run Tryz.prog w=.ok (.enter 139 args) w:=enters Tryz.func139 rfl (by kernel_rfl)
theorem Yz:∀ args w,(callFunc 137 args).run Tryz.prog w=.ok (.enter 137 args) w:=enters Tryz.func137 rfl (by kernel_rfl)
theorem Yx:∀ args w,(callFunc 135 args).run Tryz.prog w=.ok (.enter 135 args) w:=enters Tryz.func135 rfl (by kernel_rfl)
theorem aeI:oN Tryz.prog 228 [(0,1),(1,1),(2,2),(4,1),(5,1),(6,1)] [.string ⟨#[]⟩,.int .i64 0,.pointer none,.slice none 0 0,.slice none 0 0,.int .i64 0,.int .i64 0]:=⟨by kernel_rfl,by kernel_rfl⟩
theorem YA:∀ args w,(callFunc 138 args).run Tryz.prog w=.ok (.enter 138 args) w:=enters Tryz.func138 rfl (by kernel_rfl)
theorem aad:bO Tryz.prog 210 1 1:=⟨by kernel_rfl⟩
theorem Yn:∀ args w,(callFunc 127 args).run Tryz.prog w=.ok (.enter 127 args) w:=enters Tryz.func127 rfl (by kernel_rfl)
theorem Yo:∀ args w,(callFunc 128 args).run Tryz.prog w=.ok (.enter 128 args) w:=enters Tryz.func128 rfl (by kernel_rfl)
theorem Yy:∀ args w,(callFunc 136 args).run Tryz.prog w=.ok (.enter 136 args) w:=enters Tryz.func136 rfl (by kernel_rfl)
theorem Yp:∀ args w,(callFunc 129 args).run Tryz.prog w=.ok (.enter 129 args) w:=enters Tryz.func129 rfl (by kernel_rfl)
/-- What a test of bytes owes. -/
def Ju (fv:Value) (G:GH) (c:Int) (b:Bool):Prop:=∀ (G1:GH) (w1:World),(∀ b o,G b=some o→G1 b=some o)→Hold G1 w1→qU Tryz.prog fv [.int .u8 c] w1 (aU w1 G1 fun u G'=>u=.bool b)
theorem ab6 (G:GH) (w0:World) (hG:Hold G w0) (l:List Int) (p:Int→Bool) (v fv:Value) (hv:ah G (.sl 1 (l.map uV)) v) (hf:∀ c∈l,Ju fv G c (p c)) :
  Calls Tryz.prog 139 #[v,fv] w0 (aU w0 G fun u G'=>u=vi (kN (l.findIdx? p))):=by
 obtain ⟨A,c,rfl,hc1,hc2,hg⟩:=hv.slice;have hml:maxLen=9223372036854775807:=rfl;rw [List.length_map] at *;refine eN [(0,_),(1,_)] Tryz.func139 rfl Tryz.ntmps139 rfl rfl hG ?_;intro a H;refine kP H (SR fun _ K1=>Ra rfl (Kz K1 (SQ fun _ K2=>SR fun _ K3=>Rm rfl (Rl Az rfl (Rm rfl (Kz K3 (SB ?_)))))));clear H K1 K3;intro a H;skip;refine d9 (ι:=Nat × GH) (Tc:=[(0,_),(1,_),(7,_)]) (Lc:=[]) (fun (gh:Nat × GH)=>[(8,vi gh.1)]) (fun (gh:Nat × GH)=>[]) (fun (gh:Nat × GH)=>gh.2) (fun (gh:Nat × GH)=>gh.1≤l.length∧(l.take gh.1).findIdx? p=none∧(∀ b o,G b=some o→gh.2 b=some o)) (fun (gh:Nat × GH)=>l.length - gh.1) ((0,G)) (by exact (H).sub ⟨rfl,rfl,rfl,rfl,trivial⟩) ?_ ?_
 ·exact ⟨by omega,rfl,fun _ _ h=>h⟩
 clear H;intro gh a w hI H;obtain ⟨k,g⟩:=gh;dsimp only at hI H;obtain ⟨hk,hno,hgm⟩:=hI;dsimp only [List.cons_append,List.nil_append,List.append_nil] at H;refine kP H (SR fun _ K4=>Rc rfl (Kz K4 (SQ fun _ K5=>Cd rfl ?_ ?_))) <;> clear H K4
 ·intro h9 a H
  try have p9:=dT h9
  have hk2:k < l.length:=by omega
  obtain ⟨b,o,cs,rfl,hcl,hrow,hr⟩:=hg k (uV l[k]) (by simp [hk2]);obtain rfl:=Ut hr
  have hcell:aB G b (o+k*1)=some (.int .u8 l[k]):=by simpa using hrow 0 _ rfl
  refine kP H (Kc K5 (SQ fun _ K6=>SB (SR fun _ K7=>Rm rfl (Ra rfl (Kz K7 (SR fun _ K8=>Rm rfl (Rm rfl (Rm rfl (Ri Az IY rfl rfl (Rg IY rfl (aD hgm hcell) ?_))))))))));clear H K5 K7;intro a H;refine ng H wn rfl rfl (hf _ (List.getElem_mem hk2) _ _ hgm H.hp.ro) rfl ?_;clear H;rintro v16 ql a w rfl nL H;refine K8 _ _ ?_;clear K8;refine l6 H rfl ?_ ?_
  ·intro h16
   try have p16:=dT h16
   refine kP H (SR fun _ K9=>Rm rfl (Ra rfl (Kz K9 ?_)));clear H K9;intro a H;refine lr H Tryz.results139 rfl ?_
   first
    | exact H.hp.ret (by rw [qK hk2 hno h16];rfl)
    | exact H.hp.ret (by rw [show l.take k=l from List.take_of_length_le (by omega)] at hno;rw [hno];rfl)
  intro h16
  try have p16:=dF h16
  refine kP H (Kc K6 (SC (Rd rfl (Rm rfl ?_))));clear H K6;intro a H;refine au ?_;refine dD ((k+1,ql)) (by exact (H).sub ⟨rfl,rfl,rfl,rfl,trivial⟩) ?_ ?_
  ·(try dsimp only);exact ⟨by omega,yZ hk2 hno h16,fun b o h=>nL b o (hgm b o h)⟩
  first|omega|(dsimp only;omega)
 intro h9 a H
 try have p9:=dF h9
 refine dL ?_;refine K2 _ _ ?_;clear K2;refine kP H (SR fun _ aH=>Ra rfl (Kz aH ?_));clear H aH;intro a H;refine lr H Tryz.results139 rfl ?_
 first
  | exact H.hp.ret (by rw [qK hk2 hno h16];rfl)
  | exact H.hp.ret (by rw [show l.take k=l from List.take_of_length_le (by omega)] at hno;rw [hno];rfl)
theorem MO (o:Option Nat):decide (0≤kN o)=o.isSome:=by cases o <;> simp [kN]
theorem XC (G:GH) (w0:World) (hG:Hold G w0) (l:List Int) (p:Int→Bool) (v fv:Value) (hv:ah G (.sl 1 (l.map uV)) v) (hf:∀ c∈l,Ju fv G c (p c)) :
  Calls Tryz.prog 135 #[v,fv] w0 (aU w0 G fun u G'=>u=.bool (l.findIdx? p).isSome):=by
 obtain ⟨A,c,rfl,hc1,hc2,-⟩:=hv.slice;rw [List.length_map] at *;refine eN [(0,_),(1,_)] Tryz.func135 rfl Tryz.ntmps135 rfl rfl hG ?_;intro a H;refine kP H (SR fun _ K1=>Ra rfl (Kz K1 (SR fun _ K2=>Rm rfl (Rm rfl ?_))));clear H K1;intro a H;refine s_call YB H wn rfl (ab6 _ _ H.hp.ro l p _ _ hv hf) rfl ?_;clear H;rintro v7 G7 a w rfl xC H;exact kH H (Rc rfl (Ra rfl (Kz K2 (LR Tryz.results135 rfl fun H=>H.hp.ret (congrArg Value.bool (MO _))))))
def DI (c:Int):Bool:=decide (c < 32) || decide (c=127)
theorem XF (G:GH) (c:Int):Ju (.func (.func 136) #[] #[]) G c (DI c):=by
 intro G1 w0 hm hG;refine jI (caps:=[]) Yy ?_;refine eN [(0,_)] Tryz.func136 rfl Tryz.ntmps136 rfl rfl hG ?_;intro a H;refine kP H (SR fun _ K1=>Ra rfl (Kz K1 (SR fun _ K2=>Rm rfl (Rc rfl (Rm rfl (Sp 5 rfl ?_ ?_)))))) <;> clear H K1
 ·intro h5 a H
  try have p5:=dT h5
  exact kH H (Ks h5 rfl (Ks h5 rfl (Pt h5 rfl (Ra rfl (Kz K2 (LR Tryz.results136 rfl fun H=>H.hp.ret (congrArg Value.bool (by unfold DI;first|(simp_all;done)|(simp_all;omega)))))))))
 intro h5 a H
 try have p5:=dF h5
 exact kH H (YM h5 rfl (YC h5 rfl (Pf h5 rfl (Ra rfl (Kz K2 (LR Tryz.results136 rfl fun H=>H.hp.ret (congrArg Value.bool (by unfold DI;first|(simp_all;done)|(simp_all;omega)))))))))
/-- What Parse gives: the parts, and the error. -/
def sw (t:ByteArray):Int:=if 64 < t.size then 10 else if oK t=false then 12 else if ((Bf t).findIdx? DI).isSome=true then 5 else oF (iQ t)
def tq (t:ByteArray):List gM:=if sw t=0 then pK (iQ t).lit (iQ t).parts else []
theorem acA (G:GH) (l:List gM):eU G 3 (l.map gM.dat) (y7 l):=by
 refine ⟨l.map gM.cells,rfl,by simp,fun j r cs hr hc=>?_⟩;rw [List.getElem?_map] at hr hc;obtain ⟨x,hx,rfl⟩:=Option.map_eq_some_iff.1 hr;rw [hx] at hc
 cases hc
 exact ⟨Sv G x,rfl⟩
theorem ac6 (G:GH) (w0:World) (hG:Hold G w0) (t:ByteArray) (ht:t.size < 4611686018427387904) :
  Calls Tryz.prog 127 #[.string t] w0 (aU w0 G fun u G'=>∃ x,u=.tuple #[x,vi (sw t)]∧ah G' (.sl 3 ((tq t).map gM.dat)) x):=by
 refine eN [(0,_)] Tryz.func127 rfl Tryz.ntmps127 rfl rfl hG ?_;intro a H;refine kP H (SR fun _ K1=>Ra rfl (Ra rfl (Kz K1 (SQ fun _ K2=>SB (SR fun _ K3=>Rm rfl (Rv fB rfl (Rc rfl (Ra rfl (Kz K3 (Cd rfl ?_ ?_)))))))))) <;> clear H K1 K3
 ·intro h5 a H
  try have p5:=dT h5
  refine aQ (fun _ K4=>?_)
  have he:sw t=10:=by rw [sw,if_pos (by omega)]
  refine kP H (SC (Ra rfl (Ra rfl (Kn K4 ?_))));clear H K4;intro a H;refine aR ?_;refine (bU H Tryz.results127 (.cons (aF H rfl) (.cons (aF H rfl) .nil)) ?_).1
  first
   | exact H.hp.ret ⟨_,by rw [he0],by rw [tq,if_pos he0];exact hrep⟩
   | exact H.hp.ret ⟨_,by rw [he],by rw [tq,if_neg (by rw [he];first|decide|assumption)];exact ah.gq rfl (by decide)⟩
 intro h5 a H
 try have p5:=dF h5
 refine kP H (SR fun _ K5=>Rm rfl ?_);clear H;intro a H;refine s_call DN H wn rfl (E9 _ _ H.hp.ro t ht) rfl ?_;clear H;rintro v11 _ a w ⟨rfl,rfl⟩ - H;refine kH H (Rn rfl (Ra rfl (Kz K5 (Cd rfl ?_ ?_)))) <;> clear H K5
 ·intro h9 a H
  try have p9:=dT h9
  refine aQ (fun _ K6=>?_)
  have he:sw t=12:=by rw [sw,if_neg (by omega),if_pos (by simpa using h9)]
  refine kP H (SC (Ra rfl (Ra rfl (Kn K6 ?_))));clear H K6;intro a H;refine aR ?_;refine (bU H Tryz.results127 (.cons (aF H rfl) (.cons (aF H rfl) .nil)) ?_).1
  first
   | exact H.hp.ret ⟨_,by rw [he0],by rw [tq,if_pos he0];exact hrep⟩
   | exact H.hp.ret ⟨_,by rw [he],by rw [tq,if_neg (by rw [he];first|decide|assumption)];exact ah.gq rfl (by decide)⟩
 intro h9 a H
 try have p9:=dF h9
 refine kP H (SR fun _ K7=>Rm rfl ?_);clear H;intro a H;refine ad4 fB Az EX H wn rfl (by omega) rfl ?_;clear H;intro v15 zy a w rO RP H;obtain ⟨Vb,c15,rfl,-,-,-⟩:=RP.slice;refine s_call Yx H wn rfl (XC _ _ H.hp.ro _ DI _ _ RP (fun c _=>XF _ c)) rfl ?_;clear H;rintro v16 ql a w rfl nL H;refine kH H (Ra rfl (Kz K7 (Cd rfl ?_ ?_))) <;> clear H K7
 ·intro eO a H
  try have nM:=dT eO
  refine aQ (fun _ K8=>?_)
  have he:sw t=5:=by rw [sw,if_neg (by omega),if_neg (by simpa using h9),if_pos eO]
  refine kP H (SC (Ra rfl (Ra rfl (Kn K8 ?_))));clear H K8;intro a H;refine aR ?_;refine (bU H Tryz.results127 (.cons (aF H rfl) (.cons (aF H rfl) .nil)) ?_).1
  first
   | exact H.hp.ret ⟨_,by rw [he0],by rw [tq,if_pos he0];exact hrep⟩
   | exact H.hp.ret ⟨_,by rw [he],by rw [tq,if_neg (by rw [he];first|decide|assumption)];exact ah.gq rfl (by decide)⟩
 intro eO a H
 try have nM:=dF eO
 refine kP H (Kc K2 (SR fun _ K9=>Rm rfl ?_));clear H K2;intro a H;refine iP aeI [_,_,_,_,_,_,_] H wn rfl rfl rfl rfl ?_;clear H;intro a H;refine bY (cs:=[_,_,_,_,_,_,_]) H wn rfl rfl rfl ?_;clear H;intro b19 a w af2 H;refine kH H (Ra rfl (Kz K9 (SQ fun _ aH=>SR fun _ aX=>Rm rfl ?_)));clear H K9;intro a H;refine gy Yz (Li:=[]) (L:=[qN b19 t wh (.pointer none) (.slice none 0 0) (.slice none 0 0)]) H wn rfl (aej _ [] [] _ b19 t _ _ _ ⟨.inl rfl,eB.nil,eB.nil⟩ (Hp.owns (Li:=[]) H.hp) (by omega)) rfl ?_;clear H;rintro v21 N8 L21 a w ⟨p',v',q',mI,iB,rfl,Lj⟩ xw H;dsimp only [List.nil_append] at H;obtain ⟨A21,c21,rfl,-,-⟩:=Lj.buf.shape;obtain ⟨Vk,d21,rfl,-,-⟩:=Lj.prt.shape;refine aX _ _ ?_;clear aX;refine aQ (fun _ bD=>?_)
 have he:sw t=oF (iQ t):=by rw [sw,if_neg (by omega),if_neg (by simpa using h9),if_neg (by simp [eO])]
 refine kP H (SC (Rm rfl (Rk rfl (Rf vH rfl (Ro dQ 0 rfl rfl (Rc rfl (Kn bD (Cd rfl ?_ ?_)))))))) <;> clear H bD
 ·intro iE a H
  try have p26:=dT iE
  refine aQ (fun _ bH=>?_);have H:=H.sub (T':=[(4,_)]) ⟨rfl,trivial⟩;refine dz (hmx) [[],[0],[0,1],[0,1,2],[],[0,1,2,3,4]] [] (by kernel_rfl) (by kernel_rfl) (fun (aC:Nat) (v:Value) (G:GH)=>match aC with|0=>v=.pointer (some ⟨b19,0,none⟩)|1=>v=.pointer (some ⟨b19,0,none⟩)|2=>v=.pointer (some ⟨b19,6,none⟩)|3=>v=vi (oF (iQ t))|4=>v=.slice none 0 0|5=>v=vi (oF (iQ t))|_=>True) (fun _ _ _ _ _ h=>h) H ?_ ?_
  ·exact av (Z0 rfl (Rm rfl)) (Z1 0 27 rfl (Rk rfl)) (Z1 1 28 rfl (Rf vH rfl)) (Z1 2 29 rfl (Ro dQ 0 rfl rfl)) (bq (Z0 rfl (Ra rfl)) (bq (Z1 3 30 rfl (Ra rfl)) dh))
  clear H;intro a w G pQ H hv;have H:=H.aM (hv 4 2 rfl rfl) rfl;have H:=H.aM (hv 5 3 rfl rfl) rfl;clear hv;refine au ⟨rfl,?_⟩;refine bH _ _ ?_;clear bH;refine aR ?_;refine (bU H Tryz.results127 (.cons (aF H rfl) (.cons (aF H rfl) .nil)) ?_).1
  first
   | exact H.hp.ret ⟨_,by rw [he0],by rw [tq,if_pos he0];exact hrep⟩
   | exact H.hp.ret ⟨_,by rw [he],by rw [tq,if_neg (by rw [he];first|decide|assumption)];exact ah.gq rfl (by decide)⟩
 intro iE a H
 try have p26:=dF iE
 refine eX ?_;refine aH _ _ ?_;clear aH;refine aQ (fun _ bG=>?_)
 have he0:sw t=0:=by rw [he];omega
 have H:=(St.cast H (show _=[_]++(mI++iB) from rfl)).perm (List.Perm.append_left _ List.perm_append_comm);have H:=St.un H;obtain ⟨Gr,hmr,hrep,H⟩:=St.rz (Li:=[_]++iB) (Lo:=mI) H Lj.prt (rows:=(pK (iQ t).lit (iQ t).parts).map gM.dat) (by simp) (acA _ _);dsimp only [List.cons_append,List.nil_append] at H;refine kP H (SC (Rm rfl (Rk rfl (Rf D5 rfl (Ro ER 0 rfl rfl (Ra rfl (Ra rfl (Kn bG ?_))))))));clear H bG;intro a H;refine aR ?_;refine (bU H Tryz.results127 (.cons (aF H rfl) (.cons (aF H rfl) .nil)) ?_).1
 first
  | exact H.hp.ret ⟨_,by rw [he0],by rw [tq,if_pos he0];exact hrep⟩
  | exact H.hp.ret ⟨_,by rw [he],by rw [tq,if_neg (by rw [he];first|decide|assumption)];exact ah.gq rfl (by decide)⟩
structure lW where
 fmt:Int
 start:Int
 uS:ByteArray
 restart:Int
def lW.dat (x:lW):List Dat:=[li x.fmt,li x.start,.lf (.string x.uS),li x.restart]
abbrev lW.cells (x:lW):List Value:=[vi x.fmt,vi x.start,.string x.uS,vi x.restart]
theorem acC {G:GH} {x:lW} {cs:List Value} (h:aO G x.dat cs):cs=x.cells:=by
 simp only [lW.dat,aO,ah] at h
 obtain ⟨_,_,rfl,⟨rfl,_⟩,_,_,rfl,⟨rfl,_⟩,_,_,rfl,⟨rfl,_⟩,_,_,rfl,⟨rfl,_⟩,rfl⟩:=h
 rfl
theorem ab5 (G:GH) (w0:World) (hG:Hold G w0) (l:List gM) (p:gM→Bool) (v fv:Value) (hv:ah G (.sl 3 (l.map gM.dat)) v) (hf:∀ x∈l,pG fv G x.dat (p x)) :
  Calls Tryz.prog 138 #[v,fv] w0 (aU w0 G fun u G'=>u=vi (kN (l.findIdx? p))):=by
 obtain ⟨A,c,rfl,hc1,hc2,hg⟩:=hv.slice;have hml:maxLen=9223372036854775807:=rfl;rw [List.length_map] at *;refine eN [(0,_),(1,_)] Tryz.func138 rfl Tryz.ntmps138 rfl rfl hG ?_;intro a H;refine kP H (SR fun _ K1=>Ra rfl (Kz K1 (SQ fun _ K2=>SR fun _ K3=>Rm rfl (Rl CP rfl (Rm rfl (Kz K3 (SB ?_)))))));clear H K1 K3;intro a H;skip;refine d9 (ι:=Nat × GH) (Tc:=[(0,_),(1,_),(7,_)]) (Lc:=[]) (fun (gh:Nat × GH)=>[(8,vi gh.1)]) (fun (gh:Nat × GH)=>[]) (fun (gh:Nat × GH)=>gh.2) (fun (gh:Nat × GH)=>gh.1≤l.length∧(l.take gh.1).findIdx? p=none∧(∀ b o,G b=some o→gh.2 b=some o)) (fun (gh:Nat × GH)=>l.length - gh.1) ((0,G)) (by exact (H).sub ⟨rfl,rfl,rfl,rfl,trivial⟩) ?_ ?_
 ·exact ⟨by omega,rfl,fun _ _ h=>h⟩
 clear H;intro gh a w hI H;obtain ⟨k,g⟩:=gh;dsimp only at hI H;obtain ⟨hk,hno,hgm⟩:=hI;dsimp only [List.cons_append,List.nil_append,List.append_nil] at H;refine kP H (SR fun _ K4=>Rc rfl (Kz K4 (SQ fun _ K5=>Cd rfl ?_ ?_))) <;> clear H K4
 ·intro h9 a H
  try have p9:=dT h9
  have hk2:k < l.length:=by omega
  obtain ⟨b,o,cs,rfl,hcl,hrow,hr⟩:=hg k l[k].dat (by simp [hk2]);obtain rfl:=Sr hr;refine kP H (Kc K5 (SQ fun _ K6=>SB (SR fun _ K7=>Rm rfl (Ra rfl (Kz K7 (SR fun _ K8=>Rm rfl (Rm rfl (Rm rfl (Ri CP Cz rfl rfl ?_)))))))));clear H K5 K7;intro a H;refine aK Cz (cs:=l[k].cells) H wn rfl rfl (fun j v hj=>H.hp.aB (aD hgm (hrow j v hj))) rfl ?_;clear H;intro a H;refine ng H wn rfl rfl (hf _ (List.getElem_mem hk2) _ _ _ hgm H.hp.ro (Sv _ l[k])) rfl ?_;clear H;rintro v16 ql a w rfl nL H;refine K8 _ _ ?_;clear K8;refine l6 H rfl ?_ ?_
  ·intro h16
   try have p16:=dT h16
   refine kP H (SR fun _ K9=>Rm rfl (Ra rfl (Kz K9 ?_)));clear H K9;intro a H;refine lr H Tryz.results138 rfl ?_
   first
    | exact H.hp.ret (by rw [qK hk2 hno h16];rfl)
    | exact H.hp.ret (by rw [show l.take k=l from List.take_of_length_le (by omega)] at hno;rw [hno];rfl)
  intro h16
  try have p16:=dF h16
  refine kP H (Kc K6 (SC (Rd rfl (Rm rfl ?_))));clear H K6;intro a H;refine au ?_;refine dD ((k+1,ql)) (by exact (H).sub ⟨rfl,rfl,rfl,rfl,trivial⟩) ?_ ?_
  ·(try dsimp only);exact ⟨by omega,yZ hk2 hno h16,fun b o h=>nL b o (hgm b o h)⟩
  first|omega|(dsimp only;omega)
 intro h9 a H
 try have p9:=dF h9
 refine dL ?_;refine K2 _ _ ?_;clear K2;refine kP H (SR fun _ aH=>Ra rfl (Kz aH ?_));clear H aH;intro a H;refine lr H Tryz.results138 rfl ?_
 first
  | exact H.hp.ret (by rw [qK hk2 hno h16];rfl)
  | exact H.hp.ret (by rw [show l.take k=l from List.take_of_length_le (by omega)] at hno;rw [hno];rfl)
theorem XB (G:GH) (w0:World) (hG:Hold G w0) (l:List gM) (p:gM→Bool) (v fv:Value) (hv:ah G (.sl 3 (l.map gM.dat)) v) (hf:∀ x∈l,pG fv G x.dat (p x)) :
  Calls Tryz.prog 128 #[v,fv] w0 (aU w0 G fun u G'=>u=.bool (l.findIdx? p).isSome):=by
 obtain ⟨A,c,rfl,hc1,hc2,-⟩:=hv.slice;rw [List.length_map] at *;refine eN [(0,_),(1,_)] Tryz.func128 rfl Tryz.ntmps128 rfl rfl hG ?_;intro a H;refine kP H (SR fun _ K1=>Ra rfl (Kz K1 (SR fun _ K2=>Rm rfl (Rm rfl ?_))));clear H K1;intro a H;refine s_call YA H wn rfl (ab5 _ _ H.hp.ro l p _ _ hv hf) rfl ?_;clear H;rintro v7 G7 a w rfl xC H;exact kH H (Rc rfl (Ra rfl (Kz K2 (LR Tryz.results128 rfl fun H=>H.hp.ret (congrArg Value.bool (MO _))))))
theorem acD {G:GH} {bl:Nat} {k:Int} (hb:aB G bl 0=some (vi k)) (x:gM):pG (.func (.func 129) #[] #[.pointer (some ⟨bl,0,none⟩)]) G x.dat (decide (k < x.level)):=by
 intro G1 w0 cs hm hG hr;refine jI (caps:=[.pointer (some ⟨bl,0,none⟩)]) Yp ?_;obtain rfl:=Sr hr;replace hb:=aD hm hb;refine eN [(0,_),(1,_)] Tryz.func129 rfl Tryz.ntmps129 rfl rfl hG ?_;intro a H;refine aY (fun _ K1=>?_);refine bY (cs:=[_,_,_]) H wn rfl rfl rfl ?_;clear H;intro b2 a w hb2 H;refine kH H (Ra rfl (Kz K1 (SR fun _ K2=>Rf aad rfl (Ro ak 0 rfl rfl (Rg ak rfl (by assumption) ?_)))));clear H K1;intro a H;exact kH H (Rc rfl (Ra rfl (Kz K2 (LR Tryz.results129 rfl fun H=>H.hp.ret rfl))))
/-- The error of a template for a level. -/
def vU (t:ByteArray) (k:Int):Int:=if k < 1∨9 < k then 2 else if sw t=0∧((tq t).findIdx? fun x=>decide (k < x.level)).isSome=true then 6 else sw t
theorem acB (G:GH) (w0:World) (hG:Hold G w0) (t:ByteArray) (k:Int) (ht:t.size < 4611686018427387904) :
  Calls Tryz.prog 118 #[.string t,vi k] w0 (aU w0 G fun u G'=>u=vi (vU t k)):=by
 refine eN [(0,_),(1,_)] Tryz.func118 rfl Tryz.ntmps118 rfl rfl hG ?_;intro a H;refine aY (fun _ K1=>?_);refine bY (cs:=[_]) H wn rfl rfl rfl ?_;clear H;intro b3 a w hb3 H;refine kH H (Ra rfl (Kz K1 (SQ fun _ K2=>SR fun _ K3=>Ro ak 0 rfl rfl (Rc rfl (Rm rfl (Sp 9 rfl ?_ ?_)))))) <;> clear H K1
 ·intro h9 a H
  try have p9:=dT h9
  refine kH H (Ks h9 rfl (Ks h9 rfl (Pt h9 rfl (Kz K3 (Ct rfl rfl (SR fun _ K4=>Ra rfl (Kz K4 ?_)))))));clear H K3 K4;intro a H;refine lr H Tryz.results118 rfl ?_
  exact H.hp.ret (congrArg vi (by unfold vU;(repeat' split) <;> first|rfl|(exfalso;simp_all;done)|(exfalso;simp_all;omega)|(simp_all;done)))
 intro h9 a H
 try have p9:=dF h9
 refine kH H (YO ak 0 h9 rfl rfl (YC h9 rfl (Pf h9 rfl (Kz K3 (Cd rfl ?_ ?_))))) <;> clear H K3
 ·intro h12 a H
  try have oz:=dT h12
  refine kP H (SR fun _ K5=>Ra rfl (Kz K5 ?_));clear H K5;intro a H;refine lr H Tryz.results118 rfl ?_
  exact H.hp.ret (congrArg vi (by unfold vU;(repeat' split) <;> first|rfl|(exfalso;simp_all;done)|(exfalso;simp_all;omega)|(simp_all;done)))
 intro h12 a H
 try have oz:=dF h12
 refine eX ?_;refine K2 _ _ ?_;clear K2;refine aQ (fun _ K6=>?_);obtain ⟨Ga,hma,w9,H⟩:=H.dB
 have hbk:aB Ga b3 0=some (vi k):=by unfold aB;rw [w9];rfl
 refine kP H (SC (Rm rfl ?_));clear H;intro a H;refine s_call Yn H wn rfl (ac6 _ _ H.hp.ro t ht) rfl ?_;clear H;rintro v15 zy a w ⟨x15,rfl,RX⟩ rO H;obtain ⟨Vb,c15,rfl,-,-,-⟩:=RX.slice;replace hbk:=aD rO hbk;refine kH H (Rm rfl ?_);clear H;intro a H;(iterate 2 refine gV H wn rfl rfl rfl ?_;clear H;intro a H);refine kH H (Ra rfl (Ra rfl (Kn K6 (SQ fun _ K7=>SR fun _ K8=>Rm rfl (Rc rfl (Rm rfl (Sp 20 rfl ?_ ?_))))))) <;> clear H K6
 ·intro h20 a H
  try have mq:=dT h20
  refine kH H (YM h20 rfl ?_);clear H;intro a H;refine lT H (wg H rfl rfl h20) rfl rfl ?_;clear H;intro a H;refine s_call Yo H (wg H rfl rfl h20) rfl (XB _ _ H.hp.ro _ (fun x=>decide (k < x.level)) _ _ RX (fun x _=>acD hbk x)) rfl ?_;clear H;rintro v23 N9 a w rfl Q9 H;refine kH H (Pt h20 rfl (Kz K8 (Cd rfl ?_ ?_))) <;> clear H K8
  ·intro dM a H
   try have jA:=dT dM
   refine kP H (SC (Ra rfl (Kn K7 (SR fun _ K9=>Rm rfl (Ra rfl (Kz K9 ?_))))));clear H K7 K9;intro a H;refine lr H Tryz.results118 rfl ?_
   exact H.hp.ret (congrArg vi (by unfold vU;(repeat' split) <;> first|rfl|(exfalso;simp_all;done)|(exfalso;simp_all;omega)|(simp_all;done)))
  intro dM a H
  try have jA:=dF dM
  refine kP H (Kc K7 (SR fun _ aH=>Rm rfl (Ra rfl (Kz aH ?_))));clear H K7 aH;intro a H;refine lr H Tryz.results118 rfl ?_
  exact H.hp.ret (congrArg vi (by unfold vU;(repeat' split) <;> first|rfl|(exfalso;simp_all;done)|(exfalso;simp_all;omega)|(simp_all;done)))
 intro h20 a H
 try have mq:=dF h20
 refine kH H (Ks h20 rfl (Ks h20 rfl (Ks h20 rfl (Pf h20 rfl (Kz K8 (Cf rfl rfl (Kc K7 (SR fun _ aX=>Rm rfl (Ra rfl (Kz aX ?_))))))))));clear H K8 K7 aX;intro a H;refine lr H Tryz.results118 rfl ?_
 exact H.hp.ret (congrArg vi (by unfold vU;(repeat' split) <;> first|rfl|(exfalso;simp_all;done)|(exfalso;simp_all;omega)|(simp_all;done)))
end
section
open Go.RowKit
theorem IX:Ty Tryz.prog 193 4 40 [.int .i64 0,.int .i64 0,.string ⟨#[]⟩,.int .i64 0] true:=⟨by kernel_rfl,by kernel_rfl⟩
theorem I4:Tryz.prog.underlying 142=some (.slice 193):=by kernel_rfl
theorem Qu:bO Tryz.prog 193 0 0:=⟨by kernel_rfl⟩
theorem Qv:bO Tryz.prog 193 1 1:=⟨by kernel_rfl⟩
theorem Z6:bO Tryz.prog 193 2 2:=⟨by kernel_rfl⟩
theorem Yf:∀ args w,(callFunc 118 args).run Tryz.prog w=.ok (.enter 118 args) w:=enters Tryz.func118 rfl (by kernel_rfl)
theorem Qw:bO Tryz.prog 193 3 3:=⟨by kernel_rfl⟩
def zN:Nat→List lW→Int
 | _,[]=>0
 | i,x :: r=>if x.fmt < 1∨7 < x.fmt then 3 else if x.start < 0∨32767 < x.start then 2 else if vU x.uS ((i+1:Nat):Int)≠0 then vU x.uS ((i+1:Nat):Int) else if x.restart < 0∨(i:Int) < x.restart then 5 else zN (i+1) r
/-- The error of the levels of a list. -/
def cK (l:List lW):Int:=if l.length=0 then 11 else if 9 < l.length then 9 else zN 0 l
theorem gG {l:List lW} {k:Nat} (h:k < l.length):zN k (l.drop k)=if l[k].fmt < 1∨7 < l[k].fmt then 3 else if l[k].start < 0∨32767 < l[k].start then 2 else if vU l[k].uS ((k+1:Nat):Int)≠0 then vU l[k].uS ((k+1:Nat):Int) else if l[k].restart < 0∨(k:Int) < l[k].restart then 5 else zN (k+1) (l.drop (k+1)):=by
 rw [List.drop_eq_getElem_cons h,zN]
theorem WX (G:GH) (w0:World) (hG:Hold G w0) (l:List lW) (v:Value) (hv:ah G (.sl 4 (l.map lW.dat)) v) (ht:∀ x∈l,x.uS.size < 4611686018427387904) :
  Calls Tryz.prog 91 #[v] w0 (aU w0 G fun u G'=>u=vi (cK l)):=by
 obtain ⟨A,c,rfl,hc1,hc2,hg⟩:=hv.slice;have hml:maxLen=9223372036854775807:=rfl;rw [List.length_map] at *;refine eN [(0,_)] Tryz.func91 rfl Tryz.ntmps91 rfl rfl hG ?_;intro a H;refine kP H (SR fun _ K1=>Ra rfl (Kz K1 (SQ fun _ K2=>SB (SR fun _ K3=>Rm rfl (Rl I4 rfl (Rc rfl (Ra rfl (Kz K3 (Cd rfl ?_ ?_))))))))) <;> clear H K1 K3
 ·intro h6 a H
  try have p6:=dT h6
  refine kP H (SR fun _ K4=>Ra rfl (Kz K4 ?_));clear H K4;intro a H;refine lr H Tryz.results91 rfl ?_
  first
   | exact H.hp.ret (congrArg vi (by rw [cK,if_pos (by omega)]))
   | exact H.hp.ret (congrArg vi (by rw [cK,if_neg (by omega),if_pos (by omega)]))
   | exact H.hp.ret (congrArg vi (by rw [cK,if_neg (by omega),if_neg (by omega),← he,gG hk2,if_pos (by omega)]))
   | exact H.hp.ret (congrArg vi (by rw [cK,if_neg (by omega),if_neg (by omega),← he,gG hk2,if_neg (by omega),if_pos (by omega)]))
   | exact H.hp.ret (congrArg vi (by rw [cK,if_neg (by omega),if_neg (by omega),← he,gG hk2,if_neg (by omega),if_neg (by omega),if_pos p45]))
   | exact H.hp.ret (congrArg vi (by rw [cK,if_neg (by omega),if_neg (by omega),← he,gG hk2,if_neg (by omega),if_neg (by omega),if_neg p45,if_pos (by omega)]))
   | exact H.hp.ret (congrArg vi (by rw [cK,if_neg (by omega),if_neg (by omega),← he,List.drop_of_length_le (by omega)];rfl))
 intro h6 a H
 try have p6:=dF h6
 refine kP H (SR fun _ K5=>Rm rfl (Rl I4 rfl (Rc rfl (Ra rfl (Kz K5 (Cd rfl ?_ ?_)))))) <;> clear H K5
 ·intro h10 a H
  try have r9:=dT h10
  refine kP H (SR fun _ K6=>Ra rfl (Kz K6 ?_));clear H K6;intro a H;refine lr H Tryz.results91 rfl ?_
  first
   | exact H.hp.ret (congrArg vi (by rw [cK,if_pos (by omega)]))
   | exact H.hp.ret (congrArg vi (by rw [cK,if_neg (by omega),if_pos (by omega)]))
   | exact H.hp.ret (congrArg vi (by rw [cK,if_neg (by omega),if_neg (by omega),← he,gG hk2,if_pos (by omega)]))
   | exact H.hp.ret (congrArg vi (by rw [cK,if_neg (by omega),if_neg (by omega),← he,gG hk2,if_neg (by omega),if_pos (by omega)]))
   | exact H.hp.ret (congrArg vi (by rw [cK,if_neg (by omega),if_neg (by omega),← he,gG hk2,if_neg (by omega),if_neg (by omega),if_pos p45]))
   | exact H.hp.ret (congrArg vi (by rw [cK,if_neg (by omega),if_neg (by omega),← he,gG hk2,if_neg (by omega),if_neg (by omega),if_neg p45,if_pos (by omega)]))
   | exact H.hp.ret (congrArg vi (by rw [cK,if_neg (by omega),if_neg (by omega),← he,List.drop_of_length_le (by omega)];rfl))
 intro h10 a H
 try have r9:=dF h10
 refine kP H (Kc K2 (SQ fun _ K7=>SR fun _ K8=>Rm rfl (Rl I4 rfl (Rm rfl (Kz K8 (SB ?_))))));clear H K2 K8;intro a H;skip;refine d9 (ι:=Nat × GH) (Tc:=[(14,_),(15,_)]) (Lc:=[]) (fun (gh:Nat × GH)=>[(16,vi gh.1)]) (fun (gh:Nat × GH)=>[]) (fun (gh:Nat × GH)=>gh.2) (fun (gh:Nat × GH)=>gh.1≤l.length∧zN gh.1 (l.drop gh.1)=zN 0 l∧(∀ b o,G b=some o→gh.2 b=some o)) (fun (gh:Nat × GH)=>l.length - gh.1) ((0,G)) (by exact (H).sub ⟨rfl,rfl,rfl,trivial⟩) ?_ ?_
 ·exact ⟨Nat.zero_le _,rfl,fun _ _ h=>h⟩
 clear H;intro gh a w hI H;obtain ⟨k,g⟩:=gh;dsimp only at hI H;obtain ⟨hk,he,hgm⟩:=hI;dsimp only [List.cons_append,List.nil_append,List.append_nil] at H;refine kP H (SR fun _ K9=>Rc rfl (Kz K9 (SQ fun _ aH=>Cd rfl ?_ ?_))) <;> clear H K9
 ·intro bT a H
  try have jy:=dT bT
  have hk2:k < l.length:=by omega
  obtain ⟨b,o,cs,rfl,hcl,hrow,hr⟩:=hg k l[k].dat (by simp [hk2]);obtain rfl:=acC hr;refine kP H (Kc aH (SQ fun _ aX=>SB (SR fun _ bD=>Rm rfl (Ri I4 IX rfl rfl ?_))));clear H aH;intro a H;refine aK IX (cs:=l[k].cells) H wn rfl rfl (fun j v hj=>H.hp.aB (aD hgm (hrow j v hj))) rfl ?_;clear H;intro a H;refine bX IX H wn rfl ?_;clear H;intro b4 a w hb4 H;refine kH H (Ra rfl ?_);clear H;intro a H;refine aP IX 0 (vs:=[_,_,_,_]) _ H wn rfl rfl rfl rfl rfl rfl rfl rfl ?_;clear H;intro w H;dsimp only [List.set,setRow] at H;refine bD _ _ ?_;clear bD;refine kP H (SQ fun _ bH=>SB (SR fun _ bG=>Rf Qu rfl (Ro ak 0 rfl rfl (Rc rfl (Rm rfl (Sp 25 rfl ?_ ?_)))))) <;> clear H
  ·intro kG a H
   try have p25:=dT kG
   refine kH H (Ks kG rfl (Ks kG rfl (Ks kG rfl (Pt kG rfl (Ra rfl (Kz bG (Ct rfl rfl (SR fun _ bV=>Ra rfl (Kz bV ?_)))))))));clear H bG bV;intro a H;refine lr H Tryz.results91 rfl ?_
   first
    | exact H.hp.ret (congrArg vi (by rw [cK,if_pos (by omega)]))
    | exact H.hp.ret (congrArg vi (by rw [cK,if_neg (by omega),if_pos (by omega)]))
    | exact H.hp.ret (congrArg vi (by rw [cK,if_neg (by omega),if_neg (by omega),← he,gG hk2,if_pos (by omega)]))
    | exact H.hp.ret (congrArg vi (by rw [cK,if_neg (by omega),if_neg (by omega),← he,gG hk2,if_neg (by omega),if_pos (by omega)]))
    | exact H.hp.ret (congrArg vi (by rw [cK,if_neg (by omega),if_neg (by omega),← he,gG hk2,if_neg (by omega),if_neg (by omega),if_pos p45]))
    | exact H.hp.ret (congrArg vi (by rw [cK,if_neg (by omega),if_neg (by omega),← he,gG hk2,if_neg (by omega),if_neg (by omega),if_neg p45,if_pos (by omega)]))
    | exact H.hp.ret (congrArg vi (by rw [cK,if_neg (by omega),if_neg (by omega),← he,List.drop_of_length_le (by omega)];rfl))
  intro kG a H
  try have p25:=dF kG
  refine kH H (YF Qu kG rfl (YO ak 0 kG rfl rfl (YC kG rfl (Pf kG rfl (Ra rfl (Kz bG (Cd rfl ?_ ?_))))))) <;> clear H bG
  ·intro h21 a H
   try have lS:=dT h21
   refine kP H (SR fun _ bQ=>Ra rfl (Kz bQ ?_));clear H bQ;intro a H;refine lr H Tryz.results91 rfl ?_
   first
    | exact H.hp.ret (congrArg vi (by rw [cK,if_pos (by omega)]))
    | exact H.hp.ret (congrArg vi (by rw [cK,if_neg (by omega),if_pos (by omega)]))
    | exact H.hp.ret (congrArg vi (by rw [cK,if_neg (by omega),if_neg (by omega),← he,gG hk2,if_pos (by omega)]))
    | exact H.hp.ret (congrArg vi (by rw [cK,if_neg (by omega),if_neg (by omega),← he,gG hk2,if_neg (by omega),if_pos (by omega)]))
    | exact H.hp.ret (congrArg vi (by rw [cK,if_neg (by omega),if_neg (by omega),← he,gG hk2,if_neg (by omega),if_neg (by omega),if_pos p45]))
    | exact H.hp.ret (congrArg vi (by rw [cK,if_neg (by omega),if_neg (by omega),← he,gG hk2,if_neg (by omega),if_neg (by omega),if_neg p45,if_pos (by omega)]))
    | exact H.hp.ret (congrArg vi (by rw [cK,if_neg (by omega),if_neg (by omega),← he,List.drop_of_length_le (by omega)];rfl))
  intro h21 a H
  try have lS:=dF h21
  refine kP H (SR fun _ bS=>Rf Qv rfl (Ro ak 0 rfl rfl (Rc rfl (Rm rfl (Sp 34 rfl ?_ ?_))))) <;> clear H
  ·intro cZ a H
   try have p34:=dT cZ
   refine kH H (Ks cZ rfl (Ks cZ rfl (Ks cZ rfl (Pt cZ rfl (Ra rfl (Kz bS (Ct rfl rfl (SR fun _ cO=>Ra rfl (Kz cO ?_)))))))));clear H bS cO;intro a H;refine lr H Tryz.results91 rfl ?_
   first
    | exact H.hp.ret (congrArg vi (by rw [cK,if_pos (by omega)]))
    | exact H.hp.ret (congrArg vi (by rw [cK,if_neg (by omega),if_pos (by omega)]))
    | exact H.hp.ret (congrArg vi (by rw [cK,if_neg (by omega),if_neg (by omega),← he,gG hk2,if_pos (by omega)]))
    | exact H.hp.ret (congrArg vi (by rw [cK,if_neg (by omega),if_neg (by omega),← he,gG hk2,if_neg (by omega),if_pos (by omega)]))
    | exact H.hp.ret (congrArg vi (by rw [cK,if_neg (by omega),if_neg (by omega),← he,gG hk2,if_neg (by omega),if_neg (by omega),if_pos p45]))
    | exact H.hp.ret (congrArg vi (by rw [cK,if_neg (by omega),if_neg (by omega),← he,gG hk2,if_neg (by omega),if_neg (by omega),if_neg p45,if_pos (by omega)]))
    | exact H.hp.ret (congrArg vi (by rw [cK,if_neg (by omega),if_neg (by omega),← he,List.drop_of_length_le (by omega)];rfl))
  intro cZ a H
  try have p34:=dF cZ
  refine kH H (YF Qv cZ rfl (YO ak 0 cZ rfl rfl (YC cZ rfl (Pf cZ rfl (Ra rfl (Kz bS (Cd rfl ?_ ?_))))))) <;> clear H bS
  ·intro kI a H
   try have p30:=dT kI
   refine kP H (SR fun _ dV=>Ra rfl (Kz dV ?_));clear H dV;intro a H;refine lr H Tryz.results91 rfl ?_
   first
    | exact H.hp.ret (congrArg vi (by rw [cK,if_pos (by omega)]))
    | exact H.hp.ret (congrArg vi (by rw [cK,if_neg (by omega),if_pos (by omega)]))
    | exact H.hp.ret (congrArg vi (by rw [cK,if_neg (by omega),if_neg (by omega),← he,gG hk2,if_pos (by omega)]))
    | exact H.hp.ret (congrArg vi (by rw [cK,if_neg (by omega),if_neg (by omega),← he,gG hk2,if_neg (by omega),if_pos (by omega)]))
    | exact H.hp.ret (congrArg vi (by rw [cK,if_neg (by omega),if_neg (by omega),← he,gG hk2,if_neg (by omega),if_neg (by omega),if_pos p45]))
    | exact H.hp.ret (congrArg vi (by rw [cK,if_neg (by omega),if_neg (by omega),← he,gG hk2,if_neg (by omega),if_neg (by omega),if_neg p45,if_pos (by omega)]))
    | exact H.hp.ret (congrArg vi (by rw [cK,if_neg (by omega),if_neg (by omega),← he,List.drop_of_length_le (by omega)];rfl))
  intro kI a H
  try have p30:=dF kI
  refine kP H (Kc bH (SQ fun _ dI=>SR fun _ eH=>Rf Z6 rfl (Ro gB 0 rfl rfl (Rm rfl (Rd rfl ?_)))));clear H bH;intro a H;rw [show ((k:Int)+1)=((k+1:Nat):Int) from rfl] at H;refine s_call Yf H wn rfl (acB _ _ H.hp.ro l[k].uS ((k+1:Nat):Int) (ht _ (List.getElem_mem hk2))) rfl ?_;clear H;rintro v43 wG a w rfl kC H;refine kH H (Ra rfl (Kz eH (SR fun _ fq=>Rm rfl (Rc rfl (Kz fq (Cd rfl ?_ ?_)))))) <;> clear H eH fq
  ·intro h45 a H
   try have p45:=dT h45
   refine kP H (SR fun _ gK=>Rm rfl (Ra rfl (Kz gK ?_)));clear H gK;intro a H;refine lr H Tryz.results91 rfl ?_
   first
    | exact H.hp.ret (congrArg vi (by rw [cK,if_pos (by omega)]))
    | exact H.hp.ret (congrArg vi (by rw [cK,if_neg (by omega),if_pos (by omega)]))
    | exact H.hp.ret (congrArg vi (by rw [cK,if_neg (by omega),if_neg (by omega),← he,gG hk2,if_pos (by omega)]))
    | exact H.hp.ret (congrArg vi (by rw [cK,if_neg (by omega),if_neg (by omega),← he,gG hk2,if_neg (by omega),if_pos (by omega)]))
    | exact H.hp.ret (congrArg vi (by rw [cK,if_neg (by omega),if_neg (by omega),← he,gG hk2,if_neg (by omega),if_neg (by omega),if_pos p45]))
    | exact H.hp.ret (congrArg vi (by rw [cK,if_neg (by omega),if_neg (by omega),← he,gG hk2,if_neg (by omega),if_neg (by omega),if_neg p45,if_pos (by omega)]))
    | exact H.hp.ret (congrArg vi (by rw [cK,if_neg (by omega),if_neg (by omega),← he,List.drop_of_length_le (by omega)];rfl))
  intro h45 a H
  try have p45:=dF h45
  refine kP H (Kc dI (SR fun _ gF=>Rf Qw rfl (Ro ak 0 rfl rfl (Rc rfl (Rm rfl (Sp 50 rfl ?_ ?_)))))) <;> clear H dI
  ·intro h50 a H
   try have p50:=dT h50
   refine kH H (Ks h50 rfl (Ks h50 rfl (Ks h50 rfl (Ks h50 rfl (Pt h50 rfl (Kz gF (Ct rfl rfl (SR fun _ fO=>Ra rfl (Kz fO ?_)))))))));clear H gF fO;intro a H;refine lr H Tryz.results91 rfl ?_
   first
    | exact H.hp.ret (congrArg vi (by rw [cK,if_pos (by omega)]))
    | exact H.hp.ret (congrArg vi (by rw [cK,if_neg (by omega),if_pos (by omega)]))
    | exact H.hp.ret (congrArg vi (by rw [cK,if_neg (by omega),if_neg (by omega),← he,gG hk2,if_pos (by omega)]))
    | exact H.hp.ret (congrArg vi (by rw [cK,if_neg (by omega),if_neg (by omega),← he,gG hk2,if_neg (by omega),if_pos (by omega)]))
    | exact H.hp.ret (congrArg vi (by rw [cK,if_neg (by omega),if_neg (by omega),← he,gG hk2,if_neg (by omega),if_neg (by omega),if_pos p45]))
    | exact H.hp.ret (congrArg vi (by rw [cK,if_neg (by omega),if_neg (by omega),← he,gG hk2,if_neg (by omega),if_neg (by omega),if_neg p45,if_pos (by omega)]))
    | exact H.hp.ret (congrArg vi (by rw [cK,if_neg (by omega),if_neg (by omega),← he,List.drop_of_length_le (by omega)];rfl))
  intro h50 a H
  try have p50:=dF h50
  refine kH H (YF Qw h50 rfl (YO ak 0 h50 rfl rfl (YM h50 rfl (YC h50 rfl (Pf h50 rfl (Kz gF (Cd rfl ?_ ?_))))))) <;> clear H gF
  ·intro gH a H
   try have p55:=dT gH
   refine kP H (SR fun _ iF=>Ra rfl (Kz iF ?_));clear H iF;intro a H;refine lr H Tryz.results91 rfl ?_
   first
    | exact H.hp.ret (congrArg vi (by rw [cK,if_pos (by omega)]))
    | exact H.hp.ret (congrArg vi (by rw [cK,if_neg (by omega),if_pos (by omega)]))
    | exact H.hp.ret (congrArg vi (by rw [cK,if_neg (by omega),if_neg (by omega),← he,gG hk2,if_pos (by omega)]))
    | exact H.hp.ret (congrArg vi (by rw [cK,if_neg (by omega),if_neg (by omega),← he,gG hk2,if_neg (by omega),if_pos (by omega)]))
    | exact H.hp.ret (congrArg vi (by rw [cK,if_neg (by omega),if_neg (by omega),← he,gG hk2,if_neg (by omega),if_neg (by omega),if_pos p45]))
    | exact H.hp.ret (congrArg vi (by rw [cK,if_neg (by omega),if_neg (by omega),← he,gG hk2,if_neg (by omega),if_neg (by omega),if_neg p45,if_pos (by omega)]))
    | exact H.hp.ret (congrArg vi (by rw [cK,if_neg (by omega),if_neg (by omega),← he,List.drop_of_length_le (by omega)];rfl))
  intro gH a H
  try have p55:=dF gH
  refine kP H (Kc aX (SC (Rd rfl (Rm rfl ?_))));clear H aX;intro a H;refine au ?_;refine dD ((k+1,wG)) (by exact (H.bL (Pl:=[_]) (bB:=[]) [] (by decide) rfl).sub ⟨rfl,rfl,rfl,trivial⟩) ?_ ?_
  ·(try dsimp only);exact ⟨by omega,by rw [gG hk2,if_neg (by omega),if_neg (by omega),if_neg p45,if_neg (by omega)] at he;exact he,fun b o h=>kC b o (hgm b o h)⟩
  first|omega|(dsimp only;omega)
 intro bT a H
 try have jy:=dF bT
 refine dL ?_;refine K7 _ _ ?_;clear K7;refine kP H (SR fun _ iT=>Ra rfl (Kz iT ?_));clear H iT;intro a H;refine lr H Tryz.results91 rfl ?_
 first
  | exact H.hp.ret (congrArg vi (by rw [cK,if_pos (by omega)]))
  | exact H.hp.ret (congrArg vi (by rw [cK,if_neg (by omega),if_pos (by omega)]))
  | exact H.hp.ret (congrArg vi (by rw [cK,if_neg (by omega),if_neg (by omega),← he,gG hk2,if_pos (by omega)]))
  | exact H.hp.ret (congrArg vi (by rw [cK,if_neg (by omega),if_neg (by omega),← he,gG hk2,if_neg (by omega),if_pos (by omega)]))
  | exact H.hp.ret (congrArg vi (by rw [cK,if_neg (by omega),if_neg (by omega),← he,gG hk2,if_neg (by omega),if_neg (by omega),if_pos p45]))
  | exact H.hp.ret (congrArg vi (by rw [cK,if_neg (by omega),if_neg (by omega),← he,gG hk2,if_neg (by omega),if_neg (by omega),if_neg p45,if_pos (by omega)]))
  | exact H.hp.ret (congrArg vi (by rw [cK,if_neg (by omega),if_neg (by omega),← he,List.drop_of_length_le (by omega)];rfl))
end
section
open Go.RowKit
theorem CJ:Ty Tryz.prog 32 1 24 [.slice none 0 0] false:=⟨by kernel_rfl,by kernel_rfl⟩
theorem CQ:Tryz.prog.underlying 32=some (.slice 144):=by kernel_rfl
theorem Cx:Ty Tryz.prog 144 2 32 [.int .i64 0,.slice none 0 0] true:=⟨by kernel_rfl,by kernel_rfl⟩
theorem Qn:bO Tryz.prog 144 0 0:=⟨by kernel_rfl⟩
theorem aeW:Ty Tryz.prog 142 1 24 [.slice none 0 0] false:=⟨by kernel_rfl,by kernel_rfl⟩
theorem J9:∀ args w,(callFunc 65 args).run Tryz.prog w=.ok (.enter 65 args) w:=enters Tryz.func65 rfl (by kernel_rfl)
theorem ZW:bO Tryz.prog 144 1 1:=⟨by kernel_rfl⟩
theorem Zu:∀ args w,(callFunc 91 args).run Tryz.prog w=.ok (.enter 91 args) w:=enters Tryz.func91 rfl (by kernel_rfl)
theorem Bp:∀ args w,(callFunc 63 args).run Tryz.prog w=.ok (.enter 63 args) w:=enters Tryz.func63 rfl (by kernel_rfl)
theorem Zt:∀ args w,(callFunc 90 args).run Tryz.prog w=.ok (.enter 90 args) w:=enters Tryz.func90 rfl (by kernel_rfl)
theorem Zr:∀ args w,(callFunc 89 args).run Tryz.prog w=.ok (.enter 89 args) w:=enters Tryz.func89 rfl (by kernel_rfl)
structure eD where
 id:Int
 levels:List lW
def eD.dat (x:eD):List Dat:=[li x.id,.sl 4 (x.levels.map lW.dat)]
structure gD where
 id:Int
 parent:Int
 author:ByteArray
 time:Int
 text:ByteArray
 done:Bool
def gD.dat (x:gD):List Dat:=[li x.id,li x.parent,.lf (.string x.author),li x.time,.lf (.string x.text),.lf (.bool x.done)]
abbrev gD.cells (x:gD):List Value:=[vi x.id,vi x.parent,.string x.author,vi x.time,.string x.text,.bool x.done]
structure jW where
 name:ByteArray
 value:ByteArray
def jW.dat (x:jW):List Dat:=[.lf (.string x.name),.lf (.string x.value)]
abbrev jW.cells (x:jW):List Value:=[.string x.name,.string x.value]
theorem Pq {G:GH} {x:gD} {cs:List Value} (h:aO G x.dat cs):cs=x.cells:=by
 simp only [gD.dat,aO,ah] at h
 obtain ⟨_,_,rfl,⟨rfl,_⟩,_,_,rfl,⟨rfl,_⟩,_,_,rfl,⟨rfl,_⟩,_,_,rfl,⟨rfl,_⟩,_,_,rfl,⟨rfl,_⟩,_,_,rfl,⟨rfl,_⟩,rfl⟩:=h
 rfl
theorem afm {G:GH} {x:jW} {cs:List Value} (h:aO G x.dat cs):cs=x.cells:=by
 simp only [jW.dat,aO,ah] at h
 obtain ⟨_,_,rfl,⟨rfl,_⟩,_,_,rfl,⟨rfl,_⟩,rfl⟩:=h
 rfl
theorem MS {G:GH} {l:List eD} {A:Option Addr} {n c k:Nat} (hv:ah G (.sl 2 (l.map eD.dat)) (.slice A n c)) (hk:k < l.length):∃ b o B d,A=some ⟨b,o,none⟩∧(∀ j u,[vi l[k].id,.slice B l[k].levels.length d][j]?=some u→aB G b (o+k*2+j)=some u)∧ah G (.sl 4 (l[k].levels.map lW.dat)) (.slice B l[k].levels.length d):=by
 obtain ⟨A',c',he,_,_,hg⟩:=hv.slice
 injection he with e1 e2 e3
 subst e1;obtain ⟨b,o,cs,h1,h2,h3,h4⟩:=hg k l[k].dat (by simp [hk])
 simp only [eD.dat,aO] at h4
 obtain ⟨v1,_,rfl,⟨rfl,-⟩,v2,_,rfl,hl,rfl⟩:∃ v vs,cs=v :: vs∧ah G (li l[k].id) v∧∃ v2 vs2,vs=v2 :: vs2∧ah G (.sl 4 (l[k].levels.map lW.dat)) v2∧vs2=[]:=h4;obtain ⟨B,d,rfl,-,-,-⟩:=hl.slice;rw [List.length_map] at *;exact ⟨b,o,B,d,h1,h3,hl⟩
theorem acs {G:GH} {bl:Nat} {l:List eD} {A:Option Addr} {n c:Nat} (hb:aB G bl 0=some (.slice A n c)) (hv:ah G (.sl 2 (l.map eD.dat)) (.slice A n c)):oL (.func (.func 90) #[] #[.pointer (some ⟨bl,0,none⟩)]) G l.length fun k=>(l[k]?.map eD.id).getD 0:=by
 intro k hk G1 w0 hm hG;refine jI (caps:=[.pointer (some ⟨bl,0,none⟩)]) Zt ?_;replace hb:=aD hm hb
 obtain rfl:n=l.length:=by have:=hv.len;simpa using this
 obtain ⟨b,o,B,d,rfl,hrow,-⟩:=MS (hv.mono hm) hk;have hq:=hrow 0 _ rfl;refine eN [(0,_),(1,_)] Tryz.func90 rfl Tryz.ntmps90 rfl rfl hG ?_;intro a H;refine kP H (SR fun _ K1=>Ra rfl (Kz K1 (SR fun _ K2=>Rg CJ rfl (by assumption) ?_)));clear H K1;intro a H;refine kH H (Rm rfl (Ri CQ Cx rfl rfl (Rf Qn rfl (Rg ak rfl (by assumption) ?_))));clear H;intro a H;exact kH H (Ra rfl (Kz K2 (LR Tryz.results90 rfl fun H=>H.hp.ret (by dsimp only;rw [List.getElem?_eq_getElem hk];rfl))))
def Ai (l:List eD) (i:Nat):Int:=cu [mo (fun k=>(l[k]?.map eD.id).getD 0) i,cK ((l[i]?.map eD.levels).getD [])]
theorem acy {G:GH} {bl:Nat} {l:List eD} {A:Option Addr} {n c:Nat} (hb:aB G bl 0=some (.slice A n c)) (hv:ah G (.sl 2 (l.map eD.dat)) (.slice A n c)) (hl:l.length≤4294967296) (ht:∀ x∈l,∀ y∈x.levels,y.uS.size < 4611686018427387904):oL (.func (.func 89) #[] #[.pointer (some ⟨bl,0,none⟩)]) G l.length (Ai l):=by
 intro k hk G1 w0 hm hG;refine jI (caps:=[.pointer (some ⟨bl,0,none⟩)]) Zr ?_;replace hb:=aD hm hb;replace hv:=hv.mono hm;have hcb:=acs hb hv
 obtain rfl:n=l.length:=by have:=hv.len;simpa using this
 obtain ⟨b,o,B,d,rfl,hrow,hlv⟩:=MS hv hk;have hq:=hrow 1 _ rfl
 have he:Ai l k=cu [mo (fun k=>(l[k]?.map eD.id).getD 0) k,cK l[k].levels]:=by unfold Ai;rw [List.getElem?_eq_getElem hk];rfl
 refine eN [(0,_),(1,_)] Tryz.func89 rfl Tryz.ntmps89 rfl rfl hG ?_;intro a H;refine kP H (SR fun _ K1=>Ra rfl (Kz K1 (SQ fun _ K2=>?_)));clear H K1;intro a H;have H:=H.sub (T':=[(0,_),(1,_)]) ⟨rfl,rfl,trivial⟩;refine dz (hmx) [[],[],[0,1],[],[],[3,4],[3,4,5],[3,4,5,6],(List.range 8),(List.range 9),(List.range 10),(List.range 11)] [9,10,11] (by kernel_rfl) (by kernel_rfl) (fun (aC:Nat) (v:Value) (G:GH)=>match aC with|0=>v=vi k|1=>v=.func (.func 90) #[] #[.pointer (some ⟨bl,0,none⟩)]|2=>v=vi (mo (fun k=>(l[k]?.map eD.id).getD 0) k)|3=>v=.slice (some ⟨b,o,none⟩) l.length c|4=>v=vi k|5=>v=.pointer (some ⟨b,o+k*2,none⟩)|6=>v=.pointer (some ⟨b,o+k*2+1,none⟩)|7=>v=.slice B l[k].levels.length d|8=>v=vi (cK l[k].levels)|_=>True) (fun _ _ _ _ _ h=>h) H ?_ ?_
 ·clear H;refine av (Z0 rfl (Rm rfl)) ?_ ?_ (X0 rfl fun hG=>Rg CJ rfl (aD hG hb)) (av (Z0 rfl (Rm rfl)) (Z2 3 7 4 8 rfl (Ri CQ Cx rfl rfl)) (Z1 5 9 rfl (Rf ZW rfl)) (X1 6 10 rfl fun hG=>Rg aeW rfl (aD hG hq)) (av ?_ (aT rfl) (aT rfl) (aT rfl) dh))
  ·refine wJ rfl fun _ a w G1 hG HT H fin=>?_;refine lT H wn rfl rfl ?_;clear H;intro a H;exact fin H iJ rfl
  ·refine dK 0 4 1 5 rfl rfl fun _ a w G1 hG HT H fin=>?_;refine s_call J9 H wn rfl (MK _ _ H.hp.ro k _ _ (by omega) (fun i hi=>(hcb.mono hG) i (by omega))) rfl ?_;clear H;rintro v6 G6 a w rfl jd H;exact fin H jd (rfl)
  refine dS 7 11 rfl rfl fun _ a w G1 hG HT H fin=>?_;refine s_call Zu H wn rfl (WX _ _ H.hp.ro _ _ (hlv.mono hG) (ht _ (List.getElem_mem hk))) rfl ?_;clear H;rintro v12 zx a w rfl nK H;exact fin H nK (rfl)
 clear H;intro a w G kZ H hv;have H:=H.aM (hv 2 6 rfl rfl) rfl;have H:=H.aM (hv 8 12 rfl rfl) rfl;clear hv;refine fM lU dQ [_,_] [_,_] H wn rfl rfl rfl rfl rfl (by intro i q h;match i,h with|0,h=>exact h|1,h=>exact h|n+2,h=>simp at h) rfl rfl ?_;clear H;intro b13 a w Ei H;obtain ⟨vg,nY,aaP,H⟩:=H.dB;refine s_call mR H wn rfl (mU _ _ H.hp.ro _ _ (tu aaP)) rfl ?_;clear H;rintro v14 _ a w ⟨rfl,rfl⟩ - H;refine kH H (Ra rfl ?_);clear H;intro a H;refine au ⟨rfl,?_⟩;refine K2 _ _ ?_;clear K2;refine lr H Tryz.results89 rfl ?_;exact H.hp.ret (by rw [he])
def Dz (l:List eD):Int:=cu [bJ (decide (64 < (l.length:Int))) 9,jr (Ai l) (min l.length 64)]
theorem oL.le {fv:Value} {G:GH} {n m:Nat} {E:Nat→Int} (h:oL fv G n E) (hm:m≤n):oL fv G m E:=fun i hi=>h i (by omega)
theorem WY (G:GH) (w0:World) (hG:Hold G w0) (l:List eD) (v:Value) (hv:ah G (.sl 2 (l.map eD.dat)) v) (hl:l.length≤4294967296) (ht:∀ x∈l,∀ y∈x.levels,y.uS.size < 4611686018427387904) :
  Calls Tryz.prog 60 #[v] w0 (aU w0 G fun u G'=>u=vi (Dz l)):=by
 obtain ⟨A,c,rfl,hc1,hc2,-⟩:=hv.slice;rw [List.length_map] at *;refine eN [(0,_)] Tryz.func60 rfl Tryz.ntmps60 rfl rfl hG ?_;intro a H;refine aY (fun _ K1=>?_);refine bY (cs:=[_]) H wn rfl rfl rfl ?_;clear H;intro b1 a w hb1 H;refine kH H (Ra rfl (Kz K1 (SQ fun _ K2=>?_)));clear H K1;intro a H;have H:=H.sub (T':=[(1,_)]) ⟨rfl,trivial⟩;obtain ⟨Ga,hma,hb1',H⟩:=H.dB
 have hbl:aB Ga b1 0=some (.slice A l.length c):=by unfold aB;rw [hb1'];rfl
 have hcb:=acy hbl (hv.mono hma) hl ht;refine dz (hmx) [[],[0],[0,1],[0,1,2],[],[4],[4,5],[],(List.range 8),(List.range 9),(List.range 10),(List.range 11)] [9,10,11] (by kernel_rfl) (by kernel_rfl) (fun (aC:Nat) (v:Value) (G:GH)=>match aC with|0=>v=.slice A l.length c|1=>v=vi l.length|2=>v=.bool (decide (64 < (l.length:Int)))|3=>v=vi (bJ (decide (64 < (l.length:Int))) 9)|4=>v=.slice A l.length c|5=>v=vi l.length|6=>v=vi ((min l.length 64:Nat):Int)|7=>v=.func (.func 89) #[] #[.pointer (some ⟨b1,0,none⟩)]|8=>v=vi (jr (Ai l) (min l.length 64))|_=>True) (fun _ _ _ _ _ h=>h) H ?_ ?_
 ·clear H;refine av (X0 rfl fun hG=>Rg CJ rfl (aD hG hbl)) (Z1 0 3 rfl (Rl CQ rfl)) (Z1 1 4 rfl (Rc rfl)) ?_ (av (X0 rfl fun hG=>Rg CJ rfl (aD hG hbl)) (Z1 4 7 rfl (Rl CQ rfl)) ?_ ?_ (av ?_ (aT rfl) (aT rfl) (aT rfl) dh))
  ·refine dS 2 5 rfl rfl fun _ a w G1 hG HT H fin=>?_;refine s_call gX H wn rfl (iy _ _ H.hp.ro _ 9) rfl ?_;clear H;rintro v6 G6 a w ⟨rfl,-⟩ jd H;exact fin H jd (rfl)
  ·refine dS 5 8 rfl rfl fun _ a w G1 hG HT H fin=>?_;refine IB H wn rfl rfl rfl ?_;clear H;intro a H;exact fin H iJ (congrArg vi (by omega))
  ·refine wJ rfl fun _ a w G1 hG HT H fin=>?_;refine lT H wn rfl rfl ?_;clear H;intro a H;exact fin H iJ rfl
  refine dK 6 9 7 10 rfl rfl fun _ a w G1 hG HT H fin=>?_;refine s_call Bp H wn rfl (Du _ _ H.hp.ro (min l.length 64) (Ai l) _ (by omega) ((hcb.mono hG).le (Nat.min_le_left _ _))) rfl ?_;clear H;rintro v11 qj a w rfl pR H;exact fin H pR (rfl)
 clear H;intro a w G kZ H hv;have H:=H.aM (hv 3 6 rfl rfl) rfl;have H:=H.aM (hv 8 11 rfl rfl) rfl;clear hv;refine fM lU dQ [_,_] [_,_] H wn rfl rfl rfl rfl rfl (by intro i q h;match i,h with|0,h=>exact h|1,h=>exact h|n+2,h=>simp at h) rfl rfl ?_;clear H;intro b12 a w BL H;obtain ⟨zx,Ep,zY,H⟩:=H.dB;refine s_call mR H wn rfl (mU _ _ H.hp.ro _ _ (tu zY)) rfl ?_;clear H;rintro v13 _ a w ⟨rfl,rfl⟩ - H;refine kH H (Ra rfl ?_);clear H;intro a H;refine au ⟨rfl,?_⟩;refine K2 _ _ ?_;clear K2;refine lr H Tryz.results60 rfl ?_;exact H.hp.ret rfl
end
end Go.Proofs.YthichnnlceeofaaGreat
