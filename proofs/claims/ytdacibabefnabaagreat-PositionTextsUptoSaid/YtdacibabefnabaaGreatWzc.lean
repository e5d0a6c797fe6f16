/-
  What the claim stands on, part 3: Prq Prc Fst Nam Pn De Dj Mp Dk Dw Lsc Dm Dl Lfl Dv Lpc Scn By Lps Lcl Dst Sty Mk.
-/
import Derived.Test.YtdacibabefnabaaGreatWzb
import Derived.MapKept
import Derived.Lib.ConvBytes
import Derived.Laws.MakeOwn
namespace Go.Proofs.YtdacibabefnabaaGreat
open Go.Proofs.Tryz
section
open Go.RowKit
theorem aaF:∀ args w,(callFunc 177 args).run prog w=.ok (.enter 177 args) w:=enters func177 rfl (by kernel_rfl)
theorem aaG:∀ args w,(callFunc 178 args).run prog w=.ok (.enter 178 args) w:=enters func178 rfl (by kernel_rfl)
theorem nM:prog.underlying 61=some (.slice 3):=by kernel_rfl
theorem aaJ:∀ args w,(callFunc 181 args).run prog w=.ok (.enter 181 args) w:=enters func181 rfl (by kernel_rfl)
theorem R3:∀ args w,(callFunc 142 args).run prog w=.ok (.enter 142 args) w:=enters func142 rfl (by kernel_rfl)
theorem aaj:∀ args w,(callFunc 144 args).run prog w=.ok (.enter 144 args) w:=enters func144 rfl (by kernel_rfl)
theorem abX:bV prog 229 1 1:=⟨by kernel_rfl⟩
theorem aai:∀ args w,(callFunc 143 args).run prog w=.ok (.enter 143 args) w:=enters func143 rfl (by kernel_rfl)
theorem abY:bV prog 229 2 2:=⟨by kernel_rfl⟩
theorem abZ:bV prog 229 3 3:=⟨by kernel_rfl⟩
def kz:iX:=⟨0,0,0,0,0,⟨#[]⟩⟩
def Cu:List Int:=Cv.map iX.num
def kW (k:Int):iX × Bool:=if AA Cu k=true then (Cv.getD (xw Cu k) kz,true) else (kz,false)
theorem find_spec (G:GH) (w0:World) (hG:Hold G w0) (k:Int):Calls prog 142 #[vi k] w0 (aZ w0 G fun u G'=>u=.tuple #[.agg (kW k).1.cells.toArray,.bool (kW k).2]):=by
 refine eN [(0,_)] func142 rfl ntmps142 rfl rfl hG ?_;intro a H;refine bK (fun _ K1=>?_);refine dx ru H wn rfl ?_;clear H;intro b2 a w hb2 H;refine kH H (ak K1 rfl (SR fun _ K2=>?_));clear H K1;intro a H;refine s_call aaF H wn rfl (aeO _ _ H.ro) rfl ?_;clear H;rintro v7 G7 a w hv7 xO H;obtain ⟨A,c,rfl,hc1,hc2,-⟩:=hv7.slice;rw [bW] at *;refine kH H (ak K2 rfl (SR fun _ K3=>Rm rfl (Rm rfl ?_)));clear H K2;intro a H;refine s_call aaG H wn rfl (X7 _ _ H.ro Cv k _ hv7 (by decide)) rfl ?_;clear H;rintro v11 sF a w rfl zl H;have hv7:=hv7.mono zl;have hkn:Cv.map iX.num=Cu:=rfl;rw [hkn] at H;obtain ⟨n,hn⟩:∃ n,n=xw Cu k:=⟨_,rfl⟩;obtain ⟨q,hq⟩:∃ q,q=AA Cu k:=⟨_,rfl⟩;rw [← hn,← hq] at H;refine kH H (Rm rfl ?_);clear H;intro a H;(iterate 2 refine jy H wn rfl rfl rfl ?_;clear H;intro a H);refine kH H (Ra rfl (ak K3 rfl (SQ fun _ K4=>SR fun _ K5=>Rm rfl (Rn rfl (Kz K5 (Cd rfl ?_ ?_)))))) <;> clear H K3 K5
 ·intro jX a H
  refine bK (fun _ K6=>?_);refine jw VG [_,_,_,_,_,_] H wn rfl rfl rfl rfl ?_;clear H;intro a H;refine aX ru 0 (vs:=[_,_,_,_,_,_]) _ H wn rfl rfl rfl rfl rfl rfl rfl rfl ?_;clear H;intro w H;dsimp only [List.set,setRow] at H;refine kH H (ak K6 rfl ?_);clear H K6;intro a H;refine bF ?_;refine (dL H results142 (.cons (wM ru (cs:=[_,_,_,_,_,_]) H rfl rfl (H.hp.bT 0 rfl rfl)) (.cons (aN H rfl) .nil)) ?_).1;exact H.rt (by rw [kW,ah (by rw [← hq];simpa using jX)];rfl)
 intro jX a H
 try have oP:=dF jX
 have hlt:n < Cv.length:=by have:=ada (ks:=Cu) (t:=k) (by rw [← hq];simpa using jX);rw [← hn] at this;simpa [Cu] using this
 obtain ⟨b,o,rfl,hrow⟩:=OD hv7 hlt;refine kP H (Kc K4 (SR fun _ K7=>Rm rfl (Rm rfl (Ri H6 ru rfl rfl ?_))));clear H K4;intro a H;refine aW ru (cs:=[_,_,_,_,_,_]) H wn rfl rfl (fun j v hj=>H.hp.aI (hrow j v hj)) rfl ?_;clear H;intro a H;refine aX ru 0 (vs:=[_,_,_,_,_,_]) _ H wn rfl rfl rfl rfl rfl rfl rfl rfl ?_;clear H;intro w H;dsimp only [List.set,setRow] at H;refine kH H (ak K7 rfl ?_);clear H K7;intro a H;refine bF ?_;refine (dL H results142 (.cons (wM ru (cs:=[_,_,_,_,_,_]) H rfl rfl (H.hp.bT 0 rfl rfl)) (.cons (aN H rfl) .nil)) ?_).1;exact H.rt (by rw [kW,au (by rw [← hq];simpa using jX),← hn,List.getD_eq_getElem?_getD,gy hlt];rfl)
def dh (e:Int):List Int:=if e=1∨e=4∨e=5∨e=6 then [1] else if e=2 then [1,2] else if e=3 then [3] else if e=7 then [6] else if e=9 then [4] else if e=10 then [5] else []
theorem eD (G:GH) (A:List Int):gJ G 1 (A.map fun k=>[li k]) (A.map vi):=by
 refine ⟨A.map fun k=>[vi k],?_,by simp,fun j r cs hr hc=>?_⟩
 ·induction A with
  | nil=>rfl
  | cons a A ih=>simpa using ih
 rw [mM] at hr hc
 cases h:A[j]? with
 | none=>rw [h] at hr;cases hr
 | some x =>
  rw [h] at hr hc
  cases hr;cases hc
  exact ⟨by simp only [aS];exact ⟨_,_,rfl,by simp [av,Value.oneCell'],rfl⟩,rfl⟩
theorem acJ (G:GH) (w0:World) (hG:Hold G w0) (e:Int):Calls prog 144 #[vi e] w0 (aZ w0 G fun u G'=>av G' (.sl 1 ((dh e).map fun k=>[li k])) u):=by
  refine eN [(0,_)] func144 rfl ntmps144 rfl rfl hG ?_;intro a H;refine kP H (SR fun _ K1=>ak K1 rfl (SQ fun _ K2=>SR fun _ K3=>Rm rfl (Kz K3 (SB (SQ fun _ K4=>SR fun _ K5=>Rc rfl (ak K5 rfl (Cd rfl ?_ ?_))))))) <;> clear H K1 K3 K5
  · intro h4 a H
    try have p4:=dT h4
    refine kP H (Kc K4 (Ct rfl h4 (SR fun _ K6=>?_)));clear H K4;intro a H;refine ig nM aC [_] [_] H wn rfl rfl rfl rfl rfl (by intro i q h;match i,h with|0,h=>exact h|n+1,h=>simp at h) rfl rfl ?_;clear H;intro b9 a w um H;refine kH H (ak K6 rfl ?_);clear H K6;intro a H;refine lr H results144 rfl ?_
    first
      | exact H.rt (by rw [dh,ah (by omega),ah (by omega),ah (by omega),ah (by omega),ah (by omega),ah (by omega)];exact av.iQ rfl (by decide))
      | (obtain ⟨Gz,hmz,hbz,H⟩:=H.dQ
         first
           | exact H.rt (by rw [dh,au (by omega)];exact av.dS (n:=1) (cap:=1) hbz rfl (bP _) (show 1≤maxLen by decide) rfl (eD _ [1]))
           | exact H.rt (by rw [dh,ah (by omega),au (by omega)];exact av.dS (n:=2) (cap:=2) hbz rfl (bP _) (show 2≤maxLen by decide) rfl (eD _ [1,2]))
           | exact H.rt (by rw [dh,ah (by omega),ah (by omega),au (by omega)];exact av.dS (n:=1) (cap:=1) hbz rfl (bP _) (show 1≤maxLen by decide) rfl (eD _ [3]))
           | exact H.rt (by rw [dh,ah (by omega),ah (by omega),ah (by omega),au (by omega)];exact av.dS (n:=1) (cap:=1) hbz rfl (bP _) (show 1≤maxLen by decide) rfl (eD _ [6]))
           | exact H.rt (by rw [dh,ah (by omega),ah (by omega),ah (by omega),ah (by omega),au (by omega)];exact av.dS (n:=1) (cap:=1) hbz rfl (bP _) (show 1≤maxLen by decide) rfl (eD _ [4]))
           | exact H.rt (by rw [dh,ah (by omega),ah (by omega),ah (by omega),ah (by omega),ah (by omega),au (by omega)];exact av.dS (n:=1) (cap:=1) hbz rfl (bP _) (show 1≤maxLen by decide) rfl (eD _ [5])))
  intro h4 a H
  try have p4:=dF h4
  refine kP H (SR fun _ K7=>Rc rfl (ak K7 rfl (Cd rfl ?_ ?_))) <;> clear H K7
  · intro h4 a H
    try have p4:=dT h4
    refine kP H (Kc K4 (Ct rfl h4 (SR fun _ K8=>?_)));clear H K4;intro a H;refine ig nM aC [_] [_] H wn rfl rfl rfl rfl rfl (by intro i q h;match i,h with|0,h=>exact h|n+1,h=>simp at h) rfl rfl ?_;clear H;intro b9 a w um H;refine kH H (ak K8 rfl ?_);clear H K8;intro a H;refine lr H results144 rfl ?_
    first
      | exact H.rt (by rw [dh,ah (by omega),ah (by omega),ah (by omega),ah (by omega),ah (by omega),ah (by omega)];exact av.iQ rfl (by decide))
      | (obtain ⟨Gz,hmz,hbz,H⟩:=H.dQ
         first
           | exact H.rt (by rw [dh,au (by omega)];exact av.dS (n:=1) (cap:=1) hbz rfl (bP _) (show 1≤maxLen by decide) rfl (eD _ [1]))
           | exact H.rt (by rw [dh,ah (by omega),au (by omega)];exact av.dS (n:=2) (cap:=2) hbz rfl (bP _) (show 2≤maxLen by decide) rfl (eD _ [1,2]))
           | exact H.rt (by rw [dh,ah (by omega),ah (by omega),au (by omega)];exact av.dS (n:=1) (cap:=1) hbz rfl (bP _) (show 1≤maxLen by decide) rfl (eD _ [3]))
           | exact H.rt (by rw [dh,ah (by omega),ah (by omega),ah (by omega),au (by omega)];exact av.dS (n:=1) (cap:=1) hbz rfl (bP _) (show 1≤maxLen by decide) rfl (eD _ [6]))
           | exact H.rt (by rw [dh,ah (by omega),ah (by omega),ah (by omega),ah (by omega),au (by omega)];exact av.dS (n:=1) (cap:=1) hbz rfl (bP _) (show 1≤maxLen by decide) rfl (eD _ [4]))
           | exact H.rt (by rw [dh,ah (by omega),ah (by omega),ah (by omega),ah (by omega),ah (by omega),au (by omega)];exact av.dS (n:=1) (cap:=1) hbz rfl (bP _) (show 1≤maxLen by decide) rfl (eD _ [5])))
  intro h4 a H
  try have p4:=dF h4
  refine kP H (SR fun _ K9=>Rc rfl (ak K9 rfl (Cd rfl ?_ ?_))) <;> clear H K9
  · intro h4 a H
    try have p4:=dT h4
    refine kP H (Kc K4 (Ct rfl h4 (SR fun _ aQ=>?_)));clear H K4;intro a H;refine ig nM aC [_] [_] H wn rfl rfl rfl rfl rfl (by intro i q h;match i,h with|0,h=>exact h|n+1,h=>simp at h) rfl rfl ?_;clear H;intro b9 a w um H;refine kH H (ak aQ rfl ?_);clear H aQ;intro a H;refine lr H results144 rfl ?_
    first
      | exact H.rt (by rw [dh,ah (by omega),ah (by omega),ah (by omega),ah (by omega),ah (by omega),ah (by omega)];exact av.iQ rfl (by decide))
      | (obtain ⟨Gz,hmz,hbz,H⟩:=H.dQ
         first
           | exact H.rt (by rw [dh,au (by omega)];exact av.dS (n:=1) (cap:=1) hbz rfl (bP _) (show 1≤maxLen by decide) rfl (eD _ [1]))
           | exact H.rt (by rw [dh,ah (by omega),au (by omega)];exact av.dS (n:=2) (cap:=2) hbz rfl (bP _) (show 2≤maxLen by decide) rfl (eD _ [1,2]))
           | exact H.rt (by rw [dh,ah (by omega),ah (by omega),au (by omega)];exact av.dS (n:=1) (cap:=1) hbz rfl (bP _) (show 1≤maxLen by decide) rfl (eD _ [3]))
           | exact H.rt (by rw [dh,ah (by omega),ah (by omega),ah (by omega),au (by omega)];exact av.dS (n:=1) (cap:=1) hbz rfl (bP _) (show 1≤maxLen by decide) rfl (eD _ [6]))
           | exact H.rt (by rw [dh,ah (by omega),ah (by omega),ah (by omega),ah (by omega),au (by omega)];exact av.dS (n:=1) (cap:=1) hbz rfl (bP _) (show 1≤maxLen by decide) rfl (eD _ [4]))
           | exact H.rt (by rw [dh,ah (by omega),ah (by omega),ah (by omega),ah (by omega),ah (by omega),au (by omega)];exact av.dS (n:=1) (cap:=1) hbz rfl (bP _) (show 1≤maxLen by decide) rfl (eD _ [5])))
  intro h4 a H
  try have p4:=dF h4
  refine kP H (SC (Rc rfl (aU K4 rfl (Cd rfl ?_ ?_)))) <;> clear H K4
  · intro h4 a H
    try have p4:=dT h4
    refine bK (fun _ bH=>?_);refine ig nM aC [_] [_] H wn rfl rfl rfl rfl rfl (by intro i q h;match i,h with|0,h=>exact h|n+1,h=>simp at h) rfl rfl ?_;clear H;intro b9 a w um H;refine kH H (ak bH rfl ?_);clear H bH;intro a H;refine lr H results144 rfl ?_
    first
      | exact H.rt (by rw [dh,ah (by omega),ah (by omega),ah (by omega),ah (by omega),ah (by omega),ah (by omega)];exact av.iQ rfl (by decide))
      | (obtain ⟨Gz,hmz,hbz,H⟩:=H.dQ
         first
           | exact H.rt (by rw [dh,au (by omega)];exact av.dS (n:=1) (cap:=1) hbz rfl (bP _) (show 1≤maxLen by decide) rfl (eD _ [1]))
           | exact H.rt (by rw [dh,ah (by omega),au (by omega)];exact av.dS (n:=2) (cap:=2) hbz rfl (bP _) (show 2≤maxLen by decide) rfl (eD _ [1,2]))
           | exact H.rt (by rw [dh,ah (by omega),ah (by omega),au (by omega)];exact av.dS (n:=1) (cap:=1) hbz rfl (bP _) (show 1≤maxLen by decide) rfl (eD _ [3]))
           | exact H.rt (by rw [dh,ah (by omega),ah (by omega),ah (by omega),au (by omega)];exact av.dS (n:=1) (cap:=1) hbz rfl (bP _) (show 1≤maxLen by decide) rfl (eD _ [6]))
           | exact H.rt (by rw [dh,ah (by omega),ah (by omega),ah (by omega),ah (by omega),au (by omega)];exact av.dS (n:=1) (cap:=1) hbz rfl (bP _) (show 1≤maxLen by decide) rfl (eD _ [4]))
           | exact H.rt (by rw [dh,ah (by omega),ah (by omega),ah (by omega),ah (by omega),ah (by omega),au (by omega)];exact av.dS (n:=1) (cap:=1) hbz rfl (bP _) (show 1≤maxLen by decide) rfl (eD _ [5])))
  intro h4 a H
  try have p4:=dF h4
  refine kP H (SR fun _ bR=>Rc rfl (ak bR rfl (Cd rfl ?_ ?_))) <;> clear H bR
  · intro h10 a H
    try have uH:=dT h10
    refine bK (fun _ bY=>?_);refine ig nM aC [_,_] [_,_] H wn rfl rfl rfl rfl rfl (by intro i q h;match i,h with|0,h=>exact h|1,h=>exact h|n+2,h=>simp at h) rfl rfl ?_;clear H;intro b12 a w Ec H;refine kH H (ak bY rfl ?_);clear H bY;intro a H;refine lr H results144 rfl ?_
    first
      | exact H.rt (by rw [dh,ah (by omega),ah (by omega),ah (by omega),ah (by omega),ah (by omega),ah (by omega)];exact av.iQ rfl (by decide))
      | (obtain ⟨Gz,hmz,hbz,H⟩:=H.dQ
         first
           | exact H.rt (by rw [dh,au (by omega)];exact av.dS (n:=1) (cap:=1) hbz rfl (bP _) (show 1≤maxLen by decide) rfl (eD _ [1]))
           | exact H.rt (by rw [dh,ah (by omega),au (by omega)];exact av.dS (n:=2) (cap:=2) hbz rfl (bP _) (show 2≤maxLen by decide) rfl (eD _ [1,2]))
           | exact H.rt (by rw [dh,ah (by omega),ah (by omega),au (by omega)];exact av.dS (n:=1) (cap:=1) hbz rfl (bP _) (show 1≤maxLen by decide) rfl (eD _ [3]))
           | exact H.rt (by rw [dh,ah (by omega),ah (by omega),ah (by omega),au (by omega)];exact av.dS (n:=1) (cap:=1) hbz rfl (bP _) (show 1≤maxLen by decide) rfl (eD _ [6]))
           | exact H.rt (by rw [dh,ah (by omega),ah (by omega),ah (by omega),ah (by omega),au (by omega)];exact av.dS (n:=1) (cap:=1) hbz rfl (bP _) (show 1≤maxLen by decide) rfl (eD _ [4]))
           | exact H.rt (by rw [dh,ah (by omega),ah (by omega),ah (by omega),ah (by omega),ah (by omega),au (by omega)];exact av.dS (n:=1) (cap:=1) hbz rfl (bP _) (show 1≤maxLen by decide) rfl (eD _ [5])))
  intro h10 a H
  try have uH:=dF h10
  refine kP H (SR fun _ bX=>Rc rfl (ak bX rfl (Cd rfl ?_ ?_))) <;> clear H bX
  · intro gB a H
    try have qE:=dT gB
    refine bK (fun _ dO=>?_);refine ig nM aC [_] [_] H wn rfl rfl rfl rfl rfl (by intro i q h;match i,h with|0,h=>exact h|n+1,h=>simp at h) rfl rfl ?_;clear H;intro b15 a w Jw H;refine kH H (ak dO rfl ?_);clear H dO;intro a H;refine lr H results144 rfl ?_
    first
      | exact H.rt (by rw [dh,ah (by omega),ah (by omega),ah (by omega),ah (by omega),ah (by omega),ah (by omega)];exact av.iQ rfl (by decide))
      | (obtain ⟨Gz,hmz,hbz,H⟩:=H.dQ
         first
           | exact H.rt (by rw [dh,au (by omega)];exact av.dS (n:=1) (cap:=1) hbz rfl (bP _) (show 1≤maxLen by decide) rfl (eD _ [1]))
           | exact H.rt (by rw [dh,ah (by omega),au (by omega)];exact av.dS (n:=2) (cap:=2) hbz rfl (bP _) (show 2≤maxLen by decide) rfl (eD _ [1,2]))
           | exact H.rt (by rw [dh,ah (by omega),ah (by omega),au (by omega)];exact av.dS (n:=1) (cap:=1) hbz rfl (bP _) (show 1≤maxLen by decide) rfl (eD _ [3]))
           | exact H.rt (by rw [dh,ah (by omega),ah (by omega),ah (by omega),au (by omega)];exact av.dS (n:=1) (cap:=1) hbz rfl (bP _) (show 1≤maxLen by decide) rfl (eD _ [6]))
           | exact H.rt (by rw [dh,ah (by omega),ah (by omega),ah (by omega),ah (by omega),au (by omega)];exact av.dS (n:=1) (cap:=1) hbz rfl (bP _) (show 1≤maxLen by decide) rfl (eD _ [4]))
           | exact H.rt (by rw [dh,ah (by omega),ah (by omega),ah (by omega),ah (by omega),ah (by omega),au (by omega)];exact av.dS (n:=1) (cap:=1) hbz rfl (bP _) (show 1≤maxLen by decide) rfl (eD _ [5])))
  intro gB a H
  try have qE:=dF gB
  refine kP H (SR fun _ dJ=>Rc rfl (ak dJ rfl (Cd rfl ?_ ?_))) <;> clear H dJ
  · intro h16 a H
    try have p16:=dT h16
    refine bK (fun _ dD=>?_);refine ig nM aC [_] [_] H wn rfl rfl rfl rfl rfl (by intro i q h;match i,h with|0,h=>exact h|n+1,h=>simp at h) rfl rfl ?_;clear H;intro b18 a w Jy H;refine kH H (ak dD rfl ?_);clear H dD;intro a H;refine lr H results144 rfl ?_
    first
      | exact H.rt (by rw [dh,ah (by omega),ah (by omega),ah (by omega),ah (by omega),ah (by omega),ah (by omega)];exact av.iQ rfl (by decide))
      | (obtain ⟨Gz,hmz,hbz,H⟩:=H.dQ
         first
           | exact H.rt (by rw [dh,au (by omega)];exact av.dS (n:=1) (cap:=1) hbz rfl (bP _) (show 1≤maxLen by decide) rfl (eD _ [1]))
           | exact H.rt (by rw [dh,ah (by omega),au (by omega)];exact av.dS (n:=2) (cap:=2) hbz rfl (bP _) (show 2≤maxLen by decide) rfl (eD _ [1,2]))
           | exact H.rt (by rw [dh,ah (by omega),ah (by omega),au (by omega)];exact av.dS (n:=1) (cap:=1) hbz rfl (bP _) (show 1≤maxLen by decide) rfl (eD _ [3]))
           | exact H.rt (by rw [dh,ah (by omega),ah (by omega),ah (by omega),au (by omega)];exact av.dS (n:=1) (cap:=1) hbz rfl (bP _) (show 1≤maxLen by decide) rfl (eD _ [6]))
           | exact H.rt (by rw [dh,ah (by omega),ah (by omega),ah (by omega),ah (by omega),au (by omega)];exact av.dS (n:=1) (cap:=1) hbz rfl (bP _) (show 1≤maxLen by decide) rfl (eD _ [4]))
           | exact H.rt (by rw [dh,ah (by omega),ah (by omega),ah (by omega),ah (by omega),ah (by omega),au (by omega)];exact av.dS (n:=1) (cap:=1) hbz rfl (bP _) (show 1≤maxLen by decide) rfl (eD _ [5])))
  intro h16 a H
  try have p16:=dF h16
  refine kP H (SR fun _ dU=>Rc rfl (ak dU rfl (Cd rfl ?_ ?_))) <;> clear H dU
  · intro h19 a H
    try have pU:=dT h19
    refine bK (fun _ fP=>?_);refine ig nM aC [_] [_] H wn rfl rfl rfl rfl rfl (by intro i q h;match i,h with|0,h=>exact h|n+1,h=>simp at h) rfl rfl ?_;clear H;intro b21 a w aiO H;refine kH H (ak fP rfl ?_);clear H fP;intro a H;refine lr H results144 rfl ?_
    first
      | exact H.rt (by rw [dh,ah (by omega),ah (by omega),ah (by omega),ah (by omega),ah (by omega),ah (by omega)];exact av.iQ rfl (by decide))
      | (obtain ⟨Gz,hmz,hbz,H⟩:=H.dQ
         first
           | exact H.rt (by rw [dh,au (by omega)];exact av.dS (n:=1) (cap:=1) hbz rfl (bP _) (show 1≤maxLen by decide) rfl (eD _ [1]))
           | exact H.rt (by rw [dh,ah (by omega),au (by omega)];exact av.dS (n:=2) (cap:=2) hbz rfl (bP _) (show 2≤maxLen by decide) rfl (eD _ [1,2]))
           | exact H.rt (by rw [dh,ah (by omega),ah (by omega),au (by omega)];exact av.dS (n:=1) (cap:=1) hbz rfl (bP _) (show 1≤maxLen by decide) rfl (eD _ [3]))
           | exact H.rt (by rw [dh,ah (by omega),ah (by omega),ah (by omega),au (by omega)];exact av.dS (n:=1) (cap:=1) hbz rfl (bP _) (show 1≤maxLen by decide) rfl (eD _ [6]))
           | exact H.rt (by rw [dh,ah (by omega),ah (by omega),ah (by omega),ah (by omega),au (by omega)];exact av.dS (n:=1) (cap:=1) hbz rfl (bP _) (show 1≤maxLen by decide) rfl (eD _ [4]))
           | exact H.rt (by rw [dh,ah (by omega),ah (by omega),ah (by omega),ah (by omega),ah (by omega),au (by omega)];exact av.dS (n:=1) (cap:=1) hbz rfl (bP _) (show 1≤maxLen by decide) rfl (eD _ [5])))
  intro h19 a H
  try have pU:=dF h19
  refine kP H (SR fun _ eG=>Rc rfl (ak eG rfl (Cd rfl ?_ ?_))) <;> clear H eG
  · intro h22 a H
    try have iL:=dT h22
    refine bK (fun _ fZ=>?_);refine ig nM aC [_] [_] H wn rfl rfl rfl rfl rfl (by intro i q h;match i,h with|0,h=>exact h|n+1,h=>simp at h) rfl rfl ?_;clear H;intro XO a w adn H;refine kH H (ak fZ rfl ?_);clear H fZ;intro a H;refine lr H results144 rfl ?_
    first
      | exact H.rt (by rw [dh,ah (by omega),ah (by omega),ah (by omega),ah (by omega),ah (by omega),ah (by omega)];exact av.iQ rfl (by decide))
      | (obtain ⟨Gz,hmz,hbz,H⟩:=H.dQ
         first
           | exact H.rt (by rw [dh,au (by omega)];exact av.dS (n:=1) (cap:=1) hbz rfl (bP _) (show 1≤maxLen by decide) rfl (eD _ [1]))
           | exact H.rt (by rw [dh,ah (by omega),au (by omega)];exact av.dS (n:=2) (cap:=2) hbz rfl (bP _) (show 2≤maxLen by decide) rfl (eD _ [1,2]))
           | exact H.rt (by rw [dh,ah (by omega),ah (by omega),au (by omega)];exact av.dS (n:=1) (cap:=1) hbz rfl (bP _) (show 1≤maxLen by decide) rfl (eD _ [3]))
           | exact H.rt (by rw [dh,ah (by omega),ah (by omega),ah (by omega),au (by omega)];exact av.dS (n:=1) (cap:=1) hbz rfl (bP _) (show 1≤maxLen by decide) rfl (eD _ [6]))
           | exact H.rt (by rw [dh,ah (by omega),ah (by omega),ah (by omega),ah (by omega),au (by omega)];exact av.dS (n:=1) (cap:=1) hbz rfl (bP _) (show 1≤maxLen by decide) rfl (eD _ [4]))
           | exact H.rt (by rw [dh,ah (by omega),ah (by omega),ah (by omega),ah (by omega),ah (by omega),au (by omega)];exact av.dS (n:=1) (cap:=1) hbz rfl (bP _) (show 1≤maxLen by decide) rfl (eD _ [5])))
  intro h22 a H
  try have iL:=dF h22
  refine kP H (Kc K2 (SR fun _ gN=>ak gN rfl ?_));clear H K2 gN;intro a H;refine lr H results144 rfl ?_
  first
    | exact H.rt (by rw [dh,ah (by omega),ah (by omega),ah (by omega),ah (by omega),ah (by omega),ah (by omega)];exact av.iQ rfl (by decide))
    | (obtain ⟨Gz,hmz,hbz,H⟩:=H.dQ
       first
         | exact H.rt (by rw [dh,au (by omega)];exact av.dS (n:=1) (cap:=1) hbz rfl (bP _) (show 1≤maxLen by decide) rfl (eD _ [1]))
         | exact H.rt (by rw [dh,ah (by omega),au (by omega)];exact av.dS (n:=2) (cap:=2) hbz rfl (bP _) (show 2≤maxLen by decide) rfl (eD _ [1,2]))
         | exact H.rt (by rw [dh,ah (by omega),ah (by omega),au (by omega)];exact av.dS (n:=1) (cap:=1) hbz rfl (bP _) (show 1≤maxLen by decide) rfl (eD _ [3]))
         | exact H.rt (by rw [dh,ah (by omega),ah (by omega),ah (by omega),au (by omega)];exact av.dS (n:=1) (cap:=1) hbz rfl (bP _) (show 1≤maxLen by decide) rfl (eD _ [6]))
         | exact H.rt (by rw [dh,ah (by omega),ah (by omega),ah (by omega),ah (by omega),au (by omega)];exact av.dS (n:=1) (cap:=1) hbz rfl (bP _) (show 1≤maxLen by decide) rfl (eD _ [4]))
         | exact H.rt (by rw [dh,ah (by omega),ah (by omega),ah (by omega),ah (by omega),ah (by omega),au (by omega)];exact av.dS (n:=1) (cap:=1) hbz rfl (bP _) (show 1≤maxLen by decide) rfl (eD _ [5])))
theorem aeG {G:GH} {l:List Int} {A:Option Addr} {n c k:Nat} (hv:av G (.sl 1 (l.map fun k=>[li k])) (.slice A n c)) (hk:k < l.length):∃ b o,A=some ⟨b,o,none⟩∧aI G b (o+k*1)=some (vi l[k]):=by
 obtain ⟨A',c',he,_,_,hg⟩:=hv.slice
 injection he with e1 e2 e3
 subst e1;obtain ⟨b,o,cs,h1,h2,h3,h4⟩:=hg k [li l[k]] (by simp [hk])
 simp only [aS,av] at h4
 obtain ⟨v1,_,rfl,⟨rfl,-⟩,rfl⟩:=h4;exact ⟨b,o,h1,h3 0 _ rfl⟩
theorem aeD (G:GH) (w0:World) (hG:Hold G w0) (l:List Int) (t:Int) (v:aj) (hv:av G (.sl 1 (l.map fun k=>[li k])) v) :
  Calls prog 181 #[v,vi t] w0 (aZ w0 G fun u G'=>u=vi (nH (l.findIdx? fun x=>decide (t=x)))):=by
 obtain ⟨A,c,rfl,hc1,hc2,-⟩:=hv.slice;have hml:maxLen=9223372036854775807:=rfl;rw [bW] at *;refine eN [(0,_),(1,_)] func181 rfl ntmps181 rfl rfl hG ?_;intro a H;refine kP H (SR fun _ K1=>ak K1 rfl (SQ fun _ K2=>SR fun _ K3=>Rm rfl (Rl nM rfl (Rm rfl (Kz K3 (SB ?_))))));clear H K1 K3;intro a H;skip;refine gq (ι:=Nat) (Tc:=[(0,_),(1,_),(7,_)]) (Lc:=[]) (fun gh=>[(8,vi gh)]) (fun gh=>[]) (fun gh=>G) (fun gh=>gh≤l.length∧(l.take gh).findIdx? (fun x=>decide (t=x))=none) (fun gh=>l.length - gh) (0) (by exact (H).sub ⟨rfl,rfl,rfl,rfl,aD⟩) ?_ ?_
 ·exact ⟨gW _,rfl⟩
 clear H;intro gh a w hI H;obtain ⟨k,hgh⟩:∃ x,x=gh:=⟨_,rfl⟩;subst hgh;obtain ⟨hk,hno⟩:=hI;dsimp only [lca,aV] at H;refine kP H (SR fun _ K4=>Rc rfl (Kz K4 (SQ fun _ K5=>Cd rfl ?_ ?_))) <;> clear H K4
 ·intro h9 a H
  try have p9:=dT h9
  have hk2:k < l.length:=by omega
  obtain ⟨b,o,rfl,hrow⟩:=aeG hv hk2;refine kP H (Kc K5 (SQ fun _ K6=>SB (SR fun _ K7=>Rm rfl (ak K7 rfl (SR fun _ K8=>Rm rfl (Rm rfl (Rm rfl (Ri nM aC rfl rfl (Rg aC rfl (by assumption) ?_)))))))));clear H K5 K7;intro a H;refine kH H (Rc rfl (Kz K8 (Cd rfl ?_ ?_))) <;> clear H K8
  ·intro h16 a H
   try have p16:=dT h16
   exact kP H (SR fun _ K9=>Rm rfl (ak K9 rfl (LR results181 rfl fun H=>H.rt (by rw [tC hk2 hno (by simpa using p16)];rfl))))
  intro h16 a H
  try have p16:=dF h16
  refine kP H (Kc K6 (SC (Rd rfl (Rm rfl ?_))));clear H K6;intro a H;refine aH ?_;refine eO ((k+1)) (by exact (H).sub ⟨rfl,rfl,rfl,rfl,aD⟩) ?_ ?_
  ·exact ⟨by omega,Bb hk2 hno (by simpa using p16)⟩
  first|omega|(dsimp only;omega)
 intro h9 a H
 try have p9:=dF h9
 refine fI ?_;refine K2 _ _ ?_;clear K2;exact kP H (SR fun _ aQ=>ak aQ rfl (LR results181 rfl fun H=>H.rt (by rw [show l.take k=l from jU (by omega)] at hno;rw [hno];rfl)))
theorem Zg (G:GH) (w0:World) (hG:Hold G w0) (l:List Int) (t:Int) (v:aj) (hv:av G (.sl 1 (l.map fun k=>[li k])) v) :
  Calls prog 143 #[v,vi t] w0 (aZ w0 G fun u G'=>u=.bool (decide (t∈l))):=by
 obtain ⟨A,c,rfl,hc1,hc2,-⟩:=hv.slice;rw [bW] at *;refine eN [(0,_),(1,_)] func143 rfl ntmps143 rfl rfl hG ?_;intro a H;refine kP H (SR fun _ K1=>ak K1 rfl (SR fun _ K2=>Rm rfl (Rm rfl ?_)));clear H K1;intro a H;refine s_call aaJ H wn rfl (aeD _ _ H.ro l t _ hv) rfl ?_;clear H;rintro v7 G7 a w rfl xO H;refine kH H (Rc rfl (ak K2 rfl ?_));clear H K2;intro a H;refine lr H results143 rfl ?_
 exact H.rt (by
  congr 1
  cases h:l.findIdx? (fun x=>decide (t=x)) with
  | none =>
   rw [List.findIdx?_eq_none_iff] at h;have:t∉l:=fun hm=>absurd (h t hm) (by simp)
   simp [nH,this]
  | some i =>
   obtain ⟨hi,he,-⟩:=List.findIdx?_eq_some_iff_getElem.1 h
   have:t∈l:=by rw [rF he];exact jT _
   simp [nH,this])
def xH (e k:Int):Bool:=(kW k).2 && decide ((kW k).1.xI∈dh e)
theorem Te (G:GH) (w0:World) (hG:Hold G w0) (e k:Int):Calls prog 81 #[vi e,vi k] w0 (aZ w0 G fun u G'=>u=.bool (xH e k)):=by
 refine eN [(0,_),(1,_)] func81 rfl ntmps81 rfl rfl hG ?_;intro a H;refine kP H (SR fun _ K1=>ak K1 rfl (SR fun _ K2=>Rm rfl ?_));clear H K1;intro a H;refine s_call R3 H wn rfl (find_spec _ _ H.ro k) rfl ?_;clear H;rintro v9 G9 a w rfl AU H;dsimp only [iX.cells] at H;refine kH H (Rm rfl ?_);clear H;intro a H;(iterate 2 refine jy H wn rfl rfl rfl ?_;clear H;intro a H);refine dx ru H wn rfl ?_;clear H;intro b5 a w hb5 H;refine aX ru 0 (vs:=[_,_,_,_,_,_]) _ H wn rfl rfl rfl rfl rfl rfl rfl rfl ?_;clear H;intro w H;dsimp only [List.set,setRow] at H;refine kH H (ak K2 rfl (SQ fun _ K3=>?_));clear H K2;intro a H
 by_cases c0:(kW k).2=true
 ·skip
  have nG:∀ (dY:Nat) (v:aj) (G G':GH),(∀ k o,G k=some o→G' k=some o)→(fun (dY:Nat) (v:aj) (G:GH)=>match dY with|0=>v=.bool (kW k).2|1=>v=.bool (decide ((kW k).2=true))|2=>v=vi e|3=>(kW k).2=true→av G (.sl 1 ((dh e).map fun k=>[li k])) v|4=>v=(aJ b5 1)|5=>v=vi (kW k).1.xI|6=>v=.bool (decide ((kW k).1.xI∈dh e))|7=>v=.bool (xH e k)|_=>True) dY v G→(fun (dY:Nat) (v:aj) (G:GH)=>match dY with|0=>v=.bool (kW k).2|1=>v=.bool (decide ((kW k).2=true))|2=>v=vi e|3=>(kW k).2=true→av G (.sl 1 ((dh e).map fun k=>[li k])) v|4=>v=(aJ b5 1)|5=>v=vi (kW k).1.xI|6=>v=.bool (decide ((kW k).1.xI∈dh e))|7=>v=.bool (xH e k)|_=>True) dY v G':=by
   intro dY v G G' hm h
   match dY,h with
   | 0,h=>exact h
   | 1,h=>exact h
   | 2,h=>exact h
   | 3,h=>exact fun hf=>(h hf).mono hm
   | 4,h=>exact h
   | 5,h=>exact h
   | 6,h=>exact h
   | 7,h=>exact h
   | 8,h=>exact trivial
   | _+9,h=>exact trivial
  refine Dx (hmx) [[],[0],[0,1],[0,1,2],[0,1],[0,1,4],(ra 0 6),(ra 0 7),(ra 0 8)] [8] (by kernel_rfl) (by kernel_rfl) (fun (dY:Nat) (v:aj) (G:GH)=>match dY with|0=>v=.bool (kW k).2|1=>v=.bool (decide ((kW k).2=true))|2=>v=vi e|3=>(kW k).2=true→av G (.sl 1 ((dh e).map fun k=>[li k])) v|4=>v=(aJ b5 1)|5=>v=vi (kW k).1.xI|6=>v=.bool (decide ((kW k).1.xI∈dh e))|7=>v=.bool (xH e k)|_=>True) nG H ?_ ?_
  ·clear H;refine aF ?_ ?_ ?_ ?_ (aF ?_ ?_ ?_ ?_ (bM (bJ rfl) dP))
   ·refine gQ [] rfl trivial (by kernel_rfl) nG rfl rfl ?_;intro dW a w G1 hG HT H fin;exact kH H (Rm rfl fun _ H=>fin H iJ rfl)
   ·refine gQ [(0,12,_)] rfl ⟨fun _ _ h=>h,aD⟩ (by kernel_rfl) nG rfl rfl ?_;intro dW a w G1 hG HT H fin;refine kH H (Rm rfl ?_);clear H;intro a H;exact fin H iJ (by simp)
   ·refine gQ [(1,13,_)] rfl ⟨fun _ _ h=>h,aD⟩ (by kernel_rfl) nG rfl rfl ?_;intro dW a w G1 hG HT H fin;exact kH H (YM (aG c0) rfl fun _ H=>fin H iJ rfl)
   ·refine gQ [(2,14,_),(1,13,_)] rfl ⟨fun _ _ h=>h,fun _ _ h=>h,aD⟩ (by kernel_rfl) nG rfl rfl ?_;intro dW a w G1 hG HT H fin;refine s_call aaj H (wg H rfl rfl (aG c0)) rfl (acJ _ _ H.ro e) rfl ?_;clear H;rintro v15 Bw a w A9 Cc H;exact fin H Cc (by first|exact fun _=>A9|rfl)
   ·refine gQ [(1,13,_)] rfl ⟨fun _ _ h=>h,aD⟩ (by kernel_rfl) nG rfl rfl ?_;intro dW a w G1 hG HT H fin;exact kH H (YF abX (aG c0) rfl fun _ H=>fin H iJ rfl)
   ·refine gQ [(4,16,_),(1,13,_)] rfl ⟨fun _ _ h=>h,fun _ _ h=>h,aD⟩ (by kernel_rfl) nG rfl rfl ?_;intro dW a w G1 hG HT H fin;exact kH H (YO aC 0 (aG c0) rfl fun _ H=>fin H iJ rfl)
   ·intro dW a w G1 _ dw hc hG HT hv;have H:=HT;clear dw;obtain ⟨u15,aeo,A9⟩:=hv 3 15 (hc 3 (by decide)) rfl;(try dsimp only at A9);have H:=H.sJ aeo;have H:=H.aT (hv 5 17 (hc 5 (by decide)) rfl) rfl;have H:=H.aT (hv 1 13 (hc 1 (by decide)) rfl) rfl;have Hb:=H.full;have H:=Hb;clear hc;refine s_call aai H (wg H rfl rfl (aG c0)) rfl (Zg _ _ H.ro _ _ _ (A9 c0)) rfl ?_;clear H;rintro v18 KQ a w rfl acL H;refine aH ⟨rfl,?_⟩;exact lT (by kernel_rfl) nG rfl rfl HT Hb hG hv acL (rfl) H
   refine gQ [(1,13,_),(6,18,_)] rfl ⟨fun _ _ h=>h,fun _ _ h=>h,aD⟩ (by kernel_rfl) nG rfl rfl ?_;intro dW a w G1 hG HT H fin;refine kH H (Pt (aG c0) rfl ?_);clear H;intro a H;exact fin H iJ (by unfold xH;simp_all)
  clear H;intro a w G yY H hv;have H:=H.aT (hv 7 19 rfl rfl) rfl;clear hv;refine kH H (Ra rfl ?_);clear H;intro a H;refine aH ⟨rfl,?_⟩;refine K3 _ _ ?_;clear K3;refine lr H results81 rfl ?_;exact H.rt rfl
 skip;refine dI hmx [[],[0],[0,1],[0,1,2],[0,1],[0,1,4],(ra 0 6),(ra 0 7),(ra 0 8)] [8] (by kernel_rfl) [_,.bool (decide ((kW k).2=true)),undef,undef,undef,undef,undef,.bool (xH e k)] H (aF (Z0 rfl (Rm rfl)) ?_ (bq (j:=1) (by kernel_rfl) (fun _ _ _ _ _ h=>h) rfl rfl rfl rfl rfl (fun _ _ h=>bD h (aM (aR c0))) rfl (fun _=>rfl)) ?_ (aF (bq (j:=1) (by kernel_rfl) (fun _ _ _ _ _ h=>h) rfl rfl rfl rfl rfl (fun _ _ h=>bD h (aM (aR c0))) rfl (fun _=>rfl)) (bq (j:=1) (by kernel_rfl) (fun _ _ _ _ _ h=>h) rfl rfl rfl rfl rfl (fun _ _ h=>bD h (aM (aR c0))) rfl (fun _=>rfl)) (bq (j:=1) (by kernel_rfl) (fun _ _ _ _ _ h=>h) rfl rfl rfl rfl rfl (fun _ _ h=>bD h (aM (aR c0))) rfl (fun _=>rfl)) ?_ (bM (bJ rfl) dP))) ?_
 ·refine eH 0 12 rfl rfl fun _ a w G1 hG HT H fin=>?_;refine kH H (Rm rfl ?_);clear H;intro a H;exact fin H iJ (by show _=_;simp)
 ·intro dW a w G1 _ dw hc hG HT hv;have H:=HT;clear dw;have H:=H.aT (hv 2 14 (hc 2 (by decide)) rfl) rfl;have H:=H.aT (hv 1 13 (hc 1 (by decide)) rfl) rfl;have Hb:=H.full;have H:=Hb;clear hc;refine kH H (Ks (aR c0) rfl ?_);clear H;intro a H;refine aH ⟨rfl,?_⟩;exact lT (by kernel_rfl) (fun _ _ _ _ _ h=>h) rfl rfl HT Hb hG hv (fun _ _ h=>h) (by first|exact fun _=>A9|rfl) H
 ·refine eB 1 13 6 18 rfl rfl fun _ a w G1 hG HT H fin=>?_;refine kH H (Pf (aR c0) rfl ?_);clear H;intro a H;exact fin H iJ (by show _=_;unfold xH;simp_all)
 clear H;intro a w G yY H hv;have H:=H.aT (hv 7 19 rfl rfl) rfl;clear hv;refine kH H (Ra rfl ?_);clear H;intro a H;refine aH ⟨rfl,?_⟩;refine K3 _ _ ?_;clear K3;refine lr H results81 rfl ?_;exact H.rt rfl
def sQ (k v:Int):Int:=if (kW k).2=false then 4 else if v < (kW k).1.low∨(kW k).1.high < v then 5 else 0
theorem LV (G:GH) (w0:World) (hG:Hold G w0) (k x:Int):Calls prog 82 #[vi k,vi x] w0 (aZ w0 G fun u G'=>u=vi (sQ k x)):=by
 refine eN [(0,_),(1,_)] func82 rfl ntmps82 rfl rfl hG ?_;intro a H;refine kP H (SR fun _ K1=>ak K1 rfl (SR fun _ K2=>Rm rfl ?_));clear H K1;intro a H;refine s_call R3 H wn rfl (find_spec _ _ H.ro k) rfl ?_;clear H;rintro v9 G9 a w rfl AU H;dsimp only [iX.cells] at H;refine kH H (Rm rfl ?_);clear H;intro a H;(iterate 2 refine jy H wn rfl rfl rfl ?_;clear H;intro a H);refine dx ru H wn rfl ?_;clear H;intro b5 a w hb5 H;refine aX ru 0 (vs:=[_,_,_,_,_,_]) _ H wn rfl rfl rfl rfl rfl rfl rfl rfl ?_;clear H;intro w H;dsimp only [List.set,setRow] at H;refine kH H (ak K2 rfl (SQ fun _ K3=>SB (SR fun _ K4=>Rm rfl (Rn rfl (ak K4 rfl (Cd rfl ?_ ?_)))))) <;> clear H K2 K4
 ·intro h12 a H
  try have qD:=dT h12
  exact kP H (SR fun _ K5=>ak K5 rfl (LR results82 rfl fun H=>H.rt (by unfold sQ;simp_all)))
 intro h12 a H
 try have qD:=dF h12
 refine kP H (SR fun _ K6=>Rm rfl (aO abY aC 0 rfl rfl (Rc rfl (Rm rfl (Sp 20 rfl ?_ ?_))))) <;> clear H
 ·intro h20 a H
  try have vC:=dT h20
  exact kH H (bO h20 rfl (bO h20 rfl (Pt h20 rfl (ak K6 rfl (Ct rfl rfl (SR fun _ K7=>ak K7 rfl (LR results82 rfl fun H=>H.rt (by unfold sQ;simp_all))))))))
 intro h20 a H
 try have vC:=dF h20
 refine kH H (YM h20 rfl (YF abZ h20 rfl (YO aC 0 h20 rfl (YC h20 rfl (Pf h20 rfl (ak K6 rfl (Cd rfl ?_ ?_))))))) <;> clear H K6
 ·intro jX a H
  try have oP:=dT jX
  exact kP H (SR fun _ K8=>ak K8 rfl (LR results82 rfl fun H=>H.rt (by unfold sQ;simp_all)))
 intro jX a H
 try have oP:=dF jX
 exact kP H (Kc K3 (SR fun _ K9=>ak K9 rfl (LR results82 rfl fun H=>H.rt (by unfold sQ;simp_all))))
end
section
open Go.RowKit
theorem tZ:bV prog 166 0 0:=⟨by kernel_rfl⟩
theorem Sk:∀ args w,(callFunc 81 args).run prog w=.ok (.enter 81 args) w:=enters func81 rfl (by kernel_rfl)
theorem SF:bV prog 166 1 1:=⟨by kernel_rfl⟩
theorem MF:∀ args w,(callFunc 82 args).run prog w=.ok (.enter 82 args) w:=enters func82 rfl (by kernel_rfl)
def Es (q:Option Int) (k:Int):Bool:=match q with|some j=>decide (k < j)|none=>false
def yJ (e:Int):Option Int→List jq→Int
 | _,[]=>0
 | q,p :: r=>if xH e p.key=false then 4 else if q=some p.key then 7 else if Es q p.key=true then 6 else if sQ p.key p.value=0 then yJ e (some p.key) r else sQ p.key p.value
def wL (l:List jq) (k:Nat):Option Int:=if k=0 then none else l[k - 1]?.map jq.key
def gL (e:Int) (l:List jq):Int:=if e < 1∨10 < e then 3 else yJ e none l
theorem YT {e:Int} {l:List jq} {k:Nat} (h:k < l.length):yJ e (wL l k) (l.drop k)=if xH e l[k].key=false then 4 else if wL l k=some l[k].key then 7 else if Es (wL l k) l[k].key=true then 6 else if sQ l[k].key l[k].value=0 then yJ e (wL l (k+1)) (l.drop (k+1)) else sQ l[k].key l[k].value:=by
 rw [lu h,yJ]
 have:wL l (k+1)=some l[k].key:=by rw [wL,ah (by omega),Nat.add_sub_cancel,gy h];rfl
 rw [this]
theorem J4 {l:List jq} {k:Nat} (h:k=0):wL l k=none:=au h
theorem U5 (G:GH) (w0:World) (hG:Hold G w0) (e:Int) (l:List jq) (v:aj) (hv:av G (.sl 2 (l.map jq.dat)) v) :
  Calls prog 78 #[vi e,v] w0 (aZ w0 G fun u G'=>u=vi (gL e l)):=by
 obtain ⟨A,c,rfl,hc1,hc2,-⟩:=hv.slice;have hml:maxLen=9223372036854775807:=rfl;rw [bW] at *;refine eN [(0,_),(1,_)] func78 rfl ntmps78 rfl rfl hG ?_;intro a H;refine kP H (SR fun _ K1=>ak K1 rfl (SQ fun _ K2=>SR fun _ K3=>Rm rfl (Rc rfl (Rm rfl (Sp 10 rfl ?_ ?_))))) <;> clear H K1
 ·intro h10 a H
  try have uH:=dT h10
  refine kH H (bO h10 rfl (Pt h10 rfl (Kz K3 (Ct rfl rfl (SR fun _ K4=>ak K4 rfl ?_)))));clear H K3 K4;intro a H;refine lr H results78 rfl ?_
  first
   | exact H.rt (ay vi (by rw [ah (by simpa using p61)] at heq;rw [gL,ah (by omega)];exact heq))
   | exact H.rt (ay vi (by rw [au (by simpa using h21)] at heq;rw [gL,ah (by omega)];exact heq))
   | exact H.rt (ay vi (by rw [gL,ah (by omega)];exact heq))
   | exact H.rt (ay vi (by rw [gL,ah (by omega),← heq,show l.drop k=[] from gK (by omega)];rfl))
   | exact H.rt (ay vi (by rw [gL,au (by omega)]))
 intro h10 a H
 try have uH:=dF h10
 refine kH H (YM h10 rfl (YC h10 rfl (Pf h10 rfl (Kz K3 (Cd rfl ?_ ?_))))) <;> clear H K3
 ·intro gB a H
  try have qE:=dT gB
  refine kP H (SR fun _ K5=>ak K5 rfl ?_);clear H K5;intro a H;refine lr H results78 rfl ?_
  first
   | exact H.rt (ay vi (by rw [ah (by simpa using p61)] at heq;rw [gL,ah (by omega)];exact heq))
   | exact H.rt (ay vi (by rw [au (by simpa using h21)] at heq;rw [gL,ah (by omega)];exact heq))
   | exact H.rt (ay vi (by rw [gL,ah (by omega)];exact heq))
   | exact H.rt (ay vi (by rw [gL,ah (by omega),← heq,show l.drop k=[] from gK (by omega)];rfl))
   | exact H.rt (ay vi (by rw [gL,au (by omega)]))
 intro gB a H
 try have qE:=dF gB
 refine kP H (Kc K2 (SQ fun _ K6=>SR fun _ K7=>Rm rfl (Rl tO rfl (Rm rfl (Kz K7 (SB ?_))))));clear H K2 K7;intro a H;skip;refine gq (ι:=Nat × GH) (Tc:=[(0,_),(1,_),(14,_),(15,_)]) (Lc:=[]) (fun gh=>[(16,vi gh.1)]) (fun gh=>[]) (fun gh=>gh.2) (fun gh=>gh.1≤l.length∧yJ e (wL l gh.1) (l.drop gh.1)=yJ e none l∧(∀ b o,G b=some o→gh.2 b=some o)) (fun gh=>l.length - gh.1) ((0,G)) (by exact (H).sub ⟨rfl,rfl,rfl,rfl,rfl,aD⟩) ?_ ?_
 ·exact ⟨gW _,rfl,fun _ _ h=>h⟩
 clear H;intro gh a w hI H;obtain ⟨k,g⟩:=gh;dsimp only at hI H;obtain ⟨hk,heq,hgm⟩:=hI;dsimp only [lca,aV] at H;refine kP H (SR fun _ K8=>Rc rfl (Kz K8 (SQ fun _ K9=>Cd rfl ?_ ?_))) <;> clear H K8
 ·intro dM a H
  try have kK:=dT dM
  have hk2:k < l.length:=by omega
  have Cn:=hv.mono hgm;obtain ⟨b,o,rfl,hrow⟩:=J6 Cn hk2
  obtain ⟨pk,hpk⟩:∃ pk,0 < k→aI g b (o+(k - 1)*2+0)=some (vi pk)∧wL l k=some pk:=by
   by_cases h0:0 < k
   ·obtain ⟨b',o',he,hr'⟩:=J6 Cn (show k - 1 < l.length by omega)
    injection he with he
    injection he with e1 e2 e3
    subst e1;subst e2;exact ⟨_,fun _=>⟨hr' 0 _ rfl,by rw [wL,ah (by omega),gy (by omega)];rfl⟩⟩
   exact ⟨0,fun h=>absurd h h0⟩
  rw [YT hk2] at heq;have aiY:=heq;refine kP H (Kc K9 (SQ fun _ aQ=>SB (SR fun _ bH=>Rm rfl (Ri tO oZ rfl rfl ?_))));clear H K9;intro a H;refine aW oZ (cs:=[_,_]) H wn rfl rfl (fun j v hj=>H.hp.aI (hrow j v hj)) rfl ?_;clear H;intro a H;refine dx oZ H wn rfl ?_;clear H;intro b6 a w hb6 H;refine kH H (Ra rfl ?_);clear H;intro a H;refine aX oZ 0 (vs:=[_,_]) _ H wn rfl rfl rfl rfl rfl rfl rfl rfl ?_;clear H;intro w H;dsimp only [List.set,setRow] at H;refine bH _ _ ?_;clear bH;refine uU (ι:=GH) (Tc:=[(0,_),(1,_),(6,_),(14,_),(15,_),(16,_)]) (Lc:=[(_,_)]) (fun gh=>[]) (fun gh=>[]) (fun gh=>gh) (fun gh=>(if sQ l[k].key l[k].value=0 then yJ e (wL l (k+1)) (l.drop (k+1)) else sQ l[k].key l[k].value)=yJ e none l∧(∀ b o,g b=some o→gh b=some o)) (by exact (H).sub ⟨rfl,rfl,rfl,rfl,rfl,rfl,aD⟩) ?_ ?_
  ·skip;refine kP H (SB (SR fun _ bR=>Rm rfl (aO tZ aC 0 rfl rfl ?_)));clear H;intro a H;refine s_call Sk H wn rfl (Te _ _ H.ro e l[k].key) rfl ?_;clear H;rintro v25 Qd a w rfl AO H;replace hrow:=fun j u hj=>aL AO (hrow j u hj);refine kH H (Rn rfl (ak bR rfl (Cd rfl ?_ ?_))) <;> clear H bR
   ·intro h21 a H
    try have nI:=dT h21
    refine kP H (SR fun _ bY=>ak bY rfl ?_);clear H bY;intro a H;refine lr H results78 rfl ?_
    first
     | exact H.rt (ay vi (by rw [ah (by simpa using p61)] at heq;rw [gL,ah (by omega)];exact heq))
     | exact H.rt (ay vi (by rw [au (by simpa using h21)] at heq;rw [gL,ah (by omega)];exact heq))
     | exact H.rt (ay vi (by rw [gL,ah (by omega)];exact heq))
     | exact H.rt (ay vi (by rw [gL,ah (by omega),← heq,show l.drop k=[] from gK (by omega)];rfl))
     | exact H.rt (ay vi (by rw [gL,au (by omega)]))
   intro h21 a H
   try have nI:=dF h21
   rw [ah (by simpa using h21)] at heq;refine bg (fun _ bX=>?_)
   by_cases c0:0 < (k:Int)
   ·skip
    by_cases c1:l[k].key=pk
    ·skip;refine dI hmx [[],[0],[0,1],[0,1,2],(ra 0 4),[0,1,2],[0,1,2],[0,1,2,6],[0,1,2,5,6,7],[0,1,2,5,6,7,8],[0,1,2,5,6,7,8,9],(ra 0 11),(ra 0 12),(ra 0 13)] [13] (by kernel_rfl) [_,_,_,_,vi l[k].key,_,_,vi ((k - 1:Nat):Int),_,_,_,_,_] H (aF (Z0 rfl (Rm rfl)) (Z1 0 28 rfl (Rc rfl)) (Z1 1 29 rfl (Rm rfl)) (Z1 2 30 rfl (YF tZ (aG c0) rfl)) (aF (Z2 3 31 2 30 rfl (YO aC 0 (aG c0) rfl)) (Z1 2 30 rfl (YM (aG c0) rfl)) (Z1 2 30 rfl (YM (aG c0) rfl)) ?_ (aF (Z3 5 33 7 35 2 30 rfl (YI tO oZ (aG c0) rfl rfl)) (Z2 8 36 2 30 rfl (YF tZ (aG c0) rfl)) (X2 9 37 2 30 rfl fun hG=>YR aC (aG c0) rfl (aL hG (aL AO (hpk (by omega)).1))) (Z3 4 32 10 38 2 30 rfl (YC (aG c0) rfl)) (bM (Z2 2 30 11 39 rfl (Pt (aG c0) rfl)) (bM (bJ rfl) dP))))) ?_
     ·refine eB 6 34 2 30 rfl rfl fun _ a w G1 hG HT H fin=>?_;refine oV _ H (wg H rfl rfl (aG c0)) rfl rfl rfl (by omega) (by omega) rfl ?_;clear H;intro a H;exact fin H iJ (by show _=_;first|rfl|exact ay vi (by omega))
     clear H;intro a w G ql H hv;have H:=H.aT (hv 12 40 rfl rfl) rfl;clear hv;refine kH H (Ra rfl ?_);clear H;intro a H;refine aH ⟨rfl,?_⟩;refine bX _ _ ?_;clear bX;refine yI H rfl (aG c1) ?_;refine bg (fun _ dO=>?_);rw [au (by rw [(hpk (by omega)).2,c1])] at heq;refine kP H (SC (aU dO rfl ?_));clear H dO;intro a H;refine lr H results78 rfl ?_
     first
      | exact H.rt (ay vi (by rw [ah (by simpa using p61)] at heq;rw [gL,ah (by omega)];exact heq))
      | exact H.rt (ay vi (by rw [au (by simpa using h21)] at heq;rw [gL,ah (by omega)];exact heq))
      | exact H.rt (ay vi (by rw [gL,ah (by omega)];exact heq))
      | exact H.rt (ay vi (by rw [gL,ah (by omega),← heq,show l.drop k=[] from gK (by omega)];rfl))
      | exact H.rt (ay vi (by rw [gL,au (by omega)]))
    skip;refine dI hmx [[],[0],[0,1],[0,1,2],(ra 0 4),[0,1,2],[0,1,2],[0,1,2,6],[0,1,2,5,6,7],[0,1,2,5,6,7,8],[0,1,2,5,6,7,8,9],(ra 0 11),(ra 0 12),(ra 0 13)] [13] (by kernel_rfl) [_,_,_,_,vi l[k].key,_,_,vi ((k - 1:Nat):Int),_,_,_,_,_] H (aF (Z0 rfl (Rm rfl)) (Z1 0 28 rfl (Rc rfl)) (Z1 1 29 rfl (Rm rfl)) (Z1 2 30 rfl (YF tZ (aG c0) rfl)) (aF (Z2 3 31 2 30 rfl (YO aC 0 (aG c0) rfl)) (Z1 2 30 rfl (YM (aG c0) rfl)) (Z1 2 30 rfl (YM (aG c0) rfl)) ?_ (aF (Z3 5 33 7 35 2 30 rfl (YI tO oZ (aG c0) rfl rfl)) (Z2 8 36 2 30 rfl (YF tZ (aG c0) rfl)) (X2 9 37 2 30 rfl fun hG=>YR aC (aG c0) rfl (aL hG (aL AO (hpk (by omega)).1))) (Z3 4 32 10 38 2 30 rfl (YC (aG c0) rfl)) (bM (Z2 2 30 11 39 rfl (Pt (aG c0) rfl)) (bM (bJ rfl) dP))))) ?_
    ·refine eB 6 34 2 30 rfl rfl fun _ a w G1 hG HT H fin=>?_;refine oV _ H (wg H rfl rfl (aG c0)) rfl rfl rfl (by omega) (by omega) rfl ?_;clear H;intro a H;exact fin H iJ (by show _=_;first|rfl|exact ay vi (by omega))
    clear H;intro a w G ql H hv;have H:=H.aT (hv 12 40 rfl rfl) rfl;clear hv;refine kH H (Ra rfl ?_);clear H;intro a H;refine aH ⟨rfl,?_⟩;refine bX _ _ ?_;clear bX;refine pJ H rfl (aR c1) ?_;refine bg (fun _ dJ=>?_)
    have q1:¬ (0 < (k:Int)∧l[k].key=pk):=by first|exact fun h=>c1 h.2|exact fun h=>c0 h.1
    rw [ah (fun h=>q1 (by
     by_cases h0:0 < k
     ·rw [(hpk h0).2] at h
      injection h with h
      exact ⟨by omega,h.symm⟩
     rw [J4 (by omega)] at h
     cases h))] at heq
    by_cases c3:l[k].key < pk
    ·skip;refine dI hmx [[],[0],[0,1],[0,1,2],(ra 0 4),[0,1,2],[0,1,2],[0,1,2,6],[0,1,2,5,6,7],[0,1,2,5,6,7,8],[0,1,2,5,6,7,8,9],(ra 0 11),(ra 0 12),(ra 0 13)] [13] (by kernel_rfl) [_,_,_,_,vi l[k].key,_,_,vi ((k - 1:Nat):Int),_,_,vi pk,_,_] H (aF (Z0 rfl (Rm rfl)) (Z1 0 42 rfl (Rc rfl)) (Z1 1 43 rfl (Rm rfl)) (Z1 2 44 rfl (YF tZ (aG c0) rfl)) (aF (Z2 3 45 2 44 rfl (YO aC 0 (aG c0) rfl)) (Z1 2 44 rfl (YM (aG c0) rfl)) (Z1 2 44 rfl (YM (aG c0) rfl)) ?_ (aF (Z3 5 47 7 49 2 44 rfl (YI tO oZ (aG c0) rfl rfl)) (Z2 8 50 2 44 rfl (YF tZ (aG c0) rfl)) ?_ (Z3 4 46 10 52 2 44 rfl (YC (aG c0) rfl)) (bM (Z2 2 44 11 53 rfl (Pt (aG c0) rfl)) (bM (bJ rfl) dP))))) ?_
     ·refine eB 6 48 2 44 rfl rfl fun _ a w G1 hG HT H fin=>?_;refine oV _ H (wg H rfl rfl (aG c0)) rfl rfl rfl (by omega) (by omega) rfl ?_;clear H;intro a H;exact fin H iJ (by show _=_;first|rfl|exact ay vi (by omega))
     ·refine eB 9 51 2 44 rfl rfl fun _ a w G1 hG HT H fin=>?_;refine zF aC H (wg H rfl rfl (aG c0)) rfl (H.hp.aI (aL hG (aL ql (aL AO (hpk (by omega)).1)))) rfl ?_;clear H;intro a H;exact fin H iJ rfl
     clear H;intro a w G rU H hv;have H:=H.aT (hv 12 54 rfl rfl) rfl;clear hv;refine kH H (Ra rfl ?_);clear H;intro a H;refine aH ⟨rfl,?_⟩;refine dJ _ _ ?_;clear dJ;refine yI H rfl (aG c3) ?_;refine bg (fun _ dD=>?_);rw [au (by rw [(hpk (by omega)).2];exact aG c3)] at heq;refine kP H (SC (aU dD rfl ?_));clear H dD;intro a H;refine lr H results78 rfl ?_
     first
      | exact H.rt (ay vi (by rw [ah (by simpa using p61)] at heq;rw [gL,ah (by omega)];exact heq))
      | exact H.rt (ay vi (by rw [au (by simpa using h21)] at heq;rw [gL,ah (by omega)];exact heq))
      | exact H.rt (ay vi (by rw [gL,ah (by omega)];exact heq))
      | exact H.rt (ay vi (by rw [gL,ah (by omega),← heq,show l.drop k=[] from gK (by omega)];rfl))
      | exact H.rt (ay vi (by rw [gL,au (by omega)]))
    skip;refine dI hmx [[],[0],[0,1],[0,1,2],(ra 0 4),[0,1,2],[0,1,2],[0,1,2,6],[0,1,2,5,6,7],[0,1,2,5,6,7,8],[0,1,2,5,6,7,8,9],(ra 0 11),(ra 0 12),(ra 0 13)] [13] (by kernel_rfl) [_,_,_,_,vi l[k].key,_,_,vi ((k - 1:Nat):Int),_,_,vi pk,_,_] H (aF (Z0 rfl (Rm rfl)) (Z1 0 42 rfl (Rc rfl)) (Z1 1 43 rfl (Rm rfl)) (Z1 2 44 rfl (YF tZ (aG c0) rfl)) (aF (Z2 3 45 2 44 rfl (YO aC 0 (aG c0) rfl)) (Z1 2 44 rfl (YM (aG c0) rfl)) (Z1 2 44 rfl (YM (aG c0) rfl)) ?_ (aF (Z3 5 47 7 49 2 44 rfl (YI tO oZ (aG c0) rfl rfl)) (Z2 8 50 2 44 rfl (YF tZ (aG c0) rfl)) ?_ (Z3 4 46 10 52 2 44 rfl (YC (aG c0) rfl)) (bM (Z2 2 44 11 53 rfl (Pt (aG c0) rfl)) (bM (bJ rfl) dP))))) ?_
    ·refine eB 6 48 2 44 rfl rfl fun _ a w G1 hG HT H fin=>?_;refine oV _ H (wg H rfl rfl (aG c0)) rfl rfl rfl (by omega) (by omega) rfl ?_;clear H;intro a H;exact fin H iJ (by show _=_;first|rfl|exact ay vi (by omega))
    ·refine eB 9 51 2 44 rfl rfl fun _ a w G1 hG HT H fin=>?_;refine zF aC H (wg H rfl rfl (aG c0)) rfl (H.hp.aI (aL hG (aL ql (aL AO (hpk (by omega)).1)))) rfl ?_;clear H;intro a H;exact fin H iJ rfl
    clear H;intro a w G rU H hv;have H:=H.aT (hv 12 54 rfl rfl) rfl;clear hv;refine kH H (Ra rfl ?_);clear H;intro a H;refine aH ⟨rfl,?_⟩;refine dJ _ _ ?_;clear dJ;refine pJ H rfl (aR c3) ?_;refine fQ ?_;refine ⟨_,by exact (H).sub ⟨rfl,rfl,rfl,rfl,rfl,rfl,aD⟩,?_⟩
    have q2:¬ (0 < (k:Int)∧l[k].key < pk):=by first|exact fun h=>c3 h.2|exact fun h=>c0 h.1
    rw [ah (fun h=>q2 (by
     by_cases h0:0 < k
     ·rw [(hpk h0).2] at h;exact ⟨by omega,rF h⟩
     rw [J4 (by omega)] at h
     cases h))] at heq
    exact ⟨heq,fun b o h=>rU b o (ql b o (AO b o h))⟩
   skip;refine dI hmx [[],[0],[0,1],[0,1,2],(ra 0 4),[0,1,2],[0,1,2],[0,1,2,6],[0,1,2,5,6,7],[0,1,2,5,6,7,8],[0,1,2,5,6,7,8,9],(ra 0 11),(ra 0 12),(ra 0 13)] [13] (by kernel_rfl) [_,_,_,undef,undef,undef,undef,undef,undef,undef,undef,undef,_] H (aF (Z0 rfl (Rm rfl)) (Z1 0 28 rfl (Rc rfl)) (Z1 1 29 rfl (Rm rfl)) (bq (j:=2) (by kernel_rfl) (fun _ _ _ _ _ h=>h) rfl rfl rfl rfl rfl (fun _ _ h=>bD h (aM (aR c0))) rfl (fun _=>rfl)) (aF (bq (j:=2) (by kernel_rfl) (fun _ _ _ _ _ h=>h) rfl rfl rfl rfl rfl (fun _ _ h=>bD h (aM (aR c0))) rfl (fun _=>rfl)) (bq (j:=2) (by kernel_rfl) (fun _ _ _ _ _ h=>h) rfl rfl rfl rfl rfl (fun _ _ h=>bD h (aM (aR c0))) rfl (fun _=>rfl)) (bq (j:=2) (by kernel_rfl) (fun _ _ _ _ _ h=>h) rfl rfl rfl rfl rfl (fun _ _ h=>bD h (aM (aR c0))) rfl (fun _=>rfl)) (bq (j:=2) (by kernel_rfl) (fun _ _ _ _ _ h=>h) rfl rfl rfl rfl rfl (fun _ _ h=>bD h (aM (aR c0))) rfl (fun _=>rfl)) (aF (bq (j:=2) (by kernel_rfl) (fun _ _ _ _ _ h=>h) rfl rfl rfl rfl rfl (fun _ _ h=>bD h (aM (aR c0))) rfl (fun _=>rfl)) (bq (j:=2) (by kernel_rfl) (fun _ _ _ _ _ h=>h) rfl rfl rfl rfl rfl (fun _ _ h=>bD h (aM (aR c0))) rfl (fun _=>rfl)) (bq (j:=2) (by kernel_rfl) (fun _ _ _ _ _ h=>h) rfl rfl rfl rfl rfl (fun _ _ h=>bD h (aM (aR c0))) rfl (fun _=>rfl)) (bq (j:=2) (by kernel_rfl) (fun _ _ _ _ _ h=>h) rfl rfl rfl rfl rfl (fun _ _ h=>bD h (aM (aR c0))) rfl (fun _=>rfl)) (bM (Z2 2 30 11 39 rfl (Pf (aR c0) rfl)) (bM (bJ rfl) dP))))) ?_
   clear H;intro a w G ql H hv;have H:=H.aT (hv 12 40 rfl rfl) rfl;clear hv;refine kH H (Ra rfl ?_);clear H;intro a H;refine aH ⟨rfl,?_⟩;refine bX _ _ ?_;clear bX;refine pJ H rfl rfl ?_;refine bg (fun _ dU=>?_)
   have q1:¬ (0 < (k:Int)∧l[k].key=pk):=by first|exact fun h=>c1 h.2|exact fun h=>c0 h.1
   rw [ah (fun h=>q1 (by
    by_cases h0:0 < k
    ·rw [(hpk h0).2] at h
     injection h with h
     exact ⟨by omega,h.symm⟩
    rw [J4 (by omega)] at h
    cases h))] at heq
   refine dI hmx [[],[0],[0,1],[0,1,2],(ra 0 4),[0,1,2],[0,1,2],[0,1,2,6],[0,1,2,5,6,7],[0,1,2,5,6,7,8],[0,1,2,5,6,7,8,9],(ra 0 11),(ra 0 12),(ra 0 13)] [13] (by kernel_rfl) [_,_,_,undef,undef,undef,undef,undef,undef,undef,undef,undef,_] H (aF (Z0 rfl (Rm rfl)) (Z1 0 42 rfl (Rc rfl)) (Z1 1 43 rfl (Rm rfl)) (bq (j:=2) (by kernel_rfl) (fun _ _ _ _ _ h=>h) rfl rfl rfl rfl rfl (fun _ _ h=>bD h (aM (aR c0))) rfl (fun _=>rfl)) (aF (bq (j:=2) (by kernel_rfl) (fun _ _ _ _ _ h=>h) rfl rfl rfl rfl rfl (fun _ _ h=>bD h (aM (aR c0))) rfl (fun _=>rfl)) (bq (j:=2) (by kernel_rfl) (fun _ _ _ _ _ h=>h) rfl rfl rfl rfl rfl (fun _ _ h=>bD h (aM (aR c0))) rfl (fun _=>rfl)) (bq (j:=2) (by kernel_rfl) (fun _ _ _ _ _ h=>h) rfl rfl rfl rfl rfl (fun _ _ h=>bD h (aM (aR c0))) rfl (fun _=>rfl)) (bq (j:=2) (by kernel_rfl) (fun _ _ _ _ _ h=>h) rfl rfl rfl rfl rfl (fun _ _ h=>bD h (aM (aR c0))) rfl (fun _=>rfl)) (aF (bq (j:=2) (by kernel_rfl) (fun _ _ _ _ _ h=>h) rfl rfl rfl rfl rfl (fun _ _ h=>bD h (aM (aR c0))) rfl (fun _=>rfl)) (bq (j:=2) (by kernel_rfl) (fun _ _ _ _ _ h=>h) rfl rfl rfl rfl rfl (fun _ _ h=>bD h (aM (aR c0))) rfl (fun _=>rfl)) (bq (j:=2) (by kernel_rfl) (fun _ _ _ _ _ h=>h) rfl rfl rfl rfl rfl (fun _ _ h=>bD h (aM (aR c0))) rfl (fun _=>rfl)) (bq (j:=2) (by kernel_rfl) (fun _ _ _ _ _ h=>h) rfl rfl rfl rfl rfl (fun _ _ h=>bD h (aM (aR c0))) rfl (fun _=>rfl)) (bM (Z2 2 44 11 53 rfl (Pf (aR c0) rfl)) (bM (bJ rfl) dP))))) ?_
   clear H;intro a w G rU H hv;have H:=H.aT (hv 12 54 rfl rfl) rfl;clear hv;refine kH H (Ra rfl ?_);clear H;intro a H;refine aH ⟨rfl,?_⟩;refine dU _ _ ?_;clear dU;refine pJ H rfl rfl ?_;refine fQ ?_;refine ⟨_,by exact (H).sub ⟨rfl,rfl,rfl,rfl,rfl,rfl,aD⟩,?_⟩
   have q2:¬ (0 < (k:Int)∧l[k].key < pk):=by first|exact fun h=>c3 h.2|exact fun h=>c0 h.1
   rw [ah (fun h=>q2 (by
    by_cases h0:0 < k
    ·rw [(hpk h0).2] at h;exact ⟨by omega,rF h⟩
    rw [J4 (by omega)] at h
    cases h))] at heq
   exact ⟨heq,fun b o h=>rU b o (ql b o (AO b o h))⟩
  clear H;intro gh a w hI H;obtain ⟨g2,hgh⟩:∃ x,x=gh:=⟨_,rfl⟩;subst hgh;obtain ⟨heq,nY⟩:=hI;replace hrow:=fun j u hj=>aL nY (hrow j u hj);dsimp only [lca,aV] at H;refine kP H (SR fun _ fP=>aO tZ aC 0 rfl rfl (aO SF aC 0 rfl rfl ?_));clear H;intro a H;refine s_call MF H wn rfl (LV _ _ H.ro l[k].key l[k].value) rfl ?_;clear H;rintro v59 Xk a w rfl adP H;refine kH H (ak fP rfl (SR fun _ eG=>Rm rfl (Rc rfl (Kz eG (Cd rfl ?_ ?_))))) <;> clear H fP eG
  ·intro rR a H
   try have p61:=dT rR
   refine kP H (SR fun _ fZ=>Rm rfl (ak fZ rfl ?_));clear H fZ;intro a H;refine lr H results78 rfl ?_
   first
    | exact H.rt (ay vi (by rw [ah (by simpa using p61)] at heq;rw [gL,ah (by omega)];exact heq))
    | exact H.rt (ay vi (by rw [au (by simpa using h21)] at heq;rw [gL,ah (by omega)];exact heq))
    | exact H.rt (ay vi (by rw [gL,ah (by omega)];exact heq))
    | exact H.rt (ay vi (by rw [gL,ah (by omega),← heq,show l.drop k=[] from gK (by omega)];rfl))
    | exact H.rt (ay vi (by rw [gL,au (by omega)]))
  intro rR a H
  try have p61:=dF rR
  refine kP H (Kc aQ (SC (Rd rfl (Rm rfl ?_))));clear H aQ;intro a H;refine aH ?_;refine eO ((k+1,Xk)) (by exact (H.bU (Pl:=[_]) (bN:=[]) [] (by decide) rfl).sub ⟨rfl,rfl,rfl,rfl,rfl,aD⟩) ?_ ?_
  ·(try dsimp only);exact ⟨by omega,by rw [au (by simpa using p61)] at heq;exact heq,fun b o h=>adP b o (nY b o (hgm b o h))⟩
  first|omega|(dsimp only;omega)
 intro dM a H
 try have kK:=dF dM
 refine fI ?_;refine K6 _ _ ?_;clear K6;refine kP H (SR fun _ gN=>ak gN rfl ?_);clear H gN;intro a H;refine lr H results78 rfl ?_
 first
  | exact H.rt (ay vi (by rw [ah (by simpa using p61)] at heq;rw [gL,ah (by omega)];exact heq))
  | exact H.rt (ay vi (by rw [au (by simpa using h21)] at heq;rw [gL,ah (by omega)];exact heq))
  | exact H.rt (ay vi (by rw [gL,ah (by omega)];exact heq))
  | exact H.rt (ay vi (by rw [gL,ah (by omega),← heq,show l.drop k=[] from gK (by omega)];rfl))
  | exact H.rt (ay vi (by rw [gL,au (by omega)]))
end
section
open Go.RowKit
theorem nL:prog.underlying 210=some (.slice 41):=by kernel_rfl
theorem tY:∀ args w,(callFunc 128 args).run prog w=.ok (.enter 128 args) w:=enters func128 rfl (by kernel_rfl)
theorem uE (G:GH) (w0:World) (hG:Hold G w0) (n l h:Int):Calls prog 128 #[vi n,vi l,vi h] w0 (aZ w0 G fun u G'=>u=.bool (decide (l≤n∧n≤h))∧G=G'):=by
 refine eN [(0,_),(1,_),(2,_)] func128 rfl ntmps128 rfl rfl hG ?_;intro a H;refine kP H (SR fun _ K1=>ak K1 rfl (SR fun _ K2=>Rm rfl (Rm rfl (Rc rfl (Rm rfl (Sp 10 rfl ?_ ?_)))))) <;> clear H K1
 ·intro h10 a H
  try have uH:=dT h10
  exact kH H (YM h10 rfl (YM h10 rfl (YC h10 rfl (Pt h10 rfl (ak K2 rfl (LR results128 rfl fun H=>H.rt ⟨aM (by first|(simp_all;done)|(simp_all;omega)),rfl⟩))))))
 intro h10 a H
 try have uH:=dF h10
 exact kH H (cK h10 rfl (Pf h10 rfl (ak K2 rfl (LR results128 rfl fun H=>H.rt ⟨aM (by first|(simp_all;done)|(simp_all;omega)),rfl⟩))))
def bS (b:Bool) (e:Int):Int:=if b=true then e else 0
theorem iU (G:GH) (w0:World) (hG:Hold G w0) (b:Bool) (e:Int):Calls prog 70 #[.bool b,vi e] w0 (aZ w0 G fun u G'=>u=vi (bS b e)∧G=G'):=by
 refine eN [(0,_),(1,_)] func70 rfl ntmps70 rfl rfl hG ?_;intro a H;refine kP H (SR fun _ K1=>ak K1 rfl (SQ fun _ K2=>SR fun _ K3=>Rm rfl (Kz K3 (Cd rfl ?_ ?_)))) <;> clear H K1 K3
 ·intro h5 a H
  try have p5:=dT h5
  exact kP H (SR fun _ K4=>Rm rfl (ak K4 rfl (LR results70 rfl fun H=>H.rt ⟨ay vi (by simp_all [bS]),rfl⟩)))
 intro h5 a H
 try have p5:=dF h5
 exact kP H (Kc K2 (SR fun _ K5=>ak K5 rfl (LR results70 rfl fun H=>H.rt ⟨ay vi (by simp_all [bS]),rfl⟩)))
def dB:List Int→Int
 | []=>0
 | e :: r=>if e≠0 then e else dB r
theorem Jl {l:List Int} {k:Nat} (h:k < l.length):dB (l.drop k)=if l[k]≠0 then l[k] else dB (l.drop (k+1)):=by
 rw [lu h,dB]
theorem oJ (G:GH) (w0:World) (hG:Hold G w0) (l:List Int) (v:aj) (hv:av G (.sl 1 (l.map fun k=>[li k])) v) :
  Calls prog 65 #[v] w0 (aZ w0 G fun u G'=>u=vi (dB l)∧G=G'):=by
 obtain ⟨A,c,rfl,hc1,hc2,hg⟩:=hv.slice;have hml:maxLen=9223372036854775807:=rfl;rw [bW] at *;refine eN [(0,_)] func65 rfl ntmps65 rfl rfl hG ?_;intro a H;refine kP H (SR fun _ K1=>ak K1 rfl (SQ fun _ K2=>SR fun _ K3=>Rm rfl (Rl nL rfl (Rm rfl (Kz K3 (SB ?_))))));clear H K1 K3;intro a H;skip;refine gq (ι:=Nat) (Tc:=[(5,_),(6,_)]) (Lc:=[]) (fun gh=>[(7,vi gh)]) (fun gh=>[]) (fun gh=>G) (fun gh=>gh≤l.length∧dB (l.drop gh)=dB l) (fun gh=>l.length - gh) (0) (by exact (H).sub ⟨rfl,rfl,rfl,aD⟩) ?_ ?_
 ·exact ⟨gW _,rfl⟩
 clear H;intro gh a w hI H;obtain ⟨k,hgh⟩:∃ x,x=gh:=⟨_,rfl⟩;subst hgh;obtain ⟨hk,he⟩:=hI;dsimp only [lca,aV] at H;refine kP H (SR fun _ K4=>Rc rfl (Kz K4 (SQ fun _ K5=>Cd rfl ?_ ?_))) <;> clear H K4
 ·intro h8 a H
  try have p8:=dT h8
  have hk2:k < l.length:=by omega
  obtain ⟨b,o,cs,rfl,hcl,hrow,hr⟩:=hg k [li l[k]] (by simp [hk2]);obtain ⟨v1,_,rfl,⟨rfl,-⟩,rfl⟩:∃ v vs,cs=v :: vs∧av G (li l[k]) v∧aS G [] vs:=hr
  have hcell:aI G b (o+k*1)=some (vi l[k]):=by simpa using hrow 0 _ rfl
  refine kP H (Kc K5 (SQ fun _ K6=>SB (SR fun _ K7=>Ri nL eP rfl rfl (Rg eP rfl hcell (ak K7 rfl (SR fun _ K8=>Rm rfl (Rc rfl (Kz K8 (Cd rfl ?_ ?_))))))))) <;> clear H K5 K7 K8
  ·intro h12 a H
   try have qD:=dT h12
   exact kP H (SR fun _ K9=>Rm rfl (ak K9 rfl (LR results65 rfl fun H=>H.rt ⟨ay vi (by rw [Jl hk2,au qD] at he;exact he),rfl⟩)))
  intro h12 a H
  try have qD:=dF h12
  refine kP H (Kc K6 (SC (Rd rfl (Rm rfl ?_))));clear H K6;intro a H;refine aH ?_;refine eO ((k+1)) (by exact (H).sub ⟨rfl,rfl,rfl,aD⟩) ?_ ?_
  ·exact ⟨by omega,by rw [Jl hk2,ah qD] at he;exact he⟩
  first|omega|(dsimp only;omega)
 intro h8 a H
 try have p8:=dF h8
 refine fI ?_;refine K2 _ _ ?_;clear K2;exact kP H (SR fun _ aQ=>ak aQ rfl (LR results65 rfl fun H=>H.rt ⟨ay vi (by rw [gK (by omega)] at he;exact he),rfl⟩))
def qM (fv:aj) (Gi:GH) (n:Nat) (E:Nat→Int):Prop:=∀ i,i < n→∀ (G1:GH) (w1:World),(∀ b o,Gi b=some o→G1 b=some o)→Hold G1 w1→tT prog fv [vi i] w1 (aZ w1 G1 fun u G'=>u=vi (E i))
theorem qM.mono {fv:aj} {G G':GH} {n:Nat} {E:Nat→Int} (h:qM fv G n E) (hm:∀ b o,G b=some o→G' b=some o):qM fv G' n E:=fun i hi G1 w1 hG1=>h i hi G1 w1 fun b o hb=>hG1 b o (hm b o hb)
def jV (E:Nat→Int) (n:Nat):Int:=dB ((List.range n).map E)
theorem BJ {E:Nat→Int} {n k:Nat} (h:k < n):dB (((List.range n).map E).drop k)=if E k≠0 then E k else dB (((List.range n).map E).drop (k+1)):=by
 rw [Jl (by simpa using h)];simp
theorem FH (G:GH) (w0:World) (hG:Hold G w0) (n:Nat) (E:Nat→Int) (fv:aj) (hn:n≤4611686018427387904) (hf:qM fv G n E) :
  Calls prog 123 #[vi n,fv] w0 (aZ w0 G fun u G'=>u=vi (jV E n)):=by
 refine eN [(0,_),(1,_)] func123 rfl ntmps123 rfl rfl hG ?_;intro a H;refine kP H (SR fun _ K1=>ak K1 rfl (SQ fun _ K2=>SR fun _ K3=>Rm rfl (Rm rfl (Kz K3 (SB ?_)))));clear H K1 K3;intro a H;skip;refine gq (ι:=Nat × GH) (Tc:=[(1,_),(7,_)]) (Lc:=[]) (fun gh=>[(8,vi gh.1)]) (fun gh=>[]) (fun gh=>gh.2) (fun gh=>gh.1≤n∧dB (((List.range n).map E).drop gh.1)=jV E n∧(∀ b o,G b=some o→gh.2 b=some o)) (fun gh=>n - gh.1) ((0,G)) (by exact (H).sub ⟨rfl,rfl,rfl,aD⟩) ?_ ?_
 ·exact ⟨gW _,rfl,fun _ _ h=>h⟩
 clear H;intro gh a w hI H;obtain ⟨k,g⟩:=gh;dsimp only at hI H;obtain ⟨hk,he,hgm⟩:=hI;dsimp only [lca,aV] at H;refine kP H (SR fun _ K4=>Rc rfl (Kz K4 (SQ fun _ K5=>Cd rfl ?_ ?_))) <;> clear H K4
 ·intro h9 a H
  try have p9:=dT h9
  have hk2:k < n:=by omega
  refine kP H (Kc K5 (SQ fun _ K6=>SB (SR fun _ K7=>Rm rfl (ak K7 rfl (SR fun _ K8=>Rm rfl (Rm rfl ?_))))));clear H K5 K7;intro a H;refine oU H wn rfl rfl (hf k hk2 _ _ hgm H.ro) rfl ?_;clear H;rintro v13 vK a w rfl pR H;refine kH H (ak K8 rfl (SR fun _ K9=>Rm rfl (Rc rfl (Kz K9 (Cd rfl ?_ ?_))))) <;> clear H K8 K9
  ·intro jX a H
   try have oP:=dT jX
   exact kP H (SR fun _ aQ=>Rm rfl (ak aQ rfl (LR results123 rfl fun H=>H.rt (ay vi (by rw [BJ hk2,au oP] at he;exact he)))))
  intro jX a H
  try have oP:=dF jX
  refine kP H (Kc K6 (SC (Rd rfl (Rm rfl ?_))));clear H K6;intro a H;refine aH ?_;refine eO ((k+1,vK)) (by exact (H).sub ⟨rfl,rfl,rfl,aD⟩) ?_ ?_
  ·(try dsimp only);exact ⟨by omega,by rw [BJ hk2,ah oP] at he;exact he,fun b o h=>pR b o (hgm b o h)⟩
  first|omega|(dsimp only;omega)
 intro h9 a H
 try have p9:=dF h9
 refine fI ?_;refine K2 _ _ ?_;clear K2;exact kP H (SR fun _ bH=>ak bH rfl (LR results123 rfl fun H=>H.rt (ay vi (by rw [gK (by simp;omega)] at he;exact he))))
def og (id:Nat→Int) (i:Nat):Int:=if ¬ (1≤id i∧id i≤1073741824) then 18 else if 0 < i∧id i=id (i - 1) then 7 else if 0 < i∧id i < id (i - 1) then 6 else 0
theorem Ox (G:GH) (w0:World) (hG:Hold G w0) (i:Nat) (id:Nat→Int) (fv:aj) (hn:i≤4611686018427387904) (hf:qM fv G (i+1) id) :
  Calls prog 125 #[vi i,fv] w0 (aZ w0 G fun u G'=>u=vi (og id i)):=by
 refine eN [(0,_),(1,_)] func125 rfl ntmps125 rfl rfl hG ?_;intro a H;refine kP H (SR fun _ K1=>ak K1 rfl (SQ fun _ K2=>SB (SR fun _ K3=>Rm rfl (Rm rfl ?_))));clear H K1;intro a H;refine oU H wn rfl rfl (hf i (Nat.lt_succ_self _) _ _ (fun _ _ h=>h) H.ro) rfl ?_;clear H;rintro v8 G8 a w rfl AQ H;refine s_call tY H wn rfl (uE _ _ H.ro (id i) 1 1073741824) rfl ?_;clear H;rintro v9 _ a w ⟨rfl,rfl⟩ - H;refine kH H (Rn rfl (ak K3 rfl (Cd rfl ?_ ?_))) <;> clear H K3
 ·intro h5 a H
  try have p5:=dT h5
  refine kP H (SR fun _ K4=>ak K4 rfl ?_);clear H K4;intro a H;refine lr H results125 rfl ?_
  exact H.rt (ay vi (by unfold og;(repeat' split) <;> first|rfl|(exfalso;simp_all;done)|(exfalso;simp_all;omega)))
 intro h5 a H
 try have p5:=dF h5
 refine kP H (SR fun _ K5=>Rm rfl (Rc rfl (Rm rfl (Sp 14 rfl ?_ ?_)))) <;> clear H
 ·intro dX a H
  try have kJ:=dT dX
  refine kH H (YM dX rfl (YM dX rfl ?_));clear H;intro a H;refine oU H (wg H rfl rfl dX) rfl rfl (hf i (Nat.lt_succ_self _) _ _ AQ H.ro) rfl ?_;clear H;rintro v17 zV a w rfl oM H;refine kH H (YM dX rfl (YM dX rfl ?_));clear H;intro a H;refine oV _ H (wg H rfl rfl dX) rfl rfl rfl (by omega) (by omega) rfl ?_;clear H;intro a H;rw [show ((i:Int) - 1)=((i - 1:Nat):Int) by omega] at H;refine oU H (wg H rfl rfl dX) rfl rfl (hf (i - 1) (by omega) _ _ (fun b o h=>oM b o (AQ b o h)) H.ro) rfl ?_;clear H;rintro v21 Qa a w rfl zo H;refine kH H (YC dX rfl (Pt dX rfl (ak K5 rfl (Cd rfl ?_ ?_)))) <;> clear H K5
  ·intro h11 a H
   try have qC:=dT h11
   refine kP H (SR fun _ K6=>ak K6 rfl ?_);clear H K6;intro a H;refine lr H results125 rfl ?_
   exact H.rt (ay vi (by unfold og;(repeat' split) <;> first|rfl|(exfalso;simp_all;done)|(exfalso;simp_all;omega)))
  intro h11 a H
  try have qC:=dF h11
  refine kP H (SR fun _ K7=>Rm rfl (Rc rfl (Rm rfl (Sp 27 rfl ?_ ?_)))) <;> clear H
  ·intro h27 a H
   try have p27:=dT h27
   refine kH H (YM h27 rfl (YM h27 rfl ?_));clear H;intro a H;refine oU H (wg H rfl rfl h27) rfl rfl (hf i (Nat.lt_succ_self _) _ _ (fun b o h=>by first|exact zo b o (oM b o (AQ b o h))|(exfalso;omega)) H.ro) rfl ?_;clear H;rintro v30 yC a w rfl wC H;refine kH H (YM h27 rfl (YM h27 rfl ?_));clear H;intro a H;refine oV _ H (wg H rfl rfl h27) rfl rfl rfl (by omega) (by omega) rfl ?_;clear H;intro a H;rw [show ((i:Int) - 1)=((i - 1:Nat):Int) by omega] at H;refine oU H (wg H rfl rfl h27) rfl rfl (hf (i - 1) (by omega) _ _ (fun b o h=>by first|exact wC b o (zo b o (oM b o (AQ b o h)))|(exfalso;omega)) H.ro) rfl ?_;clear H;rintro v34 Xh a w rfl TH H;refine kH H (YC h27 rfl (Pt h27 rfl (ak K7 rfl (Cd rfl ?_ ?_)))) <;> clear H K7
   ·intro fu a H
    try have kL:=dT fu
    refine kP H (SR fun _ K8=>ak K8 rfl ?_);clear H K8;intro a H;refine lr H results125 rfl ?_
    exact H.rt (ay vi (by unfold og;(repeat' split) <;> first|rfl|(exfalso;simp_all;done)|(exfalso;simp_all;omega)))
   intro fu a H
   try have kL:=dF fu
   refine kP H (Kc K2 (SR fun _ K9=>ak K9 rfl ?_));clear H K2 K9;intro a H;refine lr H results125 rfl ?_
   exact H.rt (ay vi (by unfold og;(repeat' split) <;> first|rfl|(exfalso;simp_all;done)|(exfalso;simp_all;omega)))
  intro h27 a H
  try have p27:=dF h27
  refine kH H (cK h27 rfl (cK h27 rfl (bO h27 rfl (Pf h27 rfl (ak K7 rfl (Cf rfl rfl (Kc K2 (SR fun _ aQ=>ak aQ rfl ?_))))))));clear H K7 K2 aQ;intro a H;refine lr H results125 rfl ?_
  exact H.rt (ay vi (by unfold og;(repeat' split) <;> first|rfl|(exfalso;simp_all;done)|(exfalso;simp_all;omega)))
 intro dX a H
 try have kJ:=dF dX
 refine kH H (cK dX rfl (cK dX rfl (bO dX rfl (Pf dX rfl (ak K5 rfl (Cf rfl rfl (SR fun _ bH=>Rm rfl (Rc rfl (Rm rfl (Sp 27 rfl ?_ ?_)))))))))) <;> clear H K5
 ·intro h27 a H
  try have p27:=dT h27
  refine kH H (YM h27 rfl (YM h27 rfl ?_));clear H;intro a H;refine oU H (wg H rfl rfl h27) rfl rfl (hf i (Nat.lt_succ_self _) _ _ (fun b o h=>by first|exact zo b o (oM b o (AQ b o h))|(exfalso;omega)) H.ro) rfl ?_;clear H;rintro v30 yC a w rfl wC H;refine kH H (YM h27 rfl (YM h27 rfl ?_));clear H;intro a H;refine oV _ H (wg H rfl rfl h27) rfl rfl rfl (by omega) (by omega) rfl ?_;clear H;intro a H;rw [show ((i:Int) - 1)=((i - 1:Nat):Int) by omega] at H;refine oU H (wg H rfl rfl h27) rfl rfl (hf (i - 1) (by omega) _ _ (fun b o h=>by first|exact wC b o (zo b o (oM b o (AQ b o h)))|(exfalso;omega)) H.ro) rfl ?_;clear H;rintro v34 Xh a w rfl TH H;refine kH H (YC h27 rfl (Pt h27 rfl (ak bH rfl (Cd rfl ?_ ?_)))) <;> clear H bH
  ·intro fu a H
   try have kL:=dT fu
   refine kP H (SR fun _ bR=>ak bR rfl ?_);clear H bR;intro a H;refine lr H results125 rfl ?_
   exact H.rt (ay vi (by unfold og;(repeat' split) <;> first|rfl|(exfalso;simp_all;done)|(exfalso;simp_all;omega)))
  intro fu a H
  try have kL:=dF fu
  refine kP H (Kc K2 (SR fun _ bY=>ak bY rfl ?_));clear H K2 bY;intro a H;refine lr H results125 rfl ?_
  exact H.rt (ay vi (by unfold og;(repeat' split) <;> first|rfl|(exfalso;simp_all;done)|(exfalso;simp_all;omega)))
 intro h27 a H
 try have p27:=dF h27
 refine kH H (cK h27 rfl (cK h27 rfl (bO h27 rfl (Pf h27 rfl (ak bH rfl (Cf rfl rfl (Kc K2 (SR fun _ bX=>ak bX rfl ?_))))))));clear H bH K2 bX;intro a H;refine lr H results125 rfl ?_
 exact H.rt (ay vi (by unfold og;(repeat' split) <;> first|rfl|(exfalso;simp_all;done)|(exfalso;simp_all;omega)))
end
section
open Go.RowKit
theorem iP:∀ args w,(callFunc 70 args).run prog w=.ok (.enter 70 args) w:=enters func70 rfl (by kernel_rfl)
theorem oI:∀ args w,(callFunc 65 args).run prog w=.ok (.enter 65 args) w:=enters func65 rfl (by kernel_rfl)
def uT (s:ByteArray):Bool:=decide (1≤s.size∧s.size≤40) && gU s
theorem QO (G:GH) (w0:World) (hG:Hold G w0) (s:ByteArray) (hs:s.size < 4611686018427387904):Calls prog 127 #[.string s] w0 (aZ w0 G fun u G'=>u=.bool (uT s)∧G=G'):=by
 refine eN [(0,_)] func127 rfl ntmps127 rfl rfl hG ?_;intro a H;refine kP H (SR fun _ K1=>ak K1 rfl (SR fun _ K2=>Rm rfl (Rv fC rfl (Rc rfl (Rm rfl (Sp 6 rfl ?_ ?_)))))) <;> clear H K1
 ·intro h6 a H
  try have p6:=dT h6
  refine kH H (YM h6 rfl ?_);clear H;intro a H;refine CU fC H (wg H rfl rfl h6) rfl rfl ?_;clear H;intro a H;refine kH H (YC h6 rfl (Pt h6 rfl (Rm rfl (Sp 11 rfl ?_ ?_)))) <;> clear H
  ·intro h11 a H
   try have qC:=dT h11
   refine kH H (YM h11 rfl ?_);clear H;intro a H;refine s_call DL H (wg H rfl rfl h11) rfl (EY _ _ H.ro s hs) rfl ?_;clear H;rintro v13 _ a w ⟨rfl,rfl⟩ - H;exact kH H (Pt h11 rfl (ak K2 rfl (LR results127 rfl fun H=>H.rt ⟨aM (by unfold uT;first|(simp_all;done)|(simp_all;omega)),rfl⟩)))
  intro h11 a H
  try have qC:=dF h11
  exact kH H (bO h11 rfl (Pf h11 rfl (ak K2 rfl (LR results127 rfl fun H=>H.rt ⟨aM (by unfold uT;first|(simp_all;done)|(simp_all;omega)),rfl⟩))))
 intro h6 a H
 try have p6:=dF h6
 exact kH H (cK h6 rfl (Pf h6 rfl (Rm rfl (bO rfl rfl (Pf rfl rfl (ak K2 rfl (LR results127 rfl fun H=>H.rt ⟨aM (by unfold uT;first|(simp_all;done)|(simp_all;omega)),rfl⟩)))))))
def zL (s:ByteArray):Int:=dB [bS (!gU s) 12,bS (decide (1024 < (s.size:Int))) 10]
theorem vG {G:GH} {b:Nat} {x y:Int} (h:G b=some (.cells #[vi x,vi y] 41 (0,0))):av G (.sl 1 ([x,y].map fun k=>[li k])) (.slice (some ⟨b,0,none⟩) 2 2) :=
 av.dS (n:=2) (cap:=2) h rfl (bP _) (show 2≤maxLen by decide) (jU (bP _)) (eD G [x,y])
theorem Py (G:GH) (w0:World) (hG:Hold G w0) (s:ByteArray) (hs:s.size < 4611686018427387904):Calls prog 164 #[.string s] w0 (aZ w0 G fun u G'=>u=vi (zL s)):=by
 refine eN [(0,_)] func164 rfl ntmps164 rfl rfl hG ?_;intro a H;refine kP H (SR fun _ K1=>ak K1 rfl (SR fun _ K2=>Rm rfl ?_));clear H K1;intro a H;refine s_call DL H wn rfl (EY _ _ H.ro s hs) rfl ?_;clear H;rintro v4 _ a w ⟨rfl,rfl⟩ - H;refine kH H (Rn rfl ?_);clear H;intro a H;refine s_call iP H wn rfl (iU _ _ H.ro _ 12) rfl ?_;clear H;rintro v6 _ a w ⟨rfl,rfl⟩ - H;refine kH H (Rm rfl (Rv fC rfl (Rc rfl ?_)));clear H;intro a H;refine s_call iP H wn rfl (iU _ _ H.ro _ 10) rfl ?_;clear H;rintro v10 _ a w ⟨rfl,rfl⟩ - H;refine ig nL eP [_,_] [_,_] H wn rfl rfl rfl rfl rfl (by intro i q h;match i,h with|0,h=>exact h|1,h=>exact h|n+2,h=>simp at h) rfl rfl ?_;clear H;intro b11 a w Ce H;obtain ⟨sF,zl,Eb,H⟩:=H.dQ;refine s_call oI H wn rfl (oJ _ _ H.ro _ _ (vG Eb)) rfl ?_;clear H;rintro v12 _ a w ⟨rfl,rfl⟩ - H;exact kH H (ak K2 rfl (LR results164 rfl fun H=>H.rt rfl))
def JW (c:Int):Bool:=decide (97≤mU .or .u8 c 32) && decide (mU .or .u8 c 32≤122)
def CG (c:Int):Bool:=(decide (48≤c) && decide (c≤57)) || decide (c=45) || decide (c=95)
def xS (s:ByteArray) (k:Nat):Bool:=JW (dG s k) || (decide (k≠0) && CG (dG s k))
def pK (s:ByteArray):Bool:=decide (1≤s.size∧s.size≤40) && (List.range s.size).all (xS s)
theorem Md (G:GH) (w0:World) (hG:Hold G w0) (s:ByteArray) (hs:s.size < 4611686018427387904):Calls prog 77 #[.string s] w0 (aZ w0 G fun u G'=>u=.bool (pK s)∧G=G'):=by
 refine eN [(0,_)] func77 rfl ntmps77 rfl rfl hG ?_;intro a H;refine kP H (SR fun _ K1=>ak K1 rfl (SQ fun _ K2=>SR fun _ K3=>Rm rfl (Rv fC rfl (Rc rfl (Rm rfl (Sp 10 rfl ?_ ?_)))))) <;> clear H K1
 ·intro h10 a H
  try have uH:=dT h10
  exact kH H (cK h10 rfl (Pt h10 rfl (Kz K3 (Ct rfl rfl (SR fun _ K4=>ak K4 rfl (LR results77 rfl fun H=>H.rt ⟨aM (by unfold pK;rw [kF (by omega)];rfl),rfl⟩))))))
 intro h10 a H
 try have uH:=dF h10
 refine kH H (YM h10 rfl ?_);clear H;intro a H;refine CU fC H (wg H rfl rfl h10) rfl rfl ?_;clear H;intro a H;refine kH H (YC h10 rfl (Pf h10 rfl (Kz K3 (Cd rfl ?_ ?_)))) <;> clear H K3
 ·intro dX a H
  try have kJ:=dT dX
  exact kP H (SR fun _ K5=>ak K5 rfl (LR results77 rfl fun H=>H.rt ⟨aM (by unfold pK;rw [kF (by omega)];rfl),rfl⟩))
 intro dX a H
 try have kJ:=dF dX
 refine kP H (Kc K2 (SQ fun _ K6=>SR fun _ K7=>Rm rfl (Rv fC rfl (Rm rfl (Kz K7 (SB ?_))))));clear H K2 K7;intro a H;skip;refine gq (ι:=Nat) (Tc:=[(0,_),(16,_)]) (Lc:=[]) (fun gh=>[(17,vi gh)]) (fun gh=>[]) (fun gh=>G) (fun gh=>gh≤s.size∧(List.range gh).all (xS s)=true) (fun gh=>s.size - gh) (0) (by exact (H).sub ⟨rfl,rfl,rfl,aD⟩) ?_ ?_
 ·exact ⟨gW _,rfl⟩
 clear H;intro gh a w hI H;obtain ⟨k,hgh⟩:∃ x,x=gh:=⟨_,rfl⟩;subst hgh;obtain ⟨hk,hall⟩:=hI;dsimp only [lca,aV] at H;refine kP H (SR fun _ K8=>Rc rfl (Kz K8 (SQ fun _ K9=>Cd rfl ?_ ?_))) <;> clear H K8
 ·intro h18 a H
  try have rZ:=dT h18
  have hk2:k < s.size:=by omega
  refine kP H (Kc K9 (SQ fun _ aQ=>SB (SR fun _ bH=>Rm rfl (ak bH rfl (SR fun _ bR=>Rm rfl (Rm rfl ?_))))));clear H K9 bH;intro a H;refine mF k fC H wn rfl rfl rfl (by omega) rfl ?_;clear H;intro a H;rw [← iY] at H;refine Hz rfl H wn rfl rfl rfl ?_;clear H;intro a H;refine kH H (ak bR rfl ?_);clear H bR;intro a H;refine uU (ι:=Bool) (Tc:=[(0,_),(3,_),(16,_),(17,_)]) (Lc:=[]) (fun gh=>[(5,.bool gh)]) (fun gh=>[]) (fun gh=>G) (fun gh=>gh=JW (dG s k)) (by exact (H).sub ⟨rfl,rfl,rfl,rfl,aD⟩) ?_ ?_
  ·skip;refine kP H (SC (Rm rfl (Rc rfl (Rm rfl (Sp 26 rfl ?_ ?_))))) <;> clear H
   ·intro iH a H
    try have p26:=dT iH
    refine kH H (YM iH rfl (YC iH rfl (Pt iH rfl (Ra rfl ?_))));clear H;intro a H;refine aH ?_;refine ⟨_,by exact (H).sub ⟨rfl,rfl,rfl,rfl,rfl,aD⟩,?_⟩
    unfold JW;first|(simp_all;done)|(simp_all;omega)
   intro iH a H
   try have p26:=dF iH
   refine kH H (bO iH rfl (Pf iH rfl (Ra rfl ?_)));clear H;intro a H;refine aH ?_;refine ⟨_,by exact (H).sub ⟨rfl,rfl,rfl,rfl,rfl,aD⟩,?_⟩
   unfold JW;first|(simp_all;done)|(simp_all;omega)
  clear H;intro gh a w hI H;obtain ⟨lt,hgh⟩:∃ x,x=gh:=⟨_,rfl⟩;subst hgh;have hlt:=hI;dsimp only [lca,aV] at H;refine uU (ι:=Bool) (Tc:=[(0,_),(3,_),(5,_),(16,_),(17,_)]) (Lc:=[]) (fun gh=>[(6,.bool gh)]) (fun gh=>[]) (fun gh=>G) (fun gh=>gh=CG (dG s k)) (by exact (H).sub ⟨rfl,rfl,rfl,rfl,rfl,aD⟩) ?_ ?_
  ·skip;refine kP H (SC (Rm rfl (Rm rfl ?_)));clear H;intro a H;refine mF k fC H wn rfl rfl rfl (by omega) rfl ?_;clear H;intro a H;rw [← iY] at H;refine kH H (Rc rfl (Rm rfl (Sp 34 rfl ?_ ?_))) <;> clear H
   ·intro eT a H
    try have p34:=dT eT
    refine kH H (YM eT rfl (YM eT rfl ?_));clear H;intro a H;refine mF k fC H (wg H rfl rfl eT) rfl rfl rfl (by omega) rfl ?_;clear H;intro a H;rw [← iY] at H;refine kH H (YC eT rfl (Pt eT rfl (Rm rfl (Sp 40 rfl ?_ ?_)))) <;> clear H
    ·intro qg a H
     try have p40:=dT qg
     refine kH H (bO qg rfl (bO qg rfl (Pt qg rfl (Rm rfl (bO rfl rfl (bO rfl rfl (Pt rfl rfl (Ra rfl ?_))))))));clear H;intro a H;refine aH ?_;refine ⟨_,by exact (H).sub ⟨rfl,rfl,rfl,rfl,rfl,rfl,aD⟩,?_⟩
     unfold CG;first|(simp_all;done)|(simp_all;omega)
    intro qg a H
    try have p40:=dF qg
    refine kH H (YM qg rfl (YM qg rfl ?_));clear H;intro a H;refine mF k fC H (wg H rfl rfl qg) rfl rfl rfl (by omega) rfl ?_;clear H;intro a H;rw [← iY] at H;refine kH H (YC qg rfl (Pf qg rfl (Rm rfl (Sp 46 rfl ?_ ?_)))) <;> clear H
    ·intro h46 a H
     try have p46:=dT h46
     refine kH H (bO h46 rfl (bO h46 rfl (Pt h46 rfl (Ra rfl ?_))));clear H;intro a H;refine aH ?_;refine ⟨_,by exact (H).sub ⟨rfl,rfl,rfl,rfl,rfl,rfl,aD⟩,?_⟩
     unfold CG;first|(simp_all;done)|(simp_all;omega)
    intro h46 a H
    try have p46:=dF h46
    refine kH H (YM h46 rfl (YM h46 rfl ?_));clear H;intro a H;refine mF k fC H (wg H rfl rfl h46) rfl rfl rfl (by omega) rfl ?_;clear H;intro a H;rw [← iY] at H;refine kH H (YC h46 rfl (Pf h46 rfl (Ra rfl ?_)));clear H;intro a H;refine aH ?_;refine ⟨_,by exact (H).sub ⟨rfl,rfl,rfl,rfl,rfl,rfl,aD⟩,?_⟩
    unfold CG;first|(simp_all;done)|(simp_all;omega)
   intro eT a H
   try have p34:=dF eT
   refine kH H (bO eT rfl (bO eT rfl (Pf eT rfl (Rm rfl ?_))));clear H;intro a H;(iterate 2 refine Km H (wg H rfl rfl rfl) rfl rfl ?_;clear H;intro a H);refine mF k fC H (wg H rfl rfl rfl) rfl rfl rfl (by omega) rfl ?_;clear H;intro a H;rw [← iY] at H;refine Kh H (wg H rfl rfl rfl) rfl rfl rfl rfl ?_;clear H;intro a H;refine kH H (Pf rfl rfl (Rm rfl (Sp 46 rfl ?_ ?_))) <;> clear H
   ·intro h46 a H
    try have p46:=dT h46
    refine kH H (bO h46 rfl (bO h46 rfl (Pt h46 rfl (Ra rfl ?_))));clear H;intro a H;refine aH ?_;refine ⟨_,by exact (H).sub ⟨rfl,rfl,rfl,rfl,rfl,rfl,aD⟩,?_⟩
    unfold CG;first|(simp_all;done)|(simp_all;omega)
   intro h46 a H
   try have p46:=dF h46
   refine kH H (YM h46 rfl (YM h46 rfl ?_));clear H;intro a H;refine mF k fC H (wg H rfl rfl h46) rfl rfl rfl (by omega) rfl ?_;clear H;intro a H;rw [← iY] at H;refine kH H (YC h46 rfl (Pf h46 rfl (Ra rfl ?_)));clear H;intro a H;refine aH ?_;refine ⟨_,by exact (H).sub ⟨rfl,rfl,rfl,rfl,rfl,rfl,aD⟩,?_⟩
   unfold CG;first|(simp_all;done)|(simp_all;omega)
  clear H;intro gh a w hI H;obtain ⟨ot,hgh⟩:∃ x,x=gh:=⟨_,rfl⟩;subst hgh;have hot:=hI;dsimp only [lca,aV] at H;refine kP H (SR fun _ bY=>Rm rfl (Rn rfl (Rm rfl (Sp 54 rfl ?_ ?_)))) <;> clear H
  ·intro gX a H
   try have p54:=dT gX
   refine kH H (YM gX rfl (YC gX rfl (YM gX rfl (Sp 57 rfl ?_ ?_)))) <;> clear H
   ·intro h57 a H
    try have p57:=dT h57
    refine kH H (bO h57 rfl (PT gX h57 rfl (Pt gX rfl (Kz bY (Ct rfl rfl (SR fun _ bX=>ak bX rfl ?_))))));clear H bY bX;intro a H;refine lr H results77 rfl ?_
    first
     | exact H.rt ⟨aM (by
       unfold pK
       rw [show k=s.size by omega] at hall
       rw [hall,kT (by omega)];rfl),rfl⟩
     | exact H.rt ⟨aM (by
       unfold pK
       rw [show (List.range s.size).all (xS s)=false from List.all_eq_false.2 ⟨k,by simpa using hk2,by unfold xS;simp_all⟩,Bool.and_false]),rfl⟩
   intro h57 a H
   try have p57:=dF h57
   refine kH H (YM h57 rfl (YN h57 rfl (PF gX h57 rfl (Pt gX rfl (Kz bY (Cd rfl ?_ ?_)))))) <;> clear H bY
   ·intro rR a H
    try have p61:=dT rR
    refine kP H (SR fun _ dO=>ak dO rfl ?_);clear H dO;intro a H;refine lr H results77 rfl ?_
    first
     | exact H.rt ⟨aM (by
       unfold pK
       rw [show k=s.size by omega] at hall
       rw [hall,kT (by omega)];rfl),rfl⟩
     | exact H.rt ⟨aM (by
       unfold pK
       rw [show (List.range s.size).all (xS s)=false from List.all_eq_false.2 ⟨k,by simpa using hk2,by unfold xS;simp_all⟩,Bool.and_false]),rfl⟩
   intro rR a H
   try have p61:=dF rR
   refine kP H (Kc aQ (SC (Rd rfl (Rm rfl ?_))));clear H aQ;intro a H;refine aH ?_;refine eO ((k+1)) (by exact (H).sub ⟨rfl,rfl,rfl,aD⟩) ?_ ?_
   ·exact ⟨by omega,by rw [List.range_succ,List.all_append,hall];simp [xS];simp_all⟩
   first|omega|(dsimp only;omega)
  intro gX a H
  try have p54:=dF gX
  refine kH H (cK gX rfl (Ku rfl (Ku rfl (Ks gX rfl (Pf gX rfl (Kz bY (Cf rfl rfl (Kc aQ (SC (Rd rfl (Rm rfl ?_)))))))))));clear H bY aQ;intro a H;refine aH ?_;refine eO ((k+1)) (by exact (H).sub ⟨rfl,rfl,rfl,aD⟩) ?_ ?_
  ·exact ⟨by omega,by rw [List.range_succ,List.all_append,hall];simp [xS];simp_all⟩
  first|omega|(dsimp only;omega)
 intro h18 a H
 try have rZ:=dF h18
 refine fI ?_;refine K6 _ _ ?_;clear K6;refine kP H (SR fun _ dJ=>ak dJ rfl ?_);clear H dJ;intro a H;refine lr H results77 rfl ?_
 first
  | exact H.rt ⟨aM (by
    unfold pK
    rw [show k=s.size by omega] at hall
    rw [hall,kT (by omega)];rfl),rfl⟩
  | exact H.rt ⟨aM (by
    unfold pK
    rw [show (List.range s.size).all (xS s)=false from List.all_eq_false.2 ⟨k,by simpa using hk2,by unfold xS;simp_all⟩,Bool.and_false]),rfl⟩
end
section
open Go.RowKit
section
variable {N:Nat} {D:List Deferred} {w0:World} {F:Nat→Prop} {G0 G:GH} {L:OL} {T:List (Nat × aj)}
variable {r:Option Nat} {P:Program} {ops:Array Oper} {Q:Exit→Act→World→Prop} {rest:List Oper} {a:Act} {w:World}
variable {d:Nat} {ty:TypeId} {pos:String} {aK:Array Edge} {g:Option (Nat × Bool)}
end
end
section
open Go.RowKit
section
variable {N:Nat} {D:List Deferred} {w0:World} {F:Nat→Prop} {G0 G:GH} {L:OL} {T T':List (Nat × aj)}
variable {r:Option Nat} {P:Program} {Q:Exit→Act→World→Prop} {l:List Oper} {a a':Act} {w w':World} {ε:Type}
def Dp (l:List Oper) (pr:ε→Nat→aj→Prop) (T:List (Nat × aj)) (S:Nat→Bool) (E:ε) (T':List (Nat × aj)):Prop :=
 (∀ t v,lk T t=some v→lk T' t=some v)∧∀ i d,S i=true→fq l i=some d→∃ v,lk T' d=some v∧pr E i v
theorem Dp.put {pr:ε→Nat→aj→Prop} {S:Nat→Bool} {E E':ε} {i d:Nat} {v:aj} (h:Dp l pr T S E T') (hok:Zz l T=true) (hi:fq l i=some d) (hv:pr E' i v) (hE:∀ j u,j≠i→pr E j u→pr E' j u):Dp l pr T (gD S i) E' ((d,v) :: T'):=by
 have hil:=Am hi
 have hok1:=lY.1 hok i (qP.2 hil)
 rw [mo,hi] at hok1
 simp only [jS,Option.isNone_iff_eq_none,lY,qP] at hok1
 refine ⟨fun t u ht=>?_,fun j e hj he=>?_⟩
 ·rw [rY (fun e=>by subst e;rw [hok1.1] at ht;cases ht)];exact h.1 t u ht
 ·by_cases hji:j=i
  ·subst hji;rw [hi] at he;cases he;exact ⟨v,tF _ _ _,hv⟩
  ·have hSj:S j=true:=by unfold gD at hj;rwa [ah hji] at hj
   obtain ⟨u,hu1,hu2⟩:=h.2 j e hSj he
   have hne:d≠e:=by
    intro e';subst e'
    have h2:=hok1.2 j (Am he)
    have hb:Nat.beq i j=false:=Ak (fun h=>hji h.symm)
    rw [hb,he] at h2
    simp at h2
   exact ⟨u,by rw [rY hne];exact hu1,hE j u hji hu2⟩
theorem Dp.add {pr:ε→Nat→aj→Prop} {S:Nat→Bool} {E:ε} (h:Dp l pr T S E T') {t:Nat} {u:aj} (hu:lk T' t=some u):Dp l pr T S E ((t,u) :: T'):=by
 have e:∀ s v,lk T' s=some v→lk ((t,u) :: T') s=some v:=fun s v hs=>by
  by_cases hst:t=s
  ·subst hst;rw [hu] at hs;cases hs;exact tF _ _ _
  ·rw [rY hst];exact hs
 exact ⟨fun s v hs=>e s v (h.1 s v hs),fun i d hi hd=>by
  obtain ⟨v,h1,h2⟩:=h.2 i d hi hd
  exact ⟨v,e d v h1,h2⟩⟩
end
end
section
open Go.RowKit
section
variable {N:Nat} {D:List Deferred} {w0:World} {F:Nat→Prop} {G0 G G1 G2:GH} {L L1:OL} {T Xs:List (Nat × aj)}
variable {r:Option Nat} {P:Program} {Q:Exit→Act→World→Prop} {l:List Oper} {a a':Act} {w w':World}
theorem Yc {id:Nat} (hm:P.follows .mixedOrders=true) (bZ:List (List Nat)) (B:List Nat) (hk:BO l bZ=true) (hB:zK l bZ B=true) (X:(Nat→Bool)→Act→World→Prop) (h0:X (fun _=>false) a w.drew)
  (hstep:∀ i o S a w,l[i]?=some o→B.contains i=false→S i=false→(∀ j∈bZ.getD i [],S j=true)→(∀ j,j < l.length→i∈bZ.getD j []→S j=false)→X S a w→WL r P l.toArray (fun e a' w'=>e=.normal∧X (gD S i) a' w') [o] a w)
  (hend:∀ S a w,(∀ i,i < l.length→B.contains i=false→S i=true)→(∀ i,B.contains i=true→S i=false)→X S a w→WL r P l.toArray (fun e a w=>e=.normal∧Q .normal a w) (qB l B) a w):WP r P (.region id l.toArray true) Q a w:=by
 have hB1:∀ p b,B[p]?=some b→b < l.length∧∀ i,i < l.length→(B.contains i=false∨(B.take p).contains i=true)→i∈bZ.getD b []:=by
  intro p b hp
  simp only [zK,jS] at hB
  have h1:=lY.1 hB.1 p (qP.2 (jr.1 hp).1)
  rw [hp] at h1
  simp only [jS,lY,qP] at h1
  refine ⟨Eq.mp Nat.blt_eq h1.1,fun i hi hor=>?_⟩
  have h2:=h1.2 i hi
  rcases hor with h3|h3
  ·have h4:i∉B:=by simpa using h3
   simpa [h4] using h2
  ·have h4:i∈B.take p:=by simpa using h3
   simpa [h4] using h2
 have hB2:∀ i,i < l.length→B.contains i=false→∀ j∈bZ.getD i [],B.contains j=false:=by
  intro i hi hb j hj
  simp only [zK,jS] at hB
  have h1:=lY.1 hB.2 i (qP.2 hi)
  rw [hb] at h1
  simp only [Bool.false_or,lY] at h1
  simpa using h1 j hj
 refine Q5 hm bZ hk (fun S a w=>((∀ i,B.contains i=true→S i=false)∧X S a w) ∨
   ∃ p,(∀ i,i < l.length→B.contains i=false→S i=true)∧(∀ i,(B.take p).contains i=true→S i=true)∧(∀ q b,B[q]?=some b→p≤q→S b=false)∧WL r P l.toArray (fun e a w=>e=.normal∧Q .normal a w) (qB l (B.drop p)) a w)
  (.inl ⟨fun _ _=>rfl,h0⟩) ?_ ?_
 ·intro i o S a w ho hX dw qo hdesc
  have hil:i < l.length:=(jr.1 ho).1
  by_cases hbi:B.contains i=true
  ·-- an operation of the tail: all that stands ahead of it is done
   obtain ⟨p0,hp0⟩:=List.getElem?_of_mem (by simpa using hbi:i∈B)
   have hall:∀ j,j < l.length→B.contains j=false→S j=true:=fun j hj hb=>qo j ((hB1 p0 i hp0).2 j hj (.inl hb))
   have Oa:∃ p,(∀ i,(B.take p).contains i=true→S i=true)∧(∀ q b,B[q]?=some b→p≤q→S b=false)∧WL r P l.toArray (fun e a w=>e=.normal∧Q .normal a w) (qB l (B.drop p)) a w:=by
    rcases hX with ⟨h1,hD⟩|⟨p,_,h2,h3,h4⟩
    ·exact ⟨0,by simp,fun q b hq _=>h1 b (by simpa using kR hq),hend S a w hall h1 hD⟩
    ·exact ⟨p,h2,h3,h4⟩
   obtain ⟨p,h2,h3,h4⟩:=Oa
   -- i is the next one
   have hpp:p≤p0:=by
    rcases Nat.lt_or_ge p0 p with hlt|hge
    ·have:(B.take p).contains i=true:=by
      simp only [vM]
      exact kR (i:=p0) (by rw [uR,au hlt];exact hp0)
     rw [h2 i this] at dw;cases dw
    ·exact hge
   have Cj:p < B.length:=by have:=(jr.1 hp0).1;omega
   have hbp:B[p]?=some B[p]:=gy Cj
   have heq:B[p]=i:=by
    rcases Nat.lt_or_ge p p0 with hlt|hge
    ·exfalso
     have hin:B[p]∈bZ.getD i []:=(hB1 p0 i hp0).2 _ (hB1 p _ hbp).1 (.inr (by
      simp only [vM]
      exact kR (i:=p) (by rw [uR,au hlt];exact hbp)))
     have:=qo _ hin
     rw [h3 p _ hbp (bP _)] at this;cases this
    ·have:p=p0:=by omega
     subst this
     rw [hbp] at hp0;simpa using hp0
   have hdrop:B.drop p=i :: B.drop (p+1):=by rw [lu Cj,heq]
   have hops:qB l (B.drop p)=o :: qB l (B.drop (p+1)):=by rw [hdrop];simp [qB,ho]
   rw [hops] at h4
   refine Wz (fun a' w' h5=>.inr ⟨p+1,fun j hj hb=>?_,fun j hj=>?_,fun q b hq hpq=>?_,h5⟩) h4
   ·unfold gD;split
    ·rfl
    ·exact hall j hj hb
   ·unfold gD;split
    ·rfl
    ·rename_i hne
     refine h2 j ?_
     simp only [vM] at hj ⊢
     rw [mP Cj,sK] at hj
     rcases hj with hj|hj
     ·exact hj
     ·simp only [uS] at hj;exact absurd (hj.trans heq) hne
   ·unfold gD
    rw [ah ?_]
    ·exact h3 q b hq (by omega)
    ·rintro rfl
     -- i would stand twice in B: it would come ahead of itself
     have h6:=(hB1 q b hq).2 b (hB1 q b hq).1 (.inr (by
      simp only [vM]
      exact kR (i:=p) (by rw [uR,au (by omega)];rw [hbp,heq])))
     rw [qo _ h6] at dw;cases dw
  ·have Ch:B.contains i=false:=by cases h:B.contains i with|false=>rfl|true=>exact absurd h hbi
   rcases hX with ⟨h1,hX⟩|⟨p,h0,_,_,_⟩
   ·refine uO (fun e a' w' ⟨he,hD⟩=>⟨he,.inl ⟨fun j hj=>?_,hD⟩⟩) (hstep i o S a w ho Ch dw qo hdesc hX)
    unfold gD
    rw [ah (by rintro rfl;rw [Ch] at hj;cases hj)]
    exact h1 j hj
   ·rw [h0 i hil Ch] at dw;cases dw
 ·intro S a w hall hX
  rcases hX with ⟨h1,hD⟩|⟨p,_,_,h3,h4⟩
  ·have hnil:B=[]:=by
    cases B with
    | nil=>rfl
    | cons b B=>have h5:=h1 b (by simp);rw [hall b (hB1 0 b rfl).1] at h5;cases h5
   subst hnil
   exact (hend S a w (fun j hj _=>hall j hj) h1 hD).2
  ·have hnil:B.drop p=[]:=by
    cases hd:B.drop p with
    | nil=>rfl
    | cons b B' =>
     have hb:B[p]?=some b:=by
      have:=ay (fun x:List Nat=>x[0]?) hd
      simpa using this
     have h5:=h3 p b hb (bP _)
     rw [hall b (hB1 p b hb).1] at h5;cases h5
   rw [hnil] at h4
   exact h4.2
theorem RQ {pr:Nat→aj→GH→Prop} {S:Nat→Bool} {i d:Nat} {v:aj} (hok:mo l T i=true) (hi:fq l i=some d) 
  (HT:St N D w0 F G0 G1 L T a w) (Hb:St N D w0 F G0 G1 L (Xs++full N a) a w) (hG:∀ k o,G k=some o→G1 k=some o) (hv:∀ j d,j≠i→S j=true→fq l j=some d→∃ v,a.tmps[d]?=some v∧pr j v G1)
  (hp:pr i v G1) (H:St N D w0 F G0 G1 L1 ((d,v) :: (Xs++full N a)) a' w'):DX N D w0 F G0 G L1 T l pr (gD S i) a' w':=by
 have hil:i < l.length:=Am hi
 have hok1:=hok
 rw [mo,hi] at hok1
 simp only [jS,Option.isNone_iff_eq_none,lY,qP] at hok1
 have hsame:∀ t,t≠d→a'.tmps[t]?=a.tmps[t]?:=by
  intro t ht
  by_cases hlt:t < N
  ·have h1:∃ u,lk (Xs++full N a) t=some u:=by
    rw [JU]
    cases lk Xs t with
    | some u=>exact ⟨u,rfl⟩
    | none=>exact ⟨_,JV a hlt⟩
   obtain ⟨u,hu⟩:=h1
   rw [Hb.get t u hu,H.get t u (by rw [rY (Ne.symm ht)];exact hu)]
  ·rw [Array.getElem?_eq_none (by rw [H.kU];omega),Array.getElem?_eq_none (by rw [Hb.kU];omega)]
 refine ⟨G1,hG,⟨H.kU,fun t u ht=>?_,H.pX,H.hp⟩,fun j e hj he=>?_⟩
 ·rw [hsame t (fun e=>by rw [e,hok1.1] at ht;cases ht)]
  exact HT.get t u ht
 ·by_cases hji:j=i
  ·subst hji
   rw [hi] at he
   simp only [lq] at he
   subst he
   exact ⟨v,H.get d v (tF _ _ _),hp⟩
  ·have hSj:S j=true:=by unfold gD at hj;rwa [ah hji] at hj
   obtain ⟨u,hu1,hu2⟩:=hv j e hji hSj he
   have hne:e≠d:=by
    intro e'
    subst e'
    have h2:=hok1.2 j (Am he)
    rw [Ak (fun h=>hji h.symm),he] at h2
    simp at h2
   exact ⟨u,by rw [hsame e hne];exact hu1,hu2⟩
end
end
section
open Go.RowKit
section
variable {N:Nat} {D:List Deferred} {w0:World} {F:Nat→Prop} {G0 G:GH} {L:OL} {T:List (Nat × aj)}
variable {r:Option Nat} {P:Program} {ops:Array Oper} {Q:Exit→Act→World→Prop} {rest:List Oper} {a:Act} {w:World}
variable {d:Nat} {ty:TypeId} {pos:String} {aK:Array Edge} {g:Option (Nat × Bool)}
theorem EH {t:TypeId} (H:St N D w0 F G0 G L T a w) (hw:Region.wanted ⟨some d,.makeMap t none,ty,pos,aK,g⟩ (yielded ops a.tmps)=true) (hd:Nat.blt d N=true)
  (k:∀ b a' w',w0.heap.size≤b→St N D w0 F G0 G ((b,.map #[] 0) :: L) ((d,.map (some b)) :: T) a' w'→WL r P ops Q rest a' w'):WL r P ops Q (⟨some d,.makeMap t none,ty,pos,aK,g⟩ :: rest) a w:=by
 refine eY (v:=.map (some w.heap.size)) (w':=w.alloc (.map #[] 0)) hw rfl ?_ (k _ _ _ H.hp.size (H.put hd _ (H.hp.alloc _)))
 simp [execOp,Instr.makeMap,newObj,Sem.run,cO]
def zy (an:Option (Nat × aj)) (zv:aj):aj × Bool:=match an with|some (_,v)=>(v,true)|none=>(zv,false)
theorem agt {t kt et:TypeId} {kd:TypeDesc} {x y:Operand} {b i clock:Nat} {es:Array MapEntry} {ky zv:aj} (an:Option (Nat × aj)) (hm:P.underlying t=some (.map kt et)) (hk:P.underlying kt=some kd) (hz:(P.info? et).map (fun i=>i.zero)=some (some zv)) (H:St N D w0 F G0 G L T a w)
  (hw:Region.wanted ⟨some d,.lookup t x y true,ty,pos,aK,g⟩ (yielded ops a.tmps)=true) (hx:ev T x=some (.map (some b))) (hy:ev T y=some ky) (hi:L[i]?=some (b,.map es clock)) (hky:MapKept.IsKey kd ky) (hf:Instr.findNow kd ky es.toList 0=some an) (hd:Nat.blt d N=true)
  (k:∀ a',St N D w0 F G0 G L ((d,.tuple #[(zy an zv).1,.bool (zy an zv).2]) :: T) a' w→WL r P ops Q rest a' w):WL r P ops Q (⟨some d,.lookup t x y true,ty,pos,aK,g⟩ :: rest) a w:=by
 have hb:w.heap[b]?=some (.map es clock):=H.hp.own _ (kR hi)
 obtain ⟨inf,hi1,hi2⟩:=kS.1 hz
 refine eY (v:=.tuple #[(zy an zv).1,.bool (zy an zv).2]) (w':=w) hw rfl ?_ (k _ (H.put hd _ H.hp))
 have h1:=MapKept.run_checkKey (w:=w) hk hky es.isEmpty 9999
 have h2:=MapKept.run_findKey (w:=w) hk hf
 cases an with
 | none=>simp [execOp,Instr.lookup,H.ev hx,H.ev hy,cO,nJ hm,MapKept.run_getObj_map hb,h1,h2,Result.andThen,zeroValue,CP hi1,hi2,zy]
 | some q=>simp [execOp,Instr.lookup,H.ev hx,H.ev hy,cO,nJ hm,MapKept.run_getObj_map hb,h1,h2,Result.andThen,zy]
theorem ahR {w:World} {b clock:Nat} {es:Array MapEntry} {o:Obj} (h:w.heap[b]?=some (.map es clock)):rD b o w { w with heap:=w.heap.setIfInBounds b o }:=by
 have hlt:b < w.heap.size:=(Array.getElem?_eq_some_iff.1 h).1
 refine ⟨rfl,rfl,rfl,by simp,by simp [hlt],fun k hk=>?_⟩
 simp only
 rw [Array.getElem?_setIfInBounds_ne (Ne.symm hk)]
theorem Vq {t kt et:TypeId} {kd:TypeDesc} {x y z:Operand} {b i clock:Nat} {es:Array MapEntry} {ky v:aj} (hm:P.underlying t=some (.map kt et)) (hk:P.underlying kt=some kd) (H:St N D w0 F G0 G L T a w)
  (hw:Region.wanted ⟨none,.mapUpdate t x y z,ty,pos,aK,g⟩ (yielded ops a.tmps)=true) (hx:ev T x=some (.map (some b))) (hy:ev T y=some ky) (hzv:ev T z=some v) (hi:L[i]?=some (b,.map es clock)) (hky:MapKept.IsKey kd ky) (hf:Instr.findNow kd ky es.toList 0=some none)
  (k:∀ w',St N D w0 F G0 G (L.set i (b,.map (es.push ⟨ky,v,clock⟩) (clock+1))) T a w'→WL r P ops Q rest a w'):WL r P ops Q (⟨none,.mapUpdate t x y z,ty,pos,aK,g⟩ :: rest) a w:=by
 have hb:w.heap[b]?=some (.map es clock):=H.hp.own _ (kR hi)
 have h1:=MapKept.run_checkKey (w:=w) hk hky false 9999
 have h2:=MapKept.run_findKey (w:=w) hk hf
 refine WA (w':={ w with heap:=w.heap.setIfInBounds b (.map (es.push ⟨ky,v,clock⟩) (clock+1)) }) hw rfl ?_ (k _ (H.move (H.hp.upd hi (ahR hb))))
 simp [execOp,Instr.mapUpdate,H.ev hx,H.ev hy,H.ev hzv,cO,nJ hm,MapKept.run_getObj_map hb,h1,h2,MapKept.run_setObj_map _ hb,Result.andThen]
theorem agw {t yt:TypeId} {x y:Operand} {p q:ByteArray} (H:St N D w0 F G0 G L T a w) (hw:Region.wanted ⟨some d,.binOp .neq t x y yt,ty,pos,aK,g⟩ (yielded ops a.tmps)=true) (hx:ev T x=some (.string p)) (hy:ev T y=some (.string q)) (hd:Nat.blt d N=true)
  (k:∀ a',St N D w0 F G0 G L ((d,.bool (!(p.toList == q.toList))) :: T) a' w→WL r P ops Q rest a' w):WL r P ops Q (⟨some d,.binOp .neq t x y yt,ty,pos,aK,g⟩ :: rest) a w:=by
 refine eY (v:=.bool (!(p.toList == q.toList))) (w':=w) hw rfl ?_ (k _ (H.put hd _ H.hp))
 simp [execOp,H.ev hx,H.ev hy,cO,eqGuard,binOp,Op.stringOp]
theorem Hp.UD (h:Hp w0 F G0 G L w) {b o:Nat} {c:Array aj} {e:TypeId} {fz:Nat × Nat} {v:aj} (hm:(b,Obj.cells c e fz)∈L) (hv:c[o]?=some v):w.cell? ⟨b,o,none⟩=some v:=by
 have:=h.own _ hm
 simp only [World.cell?,this]
 exact hv
end
end
section
open Go.RowKit
section
variable {N:Nat} {D:List Deferred} {w0:World} {F:Nat→Prop} {G0 G G1 G2:GH} {L L1:OL} {T Xs:List (Nat × aj)}
variable {r:Option Nat} {P:Program} {Q:Exit→Act→World→Prop} {l:List Oper} {a a':Act} {w w':World}
end
end
section
open Go.RowKit
section
variable {N:Nat} {D:List Deferred} {w0:World} {F:Nat→Prop} {G0 G G1 G2:GH} {L L1 L2:OL} {T Xs:List (Nat × aj)}
variable {r:Option Nat} {P:Program} {Q:Exit→Act→World→Prop} {l:List Oper} {a a':Act} {w w':World}
end
end
section
open Go.RowKit
theorem aeW:liesAt prog prog.depth 277 (7 / prog.cellsOf 277) 2 124 1=true:=by kernel_rfl
theorem ES:Ty prog 5 1 1 [.int .u8 0] false:=⟨by kernel_rfl,by kernel_rfl⟩
abbrev fV (b:Nat) (s:ByteArray) (i:Int) (p v q:aj) (pl e:Int):Nat × Obj:=(b,.cells #[.string s,vi i,p,v,q,vi pl,vi e] 277 (0,0))
theorem agK (G:GH) (L:OL) (w0:World) (b:Nat) (s:ByteArray) (i:Int) (A:Option Addr) (n c:Nat) (B:Option Addr) (m d:Nat) (pl e:Int) (hO:gI G (fV b s i (.pointer none) (.slice A n c) (.slice B m d) pl e :: L) w0) :
  Calls prog 115 #[(aJ b 2)] w0 (fT w0 G (fV b s i (.pointer none) (.slice A n c) (.slice B m d) pl e :: L) fun u G' L'=>L'=fV b s i (aJ b 2) (.slice A n c) (.slice B m d) pl e :: L∧G'=G):=by
 refine jh (N:=20) (T:=[(0,_)]) func115 rfl ntmps115 rfl rfl hO ?_;intro a H;refine kP H (SR fun _ K1=>Rm rfl (Rk rfl (aO yN zM 0 rfl rfl ?_)));clear H;intro a H;refine Ki yg H wn rfl rfl ?_;clear H;intro a H;refine K1 _ _ ?_;clear K1;refine mV H rfl ?_ ?_
 ·intro h6
  refine kP H (SC (Rm rfl (Rm rfl ?_)));clear H;intro a H;refine Vz yg KG EI H wn rfl 0 rfl rfl rfl ?_;clear H;intro a H;refine Vs (xs:=[.tmp 9]) (UK _) H wn rfl rfl ?_;clear H;intro a H;refine Vo KG yg EI H wn rfl 0 rfl aeW rfl ?_;clear H;intro a H;refine kH H (Rk rfl (Rf yN rfl ?_));clear H;intro a H;refine aX zM 0 (vs:=[_]) _ H wn rfl rfl rfl rfl rfl rfl rfl rfl ?_;clear H;intro w H;dsimp only [List.set,setRow] at H;refine aH ?_;refine (leave0 H results115 ?_).2;exact H.hp.eU ⟨rfl,rfl⟩
 intro h6
 exact absurd h6 (by decide)
theorem agL (G:GH) (L:OL) (w0:World) (b:Nat) (s:ByteArray) (i:Int) (A:Option Addr) (n c:Nat) (B:Option Addr) (m d:Nat) (pl e:Int) (hO:gI G (fV b s i (aJ b 2) (.slice A n c) (.slice B m d) pl e :: L) w0) :
  Calls prog 115 #[(aJ b 2)] w0 (fT w0 G (fV b s i (aJ b 2) (.slice A n c) (.slice B m d) pl e :: L) fun u G' L'=>L'=fV b s i (aJ b 2) (.slice A n c) (.slice B m d) pl e :: L∧G'=G):=by
 refine jh (N:=20) (T:=[(0,_)]) func115 rfl ntmps115 rfl rfl hO ?_;intro a H;refine kP H (SR fun _ K1=>Rm rfl (Rk rfl (aO yN zM 0 rfl rfl ?_)));clear H;intro a H;refine Ki yg H wn rfl rfl ?_;clear H;intro a H;refine K1 _ _ ?_;clear K1;refine mV H rfl ?_ ?_
 ·intro h6
  exact absurd h6 (by simp)
 intro h6
 refine kP H (SR fun _ K2=>Rm rfl (Rk rfl (aO yN zM 0 rfl rfl (Rm rfl ?_))));clear H;intro a H;refine Vr yg EI H wn rfl rfl rfl ?_;clear H;intro a H;refine K2 _ _ ?_;clear K2;refine mV H rfl ?_ ?_
 ·intro h19
  exact absurd h19 (by decide)
 intro h19
 refine fQ ?_;refine (leave0 H results115 ?_).2;exact H.hp.eU ⟨rfl,rfl⟩
theorem agM (G:GH) (L:OL) (w0:World) (b:Nat) (s:ByteArray) (i:Int) (p:aj) (A:Option Addr) (n c:Nat) (B:Option Addr) (m d:Nat) (pl e:Int) (hp:p=.pointer none∨p=(aJ b 2)) (hO:gI G (fV b s i p (.slice A n c) (.slice B m d) pl e :: L) w0) :
  Calls prog 115 #[(aJ b 2)] w0 (fT w0 G (fV b s i p (.slice A n c) (.slice B m d) pl e :: L) fun u G' L'=>L'=fV b s i (aJ b 2) (.slice A n c) (.slice B m d) pl e :: L∧G'=G):=by
 rcases hp with rfl|rfl
 ·exact agK G L w0 b s i A n c B m d pl e hO
 exact agL G L w0 b s i A n c B m d pl e hO
theorem Wu (G:GH) (Lp Lo:OL) (w0:World) (b:Nat) (s:ByteArray) (i:Int) (p v:aj) (B:Option Addr) (m d:Nat) (pl e:Int) (n:Nat) (xs:List aj) (c:Int) (hp:p=.pointer none∨p=(aJ b 2)) (hO:gI G (fV b s i p v (.slice B m d) pl e :: (Lp++Lo)) w0) (hrow:eF 5 1 v n xs Lo) (hn:n≤4294967296) :
  Calls prog 196 #[(aJ b 2),.int .u8 c] w0 (fT w0 G (fV b s i p v (.slice B m d) pl e :: (Lp++Lo)) fun u G' L'=>∃ v' gP,L'=fV b s i (aJ b 2) v' (.slice B m d) pl e :: (Lp++gP)∧eF 5 1 v' (n+1) (xs++[.int .u8 c]) gP∧G'=G):=by
 have hml:maxLen=9223372036854775807:=rfl;obtain ⟨A,c0,rfl,-,-⟩:=hrow.shape;obtain ⟨Lt,nE⟩:∃ x,x=Lp++Lo:=⟨_,rfl⟩;rw [← nE] at hO ⊢;refine jh (N:=17) (T:=[(0,_),(1,_)]) func196 rfl ntmps196 rfl rfl hO ?_;intro a H;refine kP H (SR fun _ K1=>ak K1 rfl (SR fun _ K2=>Rm rfl ?_));clear H K1;intro a H;refine gT RU (Li:=[]) (L:=fV b s i p _ (.slice B m d) pl e :: Lt) H wn rfl (agM _ _ _ b s i p A n c0 B m d pl e hp (Hp.owns (Li:=[]) H.hp)) rfl ?_;clear H;rintro v6 _ L6 a w ⟨rfl,rfl⟩ TI H;dsimp only [List.nil_append] at H;refine K2 _ _ ?_;clear K2;refine kP H (SR fun _ K3=>Rm rfl (Rm rfl (Rk rfl (aO uZ vH 0 rfl rfl (Rm rfl ?_)))));clear H;intro a H;refine ig tN ES [_] [_] H wn rfl rfl rfl rfl rfl (by intro i q h;match i,h with|0,h=>exact h|n+1,h=>simp at h) rfl rfl ?_;clear H;intro b13 a w Gx H;subst nE;have H:=St.un (A:=[_,_]) (B:=Lp) (C:=Lo) H;refine tJ (Li:=[_,_]++Lp) (Lo:=Lo) (news:=[.int .u8 c]) tN ES rfl rfl H wn rfl rfl hrow rfl (H.hp.bT 0 rfl rfl) rfl (by omega) (by omega) rfl ?_;clear H;intro v14 QG a w GZ H;obtain ⟨PX,c14,rfl,-,-⟩:=GZ.shape;have H:=H.assoc;dsimp only [lca,aV] at H;refine kH H (Rk rfl (Rf uZ rfl ?_));clear H;intro a H;refine aX vH 1 (vs:=[_]) _ H wn rfl rfl rfl rfl rfl rfl rfl rfl ?_;clear H;intro w H;dsimp only [List.set,setRow] at H;refine K3 _ _ ?_;clear K3;exact kP H (SR fun _ K4=>ak K4 rfl (LR results196 rfl fun H=>H.hp.cu (L':=fV b s i _ _ _ pl e :: (Lp++QG)) (yG _ _) ⟨_,_,rfl,GZ,rfl⟩))
theorem ahd (G:GH) (L:OL) (w0:World) (b:Nat) (s:ByteArray) (i:Int) (p:aj) (A:Option Addr) (n c:Nat) (B:Option Addr) (m d:Nat) (pl e:Int) (hO:gI G (fV b s i p (.slice A n c) (.slice B m d) pl e :: L) w0) :
  Calls prog 201 #[(aJ b 2)] w0 (fT w0 G (fV b s i p (.slice A n c) (.slice B m d) pl e :: L) fun u G' L'=>u=vi n∧L'=fV b s i p (.slice A n c) (.slice B m d) pl e :: L∧G'=G):=by
 refine jh (N:=8) (T:=[(0,_)]) func201 rfl ntmps201 rfl rfl hO ?_;intro a H;exact kP H (SR fun _ K1=>ak K1 rfl (SR fun _ K2=>Rm rfl (Rk rfl (aO uZ vH 0 rfl rfl (Rl tN rfl (ak K2 rfl (LR results201 rfl fun H=>H.hp.eU ⟨rfl,rfl,rfl⟩)))))))
theorem ahm (G:GH) (L:OL) (w0:World) (b:Nat) (s:ByteArray) (i:Int) (p:aj) (A:Option Addr) (n c:Nat) (B:Option Addr) (m d:Nat) (pl e:Int) (hO:gI G (fV b s i p (.slice A n c) (.slice B m d) pl e :: L) w0) :
  Calls prog 202 #[(aJ b 2)] w0 (fT w0 G (fV b s i p (.slice A n c) (.slice B m d) pl e :: L) fun u G' L'=>L'=fV b s i (.pointer none) (.slice none 0 0) (.slice B m d) pl e :: L∧G'=G):=by
 refine jh (N:=8) (T:=[(0,_)]) func202 rfl ntmps202 rfl rfl hO ?_;intro a H;refine kP H (SR fun _ K1=>Rm rfl (Rk rfl (Rf yN rfl ?_)));clear H;intro a H;refine aX zM 0 (vs:=[_]) _ H wn rfl rfl rfl rfl rfl rfl rfl rfl ?_;clear H;intro w H;dsimp only [List.set,setRow] at H;refine K1 _ _ ?_;clear K1;refine kP H (SC (Rm rfl (Rk rfl (Rf uZ rfl ?_))));clear H;intro a H;refine aX vH 0 (vs:=[_]) _ H wn rfl rfl rfl rfl rfl rfl rfl rfl ?_;clear H;intro w H;dsimp only [List.set,setRow] at H;refine aH ?_;refine (leave0 H results202 ?_).2;exact H.hp.eU ⟨rfl,rfl⟩
theorem ahn (G:GH) (Lp Lo:OL) (w0:World) (b:Nat) (s:ByteArray) (i:Int) (p v:aj) (B:Option Addr) (m d:Nat) (pl e:Int) (l:List UInt8) (hO:gI G (fV b s i p v (.slice B m d) pl e :: (Lp++Lo)) w0) (hrow:eF 5 1 v l.length (Lib.byteCells l) Lo) (h0:l≠[]) :
  Calls prog 59 #[(aJ b 2)] w0 (fT w0 G (fV b s i p v (.slice B m d) pl e :: (Lp++Lo)) fun u G' L'=>u=.string ⟨l.toArray⟩∧L'=fV b s i p v (.slice B m d) pl e :: Lp):=by
 rcases hrow.2 with ⟨-,h,-⟩|⟨b2,cap,cur,rfl,rfl,hc1,hc2,hc3,hc4⟩
 ·exact absurd (List.eq_nil_of_length_eq_zero h) h0
 have hl0:l.length≠0:=fun h=>h0 (List.eq_nil_of_length_eq_zero h);have hml:maxLen=9223372036854775807:=rfl;obtain ⟨Lt,nE⟩:∃ x,x=Lp++[(b2,Obj.cells cur 5 (0,0))]:=⟨_,rfl⟩;rw [← nE] at hO ⊢;refine jh (N:=14) (T:=[(0,_)]) func59 rfl ntmps59 rfl rfl hO ?_;intro a H;refine kP H (SR fun _ K1=>ak K1 rfl (SQ fun _ K2=>?_));clear H K1;intro a H;have H:=H.sub (T':=[(0,_)]) ⟨rfl,aD⟩;refine dI hmx [[],[0],[0,1],[0,1,2],(ra 0 4),[],[5],[5,6],[5,6,7],(ra 5 4),(ra 0 10),(ra 0 11)] [10,11] (by kernel_rfl) [_,_,_,.slice (some ⟨b2,0,none⟩) l.length cap,(aJ b2 0),_,_,_,.slice (some ⟨b2,0,none⟩) l.length cap,_] H (aF (Z0 rfl (Rm rfl)) (Z1 0 3 rfl (Rk rfl)) (Z1 1 4 rfl (Rf uZ rfl)) (Z1 2 5 rfl (Ro vH 0 rfl)) (aF ?_ (Z0 rfl (Rm rfl)) (Z1 5 8 rfl (Rk rfl)) (Z1 6 9 rfl (Rf uZ rfl)) (aF (Z1 7 10 rfl (Ro vH 0 rfl)) (Z1 8 11 rfl (Rl tN rfl)) (bJ rfl) (bJ rfl) dP))) ?_
 ·refine eH 3 6 rfl rfl fun _ a w G1 hG HT H fin=>?_;refine Vw H wn rfl (by omega) rfl ?_;clear H;intro a H;exact fin H iJ rfl
 clear H;intro a w G lU H hv;have H:=H.aT (hv 4 7 rfl rfl) rfl;have H:=H.aT (hv 9 12 rfl rfl) rfl;clear hv;subst nE;have H:=H.perm (List.Perm.cons _ Aj);dsimp only [lca,aV] at H;refine Pm (i:=1) l PL Rb h0 (by omega) H wn rfl rfl rfl (by rw [← hc4,Nat.mul_one]) rfl ?_;clear H;intro fz a w H;dsimp only [List.set] at H;refine kH H (Ra rfl ?_);clear H;intro a H;refine aH ⟨rfl,?_⟩;refine K2 _ _ ?_;clear K2;refine lr H results59 rfl ?_;exact H.hp.cu (L':=fV b s i _ _ _ pl e :: Lp) (List.Sublist.cons_cons _ (yG _ _)) ⟨rfl,rfl⟩
end
section
open Go.RowKit
section
variable {N:Nat} {D:List Deferred} {w0:World} {F:Nat→Prop} {G0 G G1 G2:GH} {L L1 L2:OL} {T Xs:List (Nat × aj)}
variable {r:Option Nat} {P:Program} {Q:Exit→Act→World→Prop} {l:List Oper} {a a':Act} {w w':World}
end
end
section
open Go.RowKit
section
variable {N:Nat} {D:List Deferred} {w0:World} {F:Nat→Prop} {G0 G G1 G2:GH} {L L1 L2:OL} {T Xs:List (Nat × aj)}
variable {r:Option Nat} {P:Program} {Q:Exit→Act→World→Prop} {l:List Oper} {a a':Act} {w w':World}
theorem Zy {pr:Nat→aj→GH→Prop} {S:Nat→Bool} {i d:Nat} {v:aj} (hok:mo l T i=true) (jc:∀ i v (G G':GH),(∀ k o,G k=some o→G' k=some o)→pr i v G→pr i v G') (hi:fq l i=some d)
  (HT:St N D w0 F G0 G1 L T a w) (Hb:St N D w0 F G0 G1 L (Xs++full N a) a w) (hG:∀ k o,G k=some o→G1 k=some o) (hv:∀ j d,j≠i→S j=true→fq l j=some d→∃ v,a.tmps[d]?=some v∧pr j v G1)
  (hG2:∀ k o,G1 k=some o→G2 k=some o) (hp:pr i v G2) (H:St N D w0 F G0 G2 L1 ((d,v) :: (Xs++full N a)) a' w'):DX N D w0 F G0 G L1 T l pr (gD S i) a' w':=by
 have hok1:=hok
 rw [mo,hi] at hok1
 simp only [jS,Option.isNone_iff_eq_none,lY,qP] at hok1
 have hsame:∀ t,t≠d→a'.tmps[t]?=a.tmps[t]?:=by
  intro t ht
  by_cases hlt:t < N
  ·have h1:∃ u,lk (Xs++full N a) t=some u:=by
    rw [JU]
    cases lk Xs t with
    | some u=>exact ⟨u,rfl⟩
    | none=>exact ⟨_,JV a hlt⟩
   obtain ⟨u,hu⟩:=h1
   rw [Hb.get t u hu,H.get t u (by rw [rY (Ne.symm ht)];exact hu)]
  ·rw [Array.getElem?_eq_none (by rw [H.kU];omega),Array.getElem?_eq_none (by rw [Hb.kU];omega)]
 refine ⟨G2,fun k o hk=>hG2 k o (hG k o hk),⟨H.kU,fun t u ht=>?_,H.pX,H.hp⟩,fun j e hj he=>?_⟩
 ·rw [hsame t (fun e=>by rw [e,hok1.1] at ht;cases ht)]
  exact HT.get t u ht
 ·by_cases hji:j=i
  ·subst hji
   rw [hi] at he
   simp only [lq] at he
   subst he
   exact ⟨v,H.get d v (tF _ _ _),hp⟩
  ·have hSj:S j=true:=by unfold gD at hj;rwa [ah hji] at hj
   obtain ⟨u,hu1,hu2⟩:=hv j e hji hSj he
   have hne:e≠d:=by
    intro e'
    subst e'
    have h2:=hok1.2 j (Am he)
    rw [Ak (fun h=>hji h.symm),he] at h2
    simp at h2
   exact ⟨u,by rw [hsame e hne];exact hu1,jc j u _ _ hG2 hu2⟩
theorem Yd {id:Nat} {κ:Type} (k0:κ) (hm:P.follows .mixedOrders=true) (bZ:List (List Nat)) (B:List Nat) (hk:BO l bZ=true) (hB:zK l bZ B=true) (m1 m2 m3:Nat) (ajh:B.contains m1=false) (aji:B.contains m2=false) (adS:B.contains m3=false) (hne:Nat.beq m1 m2=false) (TL:Nat.beq m2 m3=false) (hne1:Nat.beq m1 m3=false) (h12:(bZ.getD m2 []).contains m1=true) (gB:(bZ.getD m3 []).contains m1=true) (h23:(bZ.getD m3 []).contains m2=true)
  (C L2:OL) (ob:Obj) (L3:Nat→κ→OL) (hC:∀ x,x∈C→x∈L) (hC2:∀ x,x∈C→x∈L2) (hC3:∀ b k x,x∈C→x∈L3 b k) (pr:Nat→κ→Nat→aj→GH→Prop)
  (aec:∀ b b' k i v G,Nat.beq i m2=false→(bZ.getD i []).contains m2=false→pr b k i v G→pr b' k i v G)
  (aed:∀ b k k' i v G,Nat.beq i m3=false→(bZ.getD i []).contains m3=false→pr b k i v G→pr b k' i v G)
  (H:St N D w0 F G0 G L T a w)
  (hstep:allI (fun i o=>∀ b k L' S a w G1,(∀ x,x∈C→x∈L')→B.contains i=false→Nat.beq i m1=false→Nat.beq i m2=false→Nat.beq i m3=false→S i=false→(∀ j∈bZ.getD i [],S j=true)→(∀ k o,G k=some o→G1 k=some o)→St N D w0 F G0 G1 L' T a w→(∀ i d,S i=true→fq l i=some d→∃ v,a.tmps[d]?=some v∧pr b k i v G1) →
   WL r P l.toArray (fun e a' w'=>e=.normal∧DX N D w0 F G0 G L' T l (pr b k) (gD S i) a' w') [o] a w) 0 l)
  (adT:∀ o b k S a w G1,l[m1]?=some o→S m1=false→(∀ j∈bZ.getD m1 [],S j=true)→(∀ k o,G k=some o→G1 k=some o)→St N D w0 F G0 G1 L T a w→(∀ i d,i≠m1→S i=true→fq l i=some d→∃ v,a.tmps[d]?=some v∧pr b k i v G1) →
   WL r P l.toArray (fun e a' w'=>e=.normal∧DX N D w0 F G0 G L2 T l (pr b k) (gD S m1) a' w') [o] a w)
  (adU:∀ o k S a w G1,l[m2]?=some o→S m2=false→(∀ j∈bZ.getD m2 [],S j=true)→(∀ k o,G k=some o→G1 k=some o)→St N D w0 F G0 G1 L2 T a w→(∀ b i d,i≠m2→S i=true→fq l i=some d→∃ v,a.tmps[d]?=some v∧pr b k i v G1) →
   WL r P l.toArray (fun e a' w'=>e=.normal∧∃ b,DX N D w0 F G0 G ((b,ob) :: L2) T l (pr b k) (gD S m2) a' w') [o] a w)
  (adV:∀ o b S a w G1,l[m3]?=some o→S m3=false→(∀ j∈bZ.getD m3 [],S j=true)→(∀ k o,G k=some o→G1 k=some o)→St N D w0 F G0 G1 ((b,ob) :: L2) T a w→(∀ k i d,i≠m3→S i=true→fq l i=some d→∃ v,a.tmps[d]?=some v∧pr b k i v G1) →
   WL r P l.toArray (fun e a' w'=>e=.normal∧∃ k,DX N D w0 F G0 G (L3 b k) T l (pr b k) (gD S m3) a' w') [o] a w)
  (hend:∀ b k a w G1,(∀ k o,G k=some o→G1 k=some o)→St N D w0 F G0 G1 (L3 b k) T a w→(∀ i d,B.contains i=false→fq l i=some d→∃ v,a.tmps[d]?=some v∧pr b k i v G1)→WL r P l.toArray (fun e a w=>e=.normal∧Q .normal a w) (qB l B) a w)
  (NW:Nat.blt m2 l.length=true) (NY:Nat.blt m3 l.length=true):WP r P (.region id l.toArray true) Q a w:=by
 have UG:m1≠m2:=fun e=>by subst e;rw [Nat.beq_refl] at hne;cases hne
 have UJ:m2≠m3:=fun e=>by subst e;rw [Nat.beq_refl] at TL;cases TL
 have UH:m1≠m3:=fun e=>by subst e;rw [Nat.beq_refl] at hne1;cases hne1
 refine Yc hm bZ B hk hB (fun S a w=>(S m2=true→S m1=true)∧(S m3=true→S m2=true)∧∃ b k L',L'=(bif S m3 then L3 b k else bif S m2 then (b,ob) :: L2 else bif S m1 then L2 else L)∧DX N D w0 F G0 G L' T l (pr b k) S a w)
  ⟨fun h=>h,fun h=>h,0,k0,L,rfl,G,fun _ _ h=>h,H.move H.hp.drew,fun _ _ h=>absurd (show false=true from h) (by decide)⟩ ?_ ?_
 ·rintro i o S a w ho hb dw qo hdesc ⟨adZ,aea,b,k,L',hL,G1,hG,HS,hv⟩
  have hsub:∀ x,x∈C→x∈L':=fun x hx=>by
   rw [hL]
   cases S m3 with
   | true=>exact hC3 b k x hx
   | false=>cases S m2 with
    | true=>exact rG _ (hC2 x hx)
    | false=>cases S m1 with
     | true=>exact hC2 x hx
     | false=>exact hC x hx
  have hno:∀ j,j < l.length→S j=true→(bZ.getD j []).contains i=false:=fun j hjl hj=>by
   cases hc:(bZ.getD j []).contains i with
   | false=>rfl
   | true =>
    have:=hdesc j hjl (by simpa using hc)
    rw [this] at hj;cases hj
  by_cases h1:i=m1
  ·subst h1
   have hS2:S m2=false:=hdesc m2 (Eq.mp Nat.blt_eq NW) (by simpa using h12)
   have Ea:S m3=false:=hdesc m3 (Eq.mp Nat.blt_eq NY) (by simpa using gB)
   rw [Ea,hS2,dw] at hL
   subst hL
   have h:=adT o b k S a w G1 ho dw qo hG HS fun j d hj hSj hd=>hv j d hSj hd
   have e2:gD S i m2=S m2:=ah (fun e=>UG e.symm)
   have e3:gD S i m3=S m3:=ah (fun e=>UH e.symm)
   refine uO (fun e a' w' ⟨he,hD⟩=>⟨he,fun _=>au rfl,fun h=>(by rw [e3,Ea] at h;cases h),b,k,_,?_,hD⟩) h
   rw [show gD S i i=true from au rfl,e2,e3,hS2,Ea]
   rfl
  ·by_cases h2:i=m2
   ·subst h2
    have hS1:S m1=true:=qo m1 (by simpa using h12)
    have Ea:S m3=false:=hdesc m3 (Eq.mp Nat.blt_eq NY) (by simpa using h23)
    rw [Ea,dw,hS1] at hL
    subst hL
    have e1:gD S i m1=S m1:=ah UG
    have e3:gD S i m3=S m3:=ah (fun e=>UJ e.symm)
    have h:=adU o k S a w G1 ho dw qo hG HS fun b' j d hj hSj hd=>by
     obtain ⟨v,hv1,hv2⟩:=hv j d hSj hd
     exact ⟨v,hv1,aec b b' k j v _ (Ak hj) (hno j (Am hd) hSj) hv2⟩
    refine uO (fun e a' w' ⟨he,b',hD⟩=>⟨he,fun _=>by rw [e1];exact hS1,fun _=>au rfl,b',k,_,?_,hD⟩) h
    rw [show gD S i i=true from au rfl,e3,Ea];rfl
   ·by_cases h3:i=m3
    ·subst h3
     have hS1:S m1=true:=qo m1 (by simpa using gB)
     have hS2:S m2=true:=qo m2 (by simpa using h23)
     rw [dw,hS2] at hL
     subst hL
     have e1:gD S i m1=S m1:=ah UH
     have e2:gD S i m2=S m2:=ah UJ
     have h:=adV o b S a w G1 ho dw qo hG HS fun k' j d hj hSj hd=>by
      obtain ⟨v,hv1,hv2⟩:=hv j d hSj hd
      exact ⟨v,hv1,aed b k k' j v _ (Ak hj) (hno j (Am hd) hSj) hv2⟩
     refine uO (fun e a' w' ⟨he,k',hD⟩=>⟨he,fun _=>by rw [e1];exact hS1,fun _=>by rw [e2];exact hS2,b,k',_,?_,hD⟩) h
     rw [show gD S i i=true from au rfl];rfl
    ·have h:=LA hstep i o ho
     rw [mQ] at h
     have e1:gD S i m1=S m1:=ah (fun e=>h1 e.symm)
     have e2:gD S i m2=S m2:=ah (fun e=>h2 e.symm)
     have e3:gD S i m3=S m3:=ah (fun e=>h3 e.symm)
     refine uO (fun e a' w' ⟨he,hD⟩=>⟨he,by rw [e1,e2];exact adZ,by rw [e2,e3];exact aea,b,k,L',?_,hD⟩) (h b k L' S a w G1 hsub hb (Ak h1) (Ak h2) (Ak h3) dw qo hG HS hv)
     rw [e1,e2,e3];exact hL
 ·rintro S a w hall hnB ⟨_,_,b,k,L',hL,G1,hG,HS,hv⟩
  have hs3:S m3=true:=hall m3 (Eq.mp Nat.blt_eq NY) adS
  rw [hs3] at hL
  subst hL
  exact hend b k a w G1 hG HS fun j d hb hd=>hv j d (hall j (Am hd) hb) hd
end
theorem ahG {z:Int} (h1:0≤z) (h2:z < 256):IntKind.u8.wrap z=z:=by
 simp only [IntKind.wrap,IntKind.bits,IntKind.signed,tV,Dr,if_false]
 omega
section
variable {N:Nat} {D:List Deferred} {w0:World} {F:Nat→Prop} {G0 G:GH} {L:OL} {T:List (Nat × aj)}
variable {r:Option Nat} {P:Program} {ops:Array Oper} {Q:Exit→Act→World→Prop} {rest:List Oper} {a:Act} {w:World}
variable {d:Nat} {ty:TypeId} {pos:String} {aK:Array Edge} {g:Option (Nat × Bool)}
theorem agG {x y:Operand} {t yt:TypeId} {p q:Int} (H:St N D w0 F G0 G L T a w) (hw:Region.wanted ⟨some d,.binOp .sub t x y yt,ty,pos,aK,g⟩ (yielded ops a.tmps)=true) (hx:ev T x=some (.int .u8 p)) (hy:ev T y=some (.int .u8 q)) (h1:0≤p - q) (h2:p - q < 256) (hd:Nat.blt d N=true)
  (k:∀ a',St N D w0 F G0 G L ((d,.int .u8 (p - q)) :: T) a' w→WL r P ops Q rest a' w):WL r P ops Q (⟨some d,.binOp .sub t x y yt,ty,pos,aK,g⟩ :: rest) a w :=
 eY (v:=.int .u8 (p - q)) (w':=w) hw rfl (by simp [execOp,eqGuard,binOp,Op.intArith,H.ev hx,H.ev hy,cO,ahG h1 h2]) (k _ (H.put hd _ H.hp))
end
end
section
open Go.RowKit
theorem aaV:∀ args w,(callFunc 201 args).run prog w=.ok (.enter 201 args) w:=enters func201 rfl (by kernel_rfl)
theorem HY:Ty prog 253 1 24 [.slice none 0 0] false:=⟨by kernel_rfl,by kernel_rfl⟩
theorem Si:∀ args w,(callFunc 59 args).run prog w=.ok (.enter 59 args) w:=enters func59 rfl (by kernel_rfl)
theorem EU:prog.underlying 253=some (.slice 258):=by kernel_rfl
theorem EN:Ty prog 258 3 32 [.string ⟨#[]⟩,.int .i64 0,.bool false] true:=⟨by kernel_rfl,by kernel_rfl⟩
theorem aaW:∀ args w,(callFunc 202 args).run prog w=.ok (.enter 202 args) w:=enters func202 rfl (by kernel_rfl)
theorem F6:bV prog 277 2 2:=⟨by kernel_rfl⟩
theorem F7:bV prog 277 3 4:=⟨by kernel_rfl⟩
theorem VH:qO prog 258 [(0,1),(1,1),(2,1)] [.string ⟨#[]⟩,.int .i64 0,.bool false]:=⟨by kernel_rfl,by kernel_rfl⟩
theorem Mt:∀ args w,(callFunc 197 args).run prog w=.ok (.enter 197 args) w:=enters func197 rfl (by kernel_rfl)
theorem Je:bV prog 277 4 5:=⟨by kernel_rfl⟩
structure iF where
 lit:ByteArray
 level:Int
 plain:Bool
def iF.dat (x:iF):List Dat:=[.lf (.string x.lit),li x.level,.lf (.bool x.plain)]
abbrev iF.cells (x:iF):List aj:=[.string x.lit,vi x.level,.bool x.plain]
theorem Ux (G:GH) (x:iF):aS G x.dat x.cells:=by
 simp only [iF.dat,iF.cells,aS]
 exact ⟨_,_,rfl,by simp [av,Value.oneCell'],_,_,rfl,by simp [av,Value.oneCell'],_,_,rfl,by simp [av,Value.oneCell'],rfl⟩
theorem Uw {G:GH} {x:iF} {cs:List aj} (h:aS G x.dat cs):cs=x.cells:=by
 simp only [iF.dat,aS,av] at h
 obtain ⟨_,_,rfl,⟨rfl,_⟩,_,_,rfl,⟨rfl,_⟩,_,_,rfl,⟨rfl,_⟩,rfl⟩:=h
 rfl
def Bd (l:List iF):List aj:=(l.map iF.cells).flatten
theorem Uv (l:List iF) (x:iF):Bd (l++[x])=Bd l++x.cells:=by simp [Bd]
structure xg (b:Nat) (lit:List UInt8) (parts:List iF) (p v q:aj) (Lp Lo:OL):Prop where
 ptr:p=.pointer none∨p=(aJ b 2)
 buf:eF 5 1 v lit.length (Lib.byteCells lit) Lo
 prt:eF 258 3 q parts.length (Bd parts) Lp
def rO (lit:List UInt8) (parts:List iF):List iF:=if lit=[] then parts else parts++[⟨⟨lit.toArray⟩,0,false⟩]
set_option maxHeartbeats 1000000 in
theorem MX (G:GH) (Lp Lo:OL) (w0:World) (b:Nat) (s:ByteArray) (i:Int) (p v q:aj) (pl e:Int) (lit:List UInt8) (parts:List iF) (hR:xg b lit parts p v q Lp Lo) (hO:gI G (fV b s i p v q pl e :: (Lp++Lo)) w0) (hl:lit.length≤4294967296) (hp:parts.length≤4294967296) :
  Calls prog 197 #[(aJ b 0)] w0 (fT w0 G (fV b s i p v q pl e :: (Lp++Lo)) fun u G' L'=>∃ p' v' q' oC gP,L'=fV b s i p' v' q' pl e :: (oC++gP)∧xg b [] (rO lit parts) p' v' q' oC gP):=by
 obtain ⟨TP,hbuf,JH⟩:=hR;have hml:maxLen=9223372036854775807:=rfl;obtain ⟨A,c,rfl,Ua,Ub⟩:=hbuf.shape;obtain ⟨B,d,rfl,TQ,TR⟩:=JH.shape;obtain ⟨Lt,nE⟩:∃ x,x=Lp++Lo:=⟨_,rfl⟩;rw [← nE] at hO ⊢;refine jh (N:=25) (T:=[(0,_)]) func197 rfl ntmps197 rfl rfl hO ?_;intro a H;refine kP H (SR fun _ K1=>Rm rfl (Rk rfl (Rf F6 rfl ?_)));clear H;intro a H;refine gT aaV (Li:=[]) (L:=fV b s i p (.slice A lit.length c) (.slice B parts.length d) pl e :: Lt) H wn rfl (ahd _ _ _ b s i p A lit.length c B parts.length d pl e (Hp.owns (Li:=[]) H.hp)) rfl ?_;clear H;rintro v5 _ L5 a w ⟨rfl,rfl,rfl⟩ Eh H;dsimp only [List.nil_append] at H;refine kH H (Rc rfl (Kz K1 (Cd rfl ?_ ?_))) <;> clear H K1
 ·intro h6 a H
  try have p6:=dT h6
  have hne:lit≠[]:=fun e=>by rw [e] at p6;simp at p6
  subst nE;refine bg (fun _ K2=>?_)
  have iK:∀ (jN:Nat) (gM:(Option Addr × Nat) × OL) (dY:Nat) (v:aj) (G G':GH),(∀ k o,G k=some o→G' k=some o)→(fun (jN:Nat) (gM:(Option Addr × Nat) × OL) (dY:Nat) (v:aj) (G:GH)=>match dY with|0=>v=(aJ b 0)|1=>v=(aJ b 0)|2=>v=(aJ b 0)|3=>v=(aJ b 4)|4=>v=.slice B parts.length d|5=>v=(aJ b 0)|6=>v=(aJ b 0)|7=>v=(aJ b 2)|8=>v=.string ⟨lit.toArray⟩|9=>v=.agg (iF.cells ⟨⟨lit.toArray⟩,0,false⟩).toArray|10=>v=.slice (some ⟨jN,0,none⟩) 1 1|11=>v=.slice gM.1.1 (parts.length+1) gM.1.2∧eF 258 3 v (parts.length+1) (Bd (parts++[⟨⟨lit.toArray⟩,0,false⟩])) gM.2|_=>True) jN gM dY v G→(fun (jN:Nat) (gM:(Option Addr × Nat) × OL) (dY:Nat) (v:aj) (G:GH)=>match dY with|0=>v=(aJ b 0)|1=>v=(aJ b 0)|2=>v=(aJ b 0)|3=>v=(aJ b 4)|4=>v=.slice B parts.length d|5=>v=(aJ b 0)|6=>v=(aJ b 0)|7=>v=(aJ b 2)|8=>v=.string ⟨lit.toArray⟩|9=>v=.agg (iF.cells ⟨⟨lit.toArray⟩,0,false⟩).toArray|10=>v=.slice (some ⟨jN,0,none⟩) 1 1|11=>v=.slice gM.1.1 (parts.length+1) gM.1.2∧eF 258 3 v (parts.length+1) (Bd (parts++[⟨⟨lit.toArray⟩,0,false⟩])) gM.2|_=>True) jN gM dY v G':=by
   intro jN gM dY v G G' hm h
   match dY,h with
   | 0,h=>exact h
   | 1,h=>exact h
   | 2,h=>exact h
   | 3,h=>exact h
   | 4,h=>exact h
   | 5,h=>exact h
   | 6,h=>exact h
   | 7,h=>exact h
   | 8,h=>exact h
   | 9,h=>exact h
   | 10,h=>exact h
   | 11,h=>exact h
   | 12,h=>exact trivial
   | 13,h=>exact trivial
   | 14,h=>exact trivial
   | _+15,h=>exact trivial
  refine Yd (κ:=(Option Addr × Nat) × OL) (((none,0),[])) (hmx) [[],[],[1],[1,2],[1,2,3],[],[5],[5,6],[5,6,7],(ra 5 4),(ra 5 5),(ra 1 10),(ra 0 12),(ra 0 13),(ra 0 14)] [12,13,14] (by kernel_rfl) (by kernel_rfl) 8 10 11 (by decide) (by decide) (by decide) (by decide) (by decide) (by decide) (by decide) (by decide) (by decide) [fV b s i p (.slice A lit.length c) (.slice B parts.length d) pl e] (fV b s i p (.slice A lit.length c) (.slice B parts.length d) pl e :: Lp) (.cells (iF.cells ⟨⟨lit.toArray⟩,0,false⟩).toArray 258 (0,0)) (fun b_ k_=>(b_,.cells (iF.cells ⟨⟨lit.toArray⟩,0,false⟩).toArray 258 (0,0)) :: fV b s i p (.slice A lit.length c) (.slice B parts.length d) pl e :: k_.2) (fun x hx=>by rw [uS.1 hx];exact jC) (fun x hx=>by rw [uS.1 hx];exact jC) (fun _ _ x hx=>by rw [uS.1 hx];exact rG _ jC) (fun (jN:Nat) (gM:(Option Addr × Nat) × OL) (dY:Nat) (v:aj) (G:GH)=>match dY with|0=>v=(aJ b 0)|1=>v=(aJ b 0)|2=>v=(aJ b 0)|3=>v=(aJ b 4)|4=>v=.slice B parts.length d|5=>v=(aJ b 0)|6=>v=(aJ b 0)|7=>v=(aJ b 2)|8=>v=.string ⟨lit.toArray⟩|9=>v=.agg (iF.cells ⟨⟨lit.toArray⟩,0,false⟩).toArray|10=>v=.slice (some ⟨jN,0,none⟩) 1 1|11=>v=.slice gM.1.1 (parts.length+1) gM.1.2∧eF 258 3 v (parts.length+1) (Bd (parts++[⟨⟨lit.toArray⟩,0,false⟩])) gM.2|_=>True) (fun b b' k i v G hi hc h=>by match i,hi,hc,h with|0,_,_,h=>exact h|1,_,_,h=>exact h|2,_,_,h=>exact h|3,_,_,h=>exact h|4,_,_,h=>exact h|5,_,_,h=>exact h|6,_,_,h=>exact h|7,_,_,h=>exact h|8,_,_,h=>exact h|9,_,_,h=>exact h|10,hi,_,_=>exact absurd hi (by decide)|11,_,hc,_=>exact absurd hc (by decide)|12,_,hc,_=>exact absurd hc (by decide)|13,_,hc,_=>exact absurd hc (by decide)|14,_,hc,_=>exact absurd hc (by decide)|_+15,_,_,_=>exact trivial) (fun b k k' i v G hi hc h=>by match i,hi,hc,h with|0,_,_,h=>exact h|1,_,_,h=>exact h|2,_,_,h=>exact h|3,_,_,h=>exact h|4,_,_,h=>exact h|5,_,_,h=>exact h|6,_,_,h=>exact h|7,_,_,h=>exact h|8,_,_,h=>exact h|9,_,_,h=>exact h|10,_,_,h=>exact h|11,hi,_,_=>exact absurd hi (by decide)|12,_,hc,_=>exact absurd hc (by decide)|13,_,hc,_=>exact absurd hc (by decide)|14,_,hc,_=>exact absurd hc (by decide)|_+15,_,_,_=>exact trivial) H ?_ ?_ ?_ ?_ ?_ (by kernel_rfl) (by kernel_rfl)
  ·clear H;refine aF ?_ ?_ ?_ ?_ (aF ?_ ?_ ?_ ?_ (aF ?_ ?_ ?_ ?_ (bM ?_ (bM ?_ (bM ?_ dP)))))
   ·intro jN gM Ac dW a w G1 za _ _ _ _ dw hc hG HT hv;have H:=HT;clear dw;have Hb:=H.full;have H:=Hb;clear hc;refine kH H (Rm rfl ?_);clear H;intro a H;refine aH ⟨rfl,?_⟩;exact lT (by kernel_rfl) (iK jN gM) rfl rfl HT Hb hG hv (fun _ _ h=>h) (rfl) H
   ·intro jN gM Ac dW a w G1 za _ _ _ _ dw hc hG HT hv;have H:=HT;clear dw;have Hb:=H.full;have H:=Hb;clear hc;refine kH H (Rm rfl ?_);clear H;intro a H;refine aH ⟨rfl,?_⟩;exact lT (by kernel_rfl) (iK jN gM) rfl rfl HT Hb hG hv (fun _ _ h=>h) (rfl) H
   ·intro jN gM Ac dW a w G1 za _ _ _ _ dw hc hG HT hv;have H:=HT;clear dw;have H:=H.aT (hv 1 8 (hc 1 (by decide)) rfl) rfl;have Hb:=H.full;have H:=Hb;clear hc;refine kH H (Rk rfl ?_);clear H;intro a H;refine aH ⟨rfl,?_⟩;exact lT (by kernel_rfl) (iK jN gM) rfl rfl HT Hb hG hv (fun _ _ h=>h) (rfl) H
   ·intro jN gM Ac dW a w G1 za _ _ _ _ dw hc hG HT hv;have H:=HT;clear dw;have H:=H.aT (hv 2 9 (hc 2 (by decide)) rfl) rfl;have Hb:=H.full;have H:=Hb;clear hc;refine kH H (Rf F7 rfl ?_);clear H;intro a H;refine aH ⟨rfl,?_⟩;exact lT (by kernel_rfl) (iK jN gM) rfl rfl HT Hb hG hv (fun _ _ h=>h) (rfl) H
   ·intro jN gM Ac dW a w G1 za _ _ _ _ dw hc hG HT hv;have H:=HT;clear dw;have H:=H.aT (hv 3 10 (hc 3 (by decide)) rfl) rfl;have Hb:=H.full;have H:=Hb;clear hc;refine zF HY H wn rfl (H.hp.UD (za _ jC) rfl) rfl ?_;clear H;intro a H;refine aH ⟨rfl,?_⟩;exact lT (by kernel_rfl) (iK jN gM) rfl rfl HT Hb hG hv (fun _ _ h=>h) (rfl) H
   ·intro jN gM Ac dW a w G1 za _ _ _ _ dw hc hG HT hv;have H:=HT;clear dw;have Hb:=H.full;have H:=Hb;clear hc;refine kH H (Rm rfl ?_);clear H;intro a H;refine aH ⟨rfl,?_⟩;exact lT (by kernel_rfl) (iK jN gM) rfl rfl HT Hb hG hv (fun _ _ h=>h) (rfl) H
   ·intro jN gM Ac dW a w G1 za _ _ _ _ dw hc hG HT hv;have H:=HT;clear dw;have H:=H.aT (hv 5 12 (hc 5 (by decide)) rfl) rfl;have Hb:=H.full;have H:=Hb;clear hc;refine kH H (Rk rfl ?_);clear H;intro a H;refine aH ⟨rfl,?_⟩;exact lT (by kernel_rfl) (iK jN gM) rfl rfl HT Hb hG hv (fun _ _ h=>h) (rfl) H
   ·intro jN gM Ac dW a w G1 za _ _ _ _ dw hc hG HT hv;have H:=HT;clear dw;have H:=H.aT (hv 6 13 (hc 6 (by decide)) rfl) rfl;have Hb:=H.full;have H:=Hb;clear hc;refine kH H (Rf F6 rfl ?_);clear H;intro a H;refine aH ⟨rfl,?_⟩;exact lT (by kernel_rfl) (iK jN gM) rfl rfl HT Hb hG hv (fun _ _ h=>h) (rfl) H
   ·intro _ _ _ _ _ _ _ _ _ hB;exact absurd hB (by decide)
   ·intro jN gM Ac dW a w G1 za _ _ _ _ dw hc hG HT hv;have H:=HT;clear dw;have H:=H.aT (hv 8 15 (hc 8 (by decide)) rfl) rfl;have Hb:=H.full;have H:=Hb;clear hc;refine jw VH [_,_,_] H wn rfl rfl rfl rfl ?_;clear H;intro a H;refine aH ⟨rfl,?_⟩;exact lT (by kernel_rfl) (iK jN gM) rfl rfl HT Hb hG hv (fun _ _ h=>h) (rfl) H
   ·intro _ _ _ _ _ _ _ _ _ _ hB;exact absurd hB (by decide)
   ·intro _ _ _ _ _ _ _ _ _ _ _ hB;exact absurd hB (by decide)
   ·intro _ _ _ _ _ _ _ _ hB;exact absurd hB (by decide)
   ·intro _ _ _ _ _ _ _ _ hB;exact absurd hB (by decide)
   intro _ _ _ _ _ _ _ _ hB;exact absurd hB (by decide)
  ·clear H;intro o_ jN gM dW a w G1 AY _ hc hG HT hv;obtain rfl:_=o_:=Option.some.inj AY;clear AY;have H:=HT;have H:=H.aT (hv 7 14 (by decide) (hc 7 (by decide)) rfl) rfl;have Hb:=H.full;have H:=Hb;clear hc;refine gT Si (Li:=[]) (L:=fV b s i p (.slice A lit.length c) (.slice B parts.length d) pl e :: (Lp++Lo)) H wn rfl (ahn _ _ _ _ b s i p _ B parts.length d pl e lit (Hp.owns (Li:=[]) H.hp) hbuf hne) rfl ?_;clear H;rintro v15 Bw L15 a w ⟨rfl,rfl⟩ Cc H;dsimp only [List.nil_append] at H;refine aH ⟨rfl,?_⟩;exact Zy (by kernel_rfl) (iK jN gM) rfl HT Hb hG (fun j e h1 h2 h3=>hv j e h1 h2 h3) Cc (rfl) H
  ·clear H;intro o_ gM dW a w G1 AY _ hc hG HT hv;obtain rfl:_=o_:=Option.some.inj AY;clear AY;have H:=HT;have H:=H.aT (hv 0 9 16 (by decide) (hc 9 (by decide)) rfl) rfl;have Hb:=H.full;have H:=Hb;clear hc;refine ig EU EN [_,_,_] [_,_,_] H wn rfl rfl rfl rfl rfl (by intro i q h;match i,h with|0,h=>exact h|n+1,h=>simp at h) rfl rfl ?_;clear H;intro b17 a w adi H;refine aH ⟨rfl,b17,?_⟩;exact RQ (by kernel_rfl) rfl HT Hb hG (fun j e h1 h2 h3=>hv _ j e h1 h2 h3) (rfl) H
  ·clear H;intro o_ jN dW a w G1 AY _ hc hG HT hv;obtain rfl:_=o_:=Option.some.inj AY;clear AY;have H:=HT;have H:=H.aT (hv (((none,0),[])) 4 11 (by decide) (hc 4 (by decide)) rfl) rfl;have H:=H.aT (hv (((none,0),[])) 10 17 (by decide) (hc 10 (by decide)) rfl) rfl;have Hb:=H.full;have H:=Hb;clear hc;refine tJ (Li:=[_,_]) (Lo:=Lp) (news:=iF.cells ⟨⟨lit.toArray⟩,0,false⟩) EU EN rfl rfl H wn rfl rfl JH rfl (H.hp.bT 0 rfl rfl) rfl (by omega) (by omega) rfl ?_;clear H;intro v18 XD a w Ba H;obtain ⟨WR,c18,rfl,-,-⟩:=Ba.shape;rw [← Uv] at Ba;refine aH ⟨rfl,((WR,c18),XD),?_⟩;exact RQ (by kernel_rfl) rfl HT Hb hG (fun j e h1 h2 h3=>hv _ j e h1 h2 h3) (⟨rfl,Ba⟩) H
  clear H;intro b17 gM a w G lU H hv;have H:=H.aT (hv 0 7 rfl rfl) rfl;obtain ⟨u18,aep,TN⟩:=hv 11 18 (by decide) rfl;(try dsimp only at TN);obtain ⟨rfl,Ba⟩:=TN;have H:=H.sJ aep;clear hv;refine kH H (Rk rfl (Rf F7 rfl ?_));clear H;intro a H;refine aX HY 1 (vs:=[_]) _ H wn rfl rfl rfl rfl rfl rfl rfl rfl ?_;clear H;intro w H;dsimp only [List.set,setRow] at H;refine aH ⟨rfl,?_⟩;refine K2 _ _ ?_;clear K2;refine kP H (SC (Rm rfl (Rk rfl (Rf F6 rfl ?_))));clear H;intro a H;refine gT aaW (Li:=[_]) (L:=fV b s i p (.slice A lit.length c) (.slice gM.1.1 (parts.length+1) gM.1.2) pl e :: gM.2) H wn rfl (ahm _ _ _ b s i p A lit.length c gM.1.1 (parts.length+1) gM.1.2 pl e (Hp.owns (Li:=[_]) H.hp)) rfl ?_;clear H;rintro v24 _ L24 a w ⟨rfl,rfl⟩ xL H;dsimp only [lca,aV] at H;refine aH ?_;refine (leave0 H results197 ?_).2
  first
   | exact H.hp.cu (L':=fV b s i _ _ _ pl e :: gM.2) (yG _ _) ⟨_,_,_,gM.2,[],by rw [vN],⟨.inl rfl,eF.nil,by rw [rO,ah hne];simpa using Ba⟩⟩
   | exact H.hp.eU ⟨_,_,_,Lp,Lo,by rw [nE],by
     have h0:lit=[]:=by
      cases lit with
      | nil=>rfl
      | cons x r=>simp at p6
     subst h0;exact ⟨TP,hbuf,by rw [rO,au rfl];exact JH⟩⟩
 intro h6 a H
 try have p6:=dF h6
 refine fQ ?_;refine (leave0 H results197 ?_).2
 first
  | exact H.hp.cu (L':=fV b s i _ _ _ pl e :: gM.2) (yG _ _) ⟨_,_,_,gM.2,[],by rw [vN],⟨.inl rfl,eF.nil,by rw [rO,ah hne];simpa using Ba⟩⟩
  | exact H.hp.eU ⟨_,_,_,Lp,Lo,by rw [nE],by
    have h0:lit=[]:=by
     cases lit with
     | nil=>rfl
     | cons x r=>simp at p6
    subst h0;exact ⟨TP,hbuf,by rw [rO,au rfl];exact JH⟩⟩
theorem U2 (G:GH) (Lp Lo:OL) (w0:World) (b:Nat) (s:ByteArray) (i:Int) (p v q:aj) (pl e:Int) (lit:List UInt8) (parts:List iF) (ch:Int) (plain:Bool) (hR:xg b lit parts p v q Lp Lo) (hO:gI G (fV b s i p v q pl e :: (Lp++Lo)) w0) (hl:lit.length≤4294967296) (hp:parts.length≤4294967290) (hc:49≤ch∧ch≤57) (hpl:0≤pl∧pl≤4294967296) :
  Calls prog 200 #[(aJ b 0),.int .u8 ch,.bool plain] w0 (fT w0 G (fV b s i p v q pl e :: (Lp++Lo)) fun u G' L'=>∃ p' v' q' oC gP,L'=fV b s i p' v' q' (pl+1) e :: (oC++gP)∧xg b [] (rO lit parts++[⟨⟨#[]⟩,ch - 48,plain⟩]) p' v' q' oC gP):=by
 have hml:maxLen=9223372036854775807:=rfl
 have hfl:(rO lit parts).length≤parts.length+1:=by unfold rO;split <;> simp
 obtain ⟨A,c,rfl,Ua,Ub⟩:=hR.buf.shape;obtain ⟨B,d,rfl,TQ,TR⟩:=hR.prt.shape;obtain ⟨Lt,nE⟩:∃ x,x=Lp++Lo:=⟨_,rfl⟩;rw [← nE] at hO ⊢;refine jh (N:=29) (T:=[(0,_),(1,_),(2,_)]) func200 rfl ntmps200 rfl rfl hO ?_;intro a H;refine kP H (SR fun _ K1=>Rm rfl ?_);clear H;intro a H;refine gT Mt (Li:=[]) (L:=fV b s i p (.slice A lit.length c) (.slice B parts.length d) pl e :: Lt) H wn rfl (by subst nE;exact MX _ Lp Lo _ b s i p _ _ pl e lit parts hR (Hp.owns (Li:=[]) H.hp) hl (by omega)) rfl ?_;clear H;rintro v7 G7 L7 a w ⟨p',v',q',oC,gP,rfl,Gw⟩ xO H;dsimp only [List.nil_append] at H;obtain ⟨A7,c7,rfl,-,-⟩:=Gw.buf.shape;obtain ⟨B7,d7,rfl,-,-⟩:=Gw.prt.shape;refine K1 _ _ ?_;clear K1;refine kP H (SR fun _ K2=>Rm rfl (Rm rfl (Rk rfl (aO F7 HY 0 rfl rfl (Rm rfl ?_)))));clear H;intro a H;refine agG H wn rfl rfl (by omega) (by omega) rfl ?_;clear H;intro a H;refine EF _ mJ H7 H wn rfl rfl rfl ?_;clear H;intro a H;rw [He (by omega) (by omega)] at H;refine kH H (Rm rfl ?_);clear H;intro a H;refine jw VH [_,_,_] H wn rfl rfl rfl rfl ?_;clear H;intro a H;refine ig EU EN [_,_,_] [_,_,_] H wn rfl rfl rfl rfl rfl (by intro i q h;match i,h with|0,h=>exact h|n+1,h=>simp at h) rfl rfl ?_;clear H;intro b18 a w Jy H;have H:=(St.cast H (show _=[_,_]++(oC++gP) from rfl)).perm (List.Perm.append_left _ Aj);have H:=St.un H;refine tJ (Li:=[_,_]++gP) (Lo:=oC) (news:=iF.cells ⟨⟨#[]⟩,ch - 48,plain⟩) EU EN rfl rfl H wn rfl rfl Gw.prt rfl (H.hp.bT 0 rfl rfl) rfl (by omega) (by omega) rfl ?_;clear H;intro v19 QH a w vw H;obtain ⟨PY,c19,rfl,-,-⟩:=vw.shape;rw [← Uv] at vw;have H:=H.assoc.perm (List.Perm.append_left _ Aj);dsimp only [lca,aV] at H;refine kH H (Rk rfl (Rf F7 rfl ?_));clear H;intro a H;refine aX HY 1 (vs:=[_]) _ H wn rfl rfl rfl rfl rfl rfl rfl rfl ?_;clear H;intro w H;dsimp only [List.set,setRow] at H;refine K2 _ _ ?_;clear K2;refine kP H (SC (Rm rfl (Rk rfl (aO Je aC 1 rfl rfl (Rd rfl (Rk rfl (Rf Je rfl ?_)))))));clear H;intro a H;refine aX aC 1 (vs:=[_]) _ H wn rfl rfl rfl rfl rfl rfl rfl rfl ?_;clear H;intro w H;dsimp only [List.set,setRow] at H;refine aH ?_;refine (leave0 H results200 ?_).2;exact H.hp.cu (L':=fV b s i _ _ _ (pl+1) e :: (QH++gP)) (yG _ _) ⟨_,_,_,QH,gP,rfl,Gw.ptr,Gw.buf,by simpa using vw⟩
end
section
open Go.RowKit
section
variable {N:Nat} {D:List Deferred} {w0:World} {F:Nat→Prop} {G0 G:GH} {L:OL} {T Xs:List (Nat × aj)}
variable {r:Option Nat} {P:Program} {Q:Exit→Act→World→Prop} {l:List Oper} {a a':Act} {w w':World}
abbrev P7:Type:=Nat × aj × Nat × Bool
def P8 (ent:List P7) (S:Nat→Bool) (a:Act):Prop:=∀ e∈ent,S e.2.2.1=e.2.2.2→a.tmps[e.1]?=some e.2.1
theorem P8.at {ent:List P7} {S:Nat→Bool} {a:Act} (h:P8 ent S a) (k:Nat) {t:Nat} {v:aj} {j:Nat} {b:Bool} (hk:ent[k]?=some (t,v,j,b)) (hS:S j=b):a.tmps[t]?=some v:=h _ (kR hk) hS
theorem agF {ops:Array Oper} {rest:List Oper} {d:Nat} {ty:TypeId} {pos:String} {aK:Array Edge} {g:Option (Nat × Bool)} {t:TypeId} {x y:Operand} {s:ByteArray} {ky:IntKind} {p:Int} (hi:Nat) (ht:P.underlying t=some .string) (H:St N D w0 F G0 G L T a w) (hw:Region.wanted ⟨some d,.slice t x none (some y) none,ty,pos,aK,g⟩ (yielded ops a.tmps)=true) (hx:ev T x=some (.string s)) (hy:ev T y=some (.int ky p)) (hp:p=(hi:Int)) (h1:hi≤s.size) (hd:Nat.blt d N=true)
  (k:∀ a',St N D w0 F G0 G L ((d,.string (s.extract 0 hi)) :: T) a' w→WL r P ops Q rest a' w):WL r P ops Q (⟨some d,.slice t x none (some y) none,ty,pos,aK,g⟩ :: rest) a w:=by
 subst hp
 have hr:=run_slice_string_h (P:=P) w t s ht ky (hi:Int) (by omega) (by omega)
 rw [Int.toNat_natCast] at hr
 refine eY (v:=.string (s.extract 0 hi)) (w':=w) hw rfl ?_ (k _ (H.put hd _ H.hp))
 simp only [execOp,H.ev hx,Option.map_some,Option.map_none,H.ev hy,cO,run_sliceAt_string w t _ _ _ _ ht,hr,kE,mO]
end
end
section
open Go.RowKit
theorem aaX:∀ args w,(callFunc 203 args).run prog w=.ok (.enter 203 args) w:=enters func203 rfl (by kernel_rfl)
theorem uf:bV prog 277 0 0:=⟨by kernel_rfl⟩
theorem R8:∀ args w,(callFunc 196 args).run prog w=.ok (.enter 196 args) w:=enters func196 rfl (by kernel_rfl)
theorem R9:∀ args w,(callFunc 199 args).run prog w=.ok (.enter 199 args) w:=enters func199 rfl (by kernel_rfl)
theorem Sb:∀ args w,(callFunc 200 args).run prog w=.ok (.enter 200 args) w:=enters func200 rfl (by kernel_rfl)
theorem nV:bV prog 277 1 1:=⟨by kernel_rfl⟩
theorem Mv:∀ args w,(callFunc 198 args).run prog w=.ok (.enter 198 args) w:=enters func198 rfl (by kernel_rfl)
theorem xB:bV prog 277 5 6:=⟨by kernel_rfl⟩
def pQ (s p:ByteArray):Bool:=decide (p.size≤s.size) && ((s.extract 0 p.size).toList == p.toList)
theorem ade (G:GH) (w0:World) (hG:Hold G w0) (s p:ByteArray) (hs:s.size≤4611686018427387904) (hp:p.size≤4611686018427387904):Calls prog 203 #[.string s,.string p] w0 (aZ w0 G fun u G'=>u=.bool (pQ s p)∧G=G'):=by
 refine eN [(0,_),(1,_)] func203 rfl ntmps203 rfl rfl hG ?_;intro a H;refine kP H (SR fun _ K1=>ak K1 rfl (SR fun _ K2=>Rm rfl (Rv fC rfl (Rm rfl (Rv fC rfl (Rc rfl (Rm rfl (Sp 10 rfl ?_ ?_)))))))) <;> clear H K1
 ·intro h10 a H
  try have uH:=dT h10
  refine kH H (YM h10 rfl (YM h10 rfl ?_));clear H;intro a H;refine CU fC H (wg H rfl rfl h10) rfl rfl ?_;clear H;intro a H;refine agF p.size fC H (wg H rfl rfl h10) rfl rfl rfl (by omega) rfl ?_;clear H;intro a H;refine kH H (YM h10 rfl ?_);clear H;intro a H;refine CQ H (wg H rfl rfl h10) rfl rfl rfl ?_;clear H;intro a H;exact kH H (Pt h10 rfl (ak K2 rfl (LR results203 rfl fun H=>H.rt ⟨aM (by unfold pQ;first|(simp_all;done)|(simp_all;omega)),rfl⟩)))
 intro h10 a H
 try have uH:=dF h10
 exact kH H (cK h10 rfl (cK h10 rfl (Pf h10 rfl (ak K2 rfl (LR results203 rfl fun H=>H.rt ⟨aM (by unfold pQ;first|(simp_all;done)|(simp_all;omega)),rfl⟩)))))
theorem Nw (G:GH) (w0:World) (hG:Hold G w0) (s p:ByteArray) (hs:s.size≤4611686018427387904) (hp:p.size≤4611686018427387904):Calls prog 198 #[.string s,.string p] w0 (aZ w0 G fun u G'=>u=.bool (pQ s p)∧G=G'):=by
 refine eN [(0,_),(1,_)] func198 rfl ntmps198 rfl rfl hG ?_;intro a H;refine kP H (SR fun _ K1=>ak K1 rfl (SR fun _ K2=>Rm rfl (Rm rfl ?_)));clear H K1;intro a H;refine s_call aaX H wn rfl (ade _ _ H.ro s p hs hp) rfl ?_;clear H;rintro v7 _ a w ⟨rfl,rfl⟩ - H;exact kH H (ak K2 rfl (LR results198 rfl fun H=>H.rt ⟨rfl,rfl⟩))
def rJ (s:ByteArray) (k:Nat):Bool:=decide (k < s.size) && decide (49≤dG s k) && decide (dG s k≤57)
theorem RP (G:GH) (L:OL) (w0:World) (b:Nat) (s:ByteArray) (i:Int) (p v q:aj) (pl e:Int) (k:Nat) (hs:s.size≤4611686018427387904) (hO:gI G (fV b s i p v q pl e :: L) w0) :
  Calls prog 199 #[(aJ b 0),vi k] w0 (fT w0 G (fV b s i p v q pl e :: L) fun u G' L'=>u=.bool (rJ s k)∧L'=fV b s i p v q pl e :: L∧G'=G):=by
 refine jh (N:=30) (T:=[(0,_),(1,_)]) func199 rfl ntmps199 rfl rfl hO ?_;intro a H;refine kP H (SR fun _ K1=>ak K1 rfl (SR fun _ K2=>Rm rfl (Rm rfl (Rk rfl (aO uf iB 0 rfl rfl (Rv fC rfl (Rc rfl (Rm rfl (Sp 12 rfl ?_ ?_))))))))) <;> clear H K1
 ·intro h12 a H
  try have qD:=dT h12
  refine kH H (YM h12 rfl ?_);clear H;intro a H;refine qW H (wg H rfl rfl h12) rfl rfl ?_;clear H;intro a H;refine kH H (YF uf h12 rfl (YO iB 0 h12 rfl (YM h12 rfl ?_)));clear H;intro a H;refine mF k fC H (wg H rfl rfl h12) rfl rfl rfl (by omega) rfl ?_;clear H;intro a H;rw [← iY] at H;refine kH H (YC h12 rfl (Pt h12 rfl (Rm rfl (Sp 21 rfl ?_ ?_)))) <;> clear H
  ·intro h21 a H
   try have nI:=dT h21
   refine kH H (YM h21 rfl ?_);clear H;intro a H;refine qW H (wg H rfl rfl h21) rfl rfl ?_;clear H;intro a H;refine kH H (YF uf h21 rfl (YO iB 0 h21 rfl (YM h21 rfl ?_)));clear H;intro a H;refine mF k fC H (wg H rfl rfl h21) rfl rfl rfl (by omega) rfl ?_;clear H;intro a H;rw [← iY] at H;exact kH H (YC h21 rfl (Pt h21 rfl (ak K2 rfl (LR results199 rfl fun H=>H.hp.eU ⟨aM (by unfold rJ;first|(simp_all;done)|(simp_all;omega)),rfl,rfl⟩))))
  intro h21 a H
  try have nI:=dF h21
  exact kH H (cK h21 rfl (bO h21 rfl (bO h21 rfl (Pf h21 rfl (ak K2 rfl (LR results199 rfl fun H=>H.hp.eU ⟨aM (by unfold rJ;first|(simp_all;done)|(simp_all;omega)),rfl,rfl⟩))))))
 intro h12 a H
 try have qD:=dF h12
 exact kH H (cK h12 rfl (bO h12 rfl (bO h12 rfl (Pf h12 rfl (Rm rfl (cK rfl rfl (bO rfl rfl (bO rfl rfl (Pf rfl rfl (ak K2 rfl (LR results199 rfl fun H=>H.hp.eU ⟨aM (by unfold rJ;first|(simp_all;done)|(simp_all;omega)),rfl,rfl⟩)))))))))))
structure rz where
 i:Nat
 lit:List UInt8
 parts:List iF
 pl:Nat
 e:Int
def mW (s:ByteArray) (x:rz):rz :=
 if pQ (s.extract x.i s.size) ⟨#[37,37]⟩=true then ⟨x.i+2,x.lit++[37],x.parts,x.pl,x.e⟩
 else if rJ s (x.i+1)=true then ⟨x.i+2,[],rO x.lit x.parts++[⟨⟨#[]⟩,dG s (x.i+1) - 48,false⟩],x.pl+1,x.e⟩
 else if pQ (s.extract x.i s.size) ⟨#[37,100]⟩=true∧rJ s (x.i+2)=true then ⟨x.i+3,[],rO x.lit x.parts++[⟨⟨#[]⟩,dG s (x.i+2) - 48,true⟩],x.pl+1,x.e⟩
 else ⟨x.i,x.lit,x.parts,x.pl,14⟩
abbrev tK (b:Nat) (s:ByteArray) (x:rz) (p v q:aj):Nat × Obj:=fV b s x.i p v q x.pl x.e
theorem RO {s:ByteArray} {k:Nat} (h:rJ s k=true):k < s.size∧49≤dG s k∧dG s k≤57:=by
 simpa [rJ,and_assoc] using h
set_option maxHeartbeats 1000000 in
theorem afC (G:GH) (Lp Lo:OL) (w0:World) (b:Nat) (s:ByteArray) (x:rz) (p v q:aj) (hR:xg b x.lit x.parts p v q Lp Lo) (hO:gI G (tK b s x p v q :: (Lp++Lo)) w0) (hs:s.size≤4294967290) (hi:x.i < s.size) (hl:x.lit.length≤4294967290) (hp:x.parts.length≤4294967290) (hpl:x.pl≤4294967290) :
    Calls prog 195 #[(aJ b 0)] w0 (fT w0 G (tK b s x p v q :: (Lp++Lo)) fun u G' L'=>∃ p' v' q' oC gP,L'=tK b s (mW s x) p' v' q' :: (oC++gP)∧xg b (mW s x).lit (mW s x).parts p' v' q' oC gP):=by
  obtain ⟨i,lit,parts,pl,e⟩:=x;dsimp only [tK] at *
  have hex:(s.extract i s.size).size≤4611686018427387904:=by rw [ByteArray.size_extract];omega
  obtain ⟨A,c,rfl,Ua,Ub⟩:=hR.buf.shape;obtain ⟨B,d,rfl,TQ,TR⟩:=hR.prt.shape;obtain ⟨Lt,nE⟩:∃ x,x=Lp++Lo:=⟨_,rfl⟩;rw [← nE] at hO ⊢;refine jh (N:=93) (T:=[(0,_)]) func195 rfl ntmps195 rfl rfl hO ?_;intro a H;refine oG ?_;refine bg (fun _ K1=>?_);refine dI hmx [[],[0],[0,1],[0,1,2],[],[4],[4,5],[4,5,6],(ra 0 8),(ra 0 9),(ra 0 10)] [] (by kernel_rfl) [_,_,_,.string s,_,_,_,vi i,.string (s.extract i s.size),.bool (pQ (s.extract i s.size) ⟨#[37,37]⟩),_] H (aF (Z0 rfl (Rm rfl)) (Z1 0 6 rfl (Rk rfl)) (Z1 1 7 rfl (Rf uf rfl)) (Z1 2 8 rfl (Ro iB 0 rfl)) (aF (Z0 rfl (Rm rfl)) (Z1 4 10 rfl (Rk rfl)) (Z1 5 11 rfl (Rf nV rfl)) (Z1 6 12 rfl (Ro aC 0 rfl)) (bM ?_ (bM ?_ (bM (Z1 9 15 rfl (Ra rfl)) dP))))) ?_
  · refine eB 3 9 7 13 rfl rfl fun _ a w G1 hG HT H fin=>?_;refine Pk i fC H wn rfl rfl rfl (by omega) rfl ?_;clear H;intro a H;exact fin H iJ rfl
  · refine eH 8 14 rfl rfl fun _ a w G1 hG HT H fin=>?_;refine s_call Mv H wn rfl (Nw _ _ H.ro _ _ hex (by decide)) rfl ?_;clear H;rintro v15 Bw a w ⟨rfl,rfl⟩ Cc H;exact fin H Cc (rfl)
  clear H;intro a w G lU H hv;have H:=H.aT (hv 10 5 rfl rfl) rfl;clear hv;refine aH ⟨rfl,?_⟩;refine K1 _ _ ?_;clear K1;refine mV H rfl ?_ ?_
  · intro h5
    try have p5:=dT h5
    refine kP H (SR fun _ K2=>Rm rfl (Rk rfl (Rf F6 rfl ?_)));clear H;intro a H;refine gT R8 (Li:=[]) (L:=fV b s i p (.slice A lit.length c) (.slice B parts.length d) pl e :: Lt) H wn rfl (by subst nE;exact Wu _ Lp Lo _ b s i p _ B parts.length d pl e lit.length _ 37 hR.ptr (Hp.owns (Li:=[]) H.hp) hR.buf (by omega)) rfl ?_;clear H;rintro v19 _ L19 a w ⟨ajv,BG,rfl,vw,rfl⟩ Ci H;dsimp only [List.nil_append] at H;obtain ⟨PY,c19,rfl,-,-⟩:=vw.shape;refine K2 _ _ ?_;clear K2;refine kP H (SC (Rm rfl (Rk rfl (aO nV aC 0 rfl rfl (Rd rfl (Rk rfl (Rf nV rfl ?_)))))));clear H;intro a H;refine aX aC 0 (vs:=[_]) _ H wn rfl rfl rfl rfl rfl rfl rfl rfl ?_;clear H;intro w H;dsimp only [List.set,setRow] at H;refine aH ?_;refine (leave0 H results195 ?_).2;exact H.hp.eU ⟨_,_,_,Lp,BG,by rw [mW,au h5];rfl,by rw [mW,au h5];exact ⟨.inr rfl,by simpa [Lib.byteCells] using vw,hR.prt⟩⟩
  intro h5
  try have p5:=dF h5
  refine kP H (SR fun _ K3=>Rm rfl (Rm rfl (Rk rfl (aO nV aC 0 rfl rfl (Rd rfl ?_)))));clear H;intro a H;rw [show ((i:Int)+1)=((i+1:Nat):Int) from rfl] at H;refine gT R9 (Li:=[]) (L:=fV b s i p (.slice A lit.length c) (.slice B parts.length d) pl e :: Lt) H wn rfl (RP _ Lt _ b s i p _ _ pl e (i+1) (by omega) (Hp.owns (Li:=[]) H.hp)) rfl ?_;clear H;rintro v34 _ L34 a w ⟨rfl,rfl,rfl⟩ TH H;dsimp only [List.nil_append] at H;refine kH H (ak K3 rfl (Cd rfl ?_ ?_)) <;> clear H K3
  · intro h27 a H
    try have p27:=dT h27
    have hd1:=RO h27;refine bg (fun _ K4=>?_);refine dI hmx [[],[],[1],[1,2],[1,2,3],[],[5],[5,6],[5,6,7],(ra 5 4),(ra 1 9),(ra 0 11)] [11] (by kernel_rfl) [_,_,_,_,.string s,_,_,_,vi i,_,.int .u8 (dG s (i+1))] H (aF (Z0 rfl (Rm rfl)) (Z0 rfl (Rm rfl)) (Z1 1 36 rfl (Rk rfl)) (Z1 2 37 rfl (Rf uf rfl)) (aF (Z1 3 38 rfl (Ro iB 0 rfl)) (Z0 rfl (Rm rfl)) (Z1 5 40 rfl (Rk rfl)) (Z1 6 41 rfl (Rf nV rfl)) (aF (Z1 7 42 rfl (Ro aC 0 rfl)) (Z1 8 43 rfl (Rd rfl)) ?_ (bJ rfl) dP))) ?_
    · refine eB 4 39 9 44 rfl rfl fun _ a w G1 hG HT H fin=>?_;refine mF (i+1) fC H wn rfl rfl rfl hd1.1 rfl ?_;clear H;intro a H;rw [← iY] at H;exact fin H iJ rfl
    clear H;intro a w G Az H hv;have H:=H.aT (hv 0 35 rfl rfl) rfl;have H:=H.aT (hv 10 45 rfl rfl) rfl;clear hv;refine gT Sb (Li:=[]) (L:=fV b s i p (.slice A lit.length c) (.slice B parts.length d) pl e :: Lt) H wn rfl (by subst nE;exact U2 _ Lp Lo _ b s i p _ _ pl e lit parts (dG s (i+1)) false hR (Hp.owns (Li:=[]) H.hp) (by omega) (by omega) hd1.2 (by omega)) rfl ?_;clear H;rintro v46 KU L46 a w ⟨p46,ahU,q46,Fw,Fv,rfl,ze⟩ zq H;dsimp only [List.nil_append] at H;obtain ⟨WT,c46,rfl,-,-⟩:=ze.buf.shape;obtain ⟨WZ,Zq,rfl,-,-⟩:=ze.prt.shape;refine aH ⟨rfl,?_⟩;refine K4 _ _ ?_;clear K4;refine kP H (SC (Rm rfl (Rk rfl (aO nV aC 0 rfl rfl (Rd rfl (Rk rfl (Rf nV rfl ?_)))))));clear H;intro a H;refine aX aC 0 (vs:=[_]) _ H wn rfl rfl rfl rfl rfl rfl rfl rfl ?_;clear H;intro w H;dsimp only [List.set,setRow] at H;refine aH ?_;refine (leave0 H results195 ?_).2;exact H.hp.eU ⟨_,_,_,Fw,Fv,by rw [mW,ah (by simp [h5]),au h27];rfl,by rw [mW,ah (by simp [h5]),au h27];exact ze⟩
  intro h27 a H
  try have p27:=dF h27
  refine bg (fun _ K5=>?_)
  by_cases c1:pQ (s.extract i s.size) ⟨#[37,100]⟩=true
  · skip;refine dI hmx [[],[0],[0,1],[0,1,2],[],[4],[4,5],[4,5,6],(ra 0 8),(ra 0 9),(ra 0 10),(ra 0 11),(ra 0 11),(ra 0 11++[12]),(ra 0 11++[12,13]),(ra 0 11++[12,13,14]),(ra 0 11++ra 12 4),(ra 0 17),(ra 0 18),(ra 0 19)] [] (by kernel_rfl) [_,_,_,.string s,_,_,_,vi i,.string (s.extract i s.size),.bool (pQ (s.extract i s.size) ⟨#[37,100]⟩),.bool (decide (pQ (s.extract i s.size) ⟨#[37,100]⟩=true)),_,_,(aJ b 0),_,vi i,vi ((i+2:Nat):Int),.bool (rJ s (i+2)),_,_] H (aF (Z0 rfl (Rm rfl)) (Z1 0 55 rfl (Rk rfl)) (Z1 1 56 rfl (Rf uf rfl)) (Z1 2 57 rfl (Ro iB 0 rfl)) (aF (Z0 rfl (Rm rfl)) (Z1 4 59 rfl (Rk rfl)) (Z1 5 60 rfl (Rf nV rfl)) (Z1 6 61 rfl (Ro aC 0 rfl)) (aF ?_ ?_ ?_ (Z1 10 65 rfl (YM (aG c1) rfl)) (aF (Z1 10 65 rfl (YM (aG c1) rfl)) ?_ (Z2 13 68 10 65 rfl (YF nV (aG c1) rfl)) (Z2 14 69 10 65 rfl (YO aC 0 (aG c1) rfl)) (aF ?_ ?_ (Z2 10 65 17 72 rfl (Pt (aG c1) rfl)) (Z1 18 73 rfl (Ra rfl)) dP))))) ?_
    · refine eB 3 58 7 62 rfl rfl fun _ a w G1 hG HT H fin=>?_;refine Pk i fC H wn rfl rfl rfl (by omega) rfl ?_;clear H;intro a H;exact fin H iJ rfl
    · refine eH 8 63 rfl rfl fun _ a w G1 hG HT H fin=>?_;refine s_call Mv H wn rfl (Nw _ _ H.ro _ _ hex (by decide)) rfl ?_;clear H;rintro v64 Xn a w ⟨rfl,rfl⟩ Nl H;exact fin H Nl (rfl)
    · refine eH 9 64 rfl rfl fun _ a w G1 hG HT H fin=>?_;refine kH H (Rm rfl ?_);clear H;intro a H;exact fin H iJ (by show _=_;simp)
    · refine eB 12 67 10 65 rfl rfl fun _ a w G1 hG HT H fin=>?_;refine qW H (wg H rfl rfl (aG c1)) rfl rfl ?_;clear H;intro a H;exact fin H iJ rfl
    · refine eB 15 70 10 65 rfl rfl fun _ a w G1 hG HT H fin=>?_;refine Ke _ H (wg H rfl rfl (aG c1)) rfl rfl rfl (by omega) (by omega) rfl ?_;clear H;intro a H;exact fin H iJ rfl
    · refine wY 11 66 16 71 10 65 rfl rfl fun _ a w G1 hG HT H fin=>?_;refine gT R9 (Li:=[]) (L:=fV b s i p (.slice A lit.length c) (.slice B parts.length d) pl e :: Lt) H (wg H rfl rfl (aG c1)) rfl (RP _ Lt _ b s i p _ _ pl e (i+2) (by omega) (Hp.owns (Li:=[]) H.hp)) rfl ?_;clear H;rintro v72 G72 L72 a w ⟨rfl,rfl,rfl⟩ acV H;dsimp only [List.nil_append] at H;exact fin H acV (rfl)
    clear H;intro a w G Nn H hv;have H:=H.aT (hv 19 54 rfl rfl) rfl;clear hv;refine aH ⟨rfl,?_⟩;refine K5 _ _ ?_;clear K5;refine mV H rfl ?_ ?_
    · intro gX
      try have p54:=dT gX
      have hd2:=RO gX;refine bg (fun _ K6=>?_);refine dI hmx [[],[],[1],[1,2],[1,2,3],[],[5],[5,6],[5,6,7],(ra 5 4),(ra 1 9),(ra 0 11)] [11] (by kernel_rfl) [_,_,_,_,.string s,_,_,_,vi i,_,.int .u8 (dG s (i+2))] H (aF (Z0 rfl (Rm rfl)) (Z0 rfl (Rm rfl)) (Z1 1 75 rfl (Rk rfl)) (Z1 2 76 rfl (Rf uf rfl)) (aF (Z1 3 77 rfl (Ro iB 0 rfl)) (Z0 rfl (Rm rfl)) (Z1 5 79 rfl (Rk rfl)) (Z1 6 80 rfl (Rf nV rfl)) (aF (Z1 7 81 rfl (Ro aC 0 rfl)) (Z1 8 82 rfl (Rd rfl)) ?_ (bJ rfl) dP))) ?_
      · refine eB 4 78 9 83 rfl rfl fun _ a w G1 hG HT H fin=>?_;refine mF (i+2) fC H wn rfl rfl rfl hd2.1 rfl ?_;clear H;intro a H;rw [← iY] at H;exact fin H iJ rfl
      clear H;intro a w G ql H hv;have H:=H.aT (hv 0 74 rfl rfl) rfl;have H:=H.aT (hv 10 84 rfl rfl) rfl;clear hv;refine gT Sb (Li:=[]) (L:=fV b s i p (.slice A lit.length c) (.slice B parts.length d) pl e :: Lt) H wn rfl (by subst nE;exact U2 _ Lp Lo _ b s i p _ _ pl e lit parts (dG s (i+2)) true hR (Hp.owns (Li:=[]) H.hp) (by omega) (by omega) hd2.2 (by omega)) rfl ?_;clear H;rintro v85 G85 L85 a w ⟨p46,ahU,q46,Fw,Fv,rfl,ze⟩ ajf H;dsimp only [List.nil_append] at H;obtain ⟨WT,c46,rfl,-,-⟩:=ze.buf.shape;obtain ⟨WZ,Zq,rfl,-,-⟩:=ze.prt.shape;refine aH ⟨rfl,?_⟩;refine K6 _ _ ?_;clear K6;refine kP H (SC (Rm rfl (Rk rfl (aO nV aC 0 rfl rfl (Rd rfl (Rk rfl (Rf nV rfl ?_)))))));clear H;intro a H;refine aX aC 0 (vs:=[_]) _ H wn rfl rfl rfl rfl rfl rfl rfl rfl ?_;clear H;intro w H;dsimp only [List.set,setRow] at H;refine aH ?_;refine (leave0 H results195 ?_).2
      have tq:¬ pQ (s.extract i s.size) ⟨#[37,37]⟩=true:=by simp [h5]
      have sZ:¬ rJ s (i+1)=true:=by simp [h27]
      first
        | exact H.hp.eU ⟨_,_,_,Fw,Fv,by rw [mW,ah tq,ah sZ,au ⟨c1,gX⟩];rfl,by rw [mW,ah tq,ah sZ,au ⟨c1,gX⟩];exact ze⟩
        | (have AX:¬ (pQ (s.extract i s.size) ⟨#[37,100]⟩=true∧rJ s (i+2)=true):=by simp_all
           exact H.hp.eU ⟨_,_,_,Lp,Lo,by rw [mW,ah tq,ah sZ,ah AX,nE],by rw [mW,ah tq,ah sZ,ah AX];exact hR⟩)
    intro gX
    try have p54:=dF gX
    refine kP H (SC (Rm rfl (Rk rfl (Rf xB rfl ?_))));clear H;intro a H;refine aX eP 0 (vs:=[_]) _ H wn rfl rfl rfl rfl rfl rfl rfl rfl ?_;clear H;intro w H;dsimp only [List.set,setRow] at H;refine aH ?_;refine (leave0 H results195 ?_).2
    have tq:¬ pQ (s.extract i s.size) ⟨#[37,37]⟩=true:=by simp [h5]
    have sZ:¬ rJ s (i+1)=true:=by simp [h27]
    first
      | exact H.hp.eU ⟨_,_,_,Fw,Fv,by rw [mW,ah tq,ah sZ,au ⟨c1,gX⟩];rfl,by rw [mW,ah tq,ah sZ,au ⟨c1,gX⟩];exact ze⟩
      | (have AX:¬ (pQ (s.extract i s.size) ⟨#[37,100]⟩=true∧rJ s (i+2)=true):=by simp_all
         exact H.hp.eU ⟨_,_,_,Lp,Lo,by rw [mW,ah tq,ah sZ,ah AX,nE],by rw [mW,ah tq,ah sZ,ah AX];exact hR⟩)
  skip;refine dI hmx [[],[0],[0,1],[0,1,2],[],[4],[4,5],[4,5,6],(ra 0 8),(ra 0 9),(ra 0 10),(ra 0 11),(ra 0 11),(ra 0 11++[12]),(ra 0 11++[12,13]),(ra 0 11++[12,13,14]),(ra 0 11++ra 12 4),(ra 0 17),(ra 0 18),(ra 0 19)] [] (by kernel_rfl) [_,_,_,.string s,_,_,_,vi i,.string (s.extract i s.size),.bool (pQ (s.extract i s.size) ⟨#[37,100]⟩),.bool (decide (pQ (s.extract i s.size) ⟨#[37,100]⟩=true)),undef,undef,undef,undef,undef,undef,undef,_,_] H (aF (Z0 rfl (Rm rfl)) (Z1 0 55 rfl (Rk rfl)) (Z1 1 56 rfl (Rf uf rfl)) (Z1 2 57 rfl (Ro iB 0 rfl)) (aF (Z0 rfl (Rm rfl)) (Z1 4 59 rfl (Rk rfl)) (Z1 5 60 rfl (Rf nV rfl)) (Z1 6 61 rfl (Ro aC 0 rfl)) (aF ?_ ?_ ?_ (bq (j:=10) (by kernel_rfl) (fun _ _ _ _ _ h=>h) rfl rfl rfl rfl rfl (fun _ _ h=>bD h (aM (aR c1))) rfl (fun _=>rfl)) (aF (bq (j:=10) (by kernel_rfl) (fun _ _ _ _ _ h=>h) rfl rfl rfl rfl rfl (fun _ _ h=>bD h (aM (aR c1))) rfl (fun _=>rfl)) (bq (j:=10) (by kernel_rfl) (fun _ _ _ _ _ h=>h) rfl rfl rfl rfl rfl (fun _ _ h=>bD h (aM (aR c1))) rfl (fun _=>rfl)) (bq (j:=10) (by kernel_rfl) (fun _ _ _ _ _ h=>h) rfl rfl rfl rfl rfl (fun _ _ h=>bD h (aM (aR c1))) rfl (fun _=>rfl)) (bq (j:=10) (by kernel_rfl) (fun _ _ _ _ _ h=>h) rfl rfl rfl rfl rfl (fun _ _ h=>bD h (aM (aR c1))) rfl (fun _=>rfl)) (aF (bq (j:=10) (by kernel_rfl) (fun _ _ _ _ _ h=>h) rfl rfl rfl rfl rfl (fun _ _ h=>bD h (aM (aR c1))) rfl (fun _=>rfl)) (bq (j:=10) (by kernel_rfl) (fun _ _ _ _ _ h=>h) rfl rfl rfl rfl rfl (fun _ _ h=>bD h (aM (aR c1))) rfl (fun _=>rfl)) (Z2 10 65 17 72 rfl (Pf (aR c1) rfl)) (Z1 18 73 rfl (Ra rfl)) dP))))) ?_
  · refine eB 3 58 7 62 rfl rfl fun _ a w G1 hG HT H fin=>?_;refine Pk i fC H wn rfl rfl rfl (by omega) rfl ?_;clear H;intro a H;exact fin H iJ rfl
  · refine eH 8 63 rfl rfl fun _ a w G1 hG HT H fin=>?_;refine s_call Mv H wn rfl (Nw _ _ H.ro _ _ hex (by decide)) rfl ?_;clear H;rintro v64 Xn a w ⟨rfl,rfl⟩ Nl H;exact fin H Nl (rfl)
  · refine eH 9 64 rfl rfl fun _ a w G1 hG HT H fin=>?_;refine kH H (Rm rfl ?_);clear H;intro a H;exact fin H iJ (by show _=_;simp)
  clear H;intro a w G Nn H hv;have H:=H.aT (hv 19 54 rfl rfl) rfl;clear hv;refine aH ⟨rfl,?_⟩;refine K5 _ _ ?_;clear K5;refine pJ H rfl rfl ?_;refine kP H (SC (Rm rfl (Rk rfl (Rf xB rfl ?_))));clear H;intro a H;refine aX eP 0 (vs:=[_]) _ H wn rfl rfl rfl rfl rfl rfl rfl rfl ?_;clear H;intro w H;dsimp only [List.set,setRow] at H;refine aH ?_;refine (leave0 H results195 ?_).2
  have tq:¬ pQ (s.extract i s.size) ⟨#[37,37]⟩=true:=by simp [h5]
  have sZ:¬ rJ s (i+1)=true:=by simp [h27]
  first
    | exact H.hp.eU ⟨_,_,_,Fw,Fv,by rw [mW,ah tq,ah sZ,au ⟨c1,gX⟩];rfl,by rw [mW,ah tq,ah sZ,au ⟨c1,gX⟩];exact ze⟩
    | (have AX:¬ (pQ (s.extract i s.size) ⟨#[37,100]⟩=true∧rJ s (i+2)=true):=by simp_all
       exact H.hp.eU ⟨_,_,_,Lp,Lo,by rw [mW,ah tq,ah sZ,ah AX,nE],by rw [mW,ah tq,ah sZ,ah AX];exact hR⟩)
end
section
open Go.RowKit
theorem aaT:∀ args w,(callFunc 195 args).run prog w=.ok (.enter 195 args) w:=enters func195 rfl (by kernel_rfl)
def IC (s:ByteArray) (i:Nat):UInt8:=if h:i < s.size then s[i] else 0
theorem XV (s:ByteArray) (i:Nat):dG s i=((IC s i).toNat:Int):=by
 unfold dG IC;split <;> rfl
def mG (s:ByteArray) (x:rz):rz:=if dG s x.i=37 then mW s x else ⟨x.i+1,x.lit++[IC s x.i],x.parts,x.pl,x.e⟩
def zG (s:ByteArray):Nat→rz→rz
 | 0,x=>x
 | f+1,x=>if x.i < s.size∧x.e=0 then zG s f (mG s x) else x
def mS (s:ByteArray) (x:rz):Nat:=if x.e=0 then s.size - x.i else 0
theorem VA {s:ByteArray} {f:Nat} {x:rz} (h:¬ (x.i < s.size∧x.e=0)):zG s f x=x:=by
 cases f with
 | zero=>rfl
 | succ f=>rw [zG,ah h]
theorem acC (lit:List UInt8) (parts:List iF):(rO lit parts).length≤parts.length+1:=by unfold rO;split <;> simp
theorem VK (s:ByteArray) (x:rz) (h:x.i < s.size∧x.e=0) (h1:x.lit.length≤x.i) (h2:x.parts.length≤2*x.i) (h3:x.pl≤x.i) :
  (mG s x).i≤x.i+3∧(mG s x).lit.length≤(mG s x).i∧(mG s x).parts.length≤2*(mG s x).i∧(mG s x).pl≤(mG s x).i∧mS s (mG s x) < mS s x∧mS s x≤s.size:=by
 have hf:=acC x.lit x.parts;have hm:mS s x=s.size - x.i:=au h.2
 unfold mG mW
 split
 ·split
  ·refine ⟨?_,?_,?_,?_,?_,?_⟩ <;> simp only [mS,lC,lX,List.length_nil] at*<;> simp only [h.2,if_true] at*<;> omega
  split
  ·refine ⟨?_,?_,?_,?_,?_,?_⟩ <;> simp only [mS,lC,lX,List.length_nil] at*<;> simp only [h.2,if_true] at*<;> omega
  split
  ·refine ⟨?_,?_,?_,?_,?_,?_⟩ <;> simp only [mS,lC,lX,List.length_nil] at*<;> simp only [h.2,if_true] at*<;> omega
  refine ⟨?_,?_,?_,?_,?_,?_⟩ <;> simp only [mS,lC,lX,List.length_nil] at*<;> simp only [h.2,if_true] at*<;> (try omega) <;> (simp;omega)
 refine ⟨?_,?_,?_,?_,?_,?_⟩ <;> simp only [mS,lC,lX,List.length_nil] at*<;> simp only [h.2,if_true] at*<;> omega
def xW:rz:=⟨0,[],[],0,0⟩
def jA (s:ByteArray):rz:=zG s s.size xW
def qX (x:rz):Int:=if x.e=0∧9 < (x.pl:Int) then 9 else x.e
set_option maxHeartbeats 1000000 in
theorem agI (G:GH) (Iu Ir:OL) (w0:World) (b:Nat) (s:ByteArray) (p0 v0 q0:aj) (hR:xg b [] [] p0 v0 q0 Iu Ir) (hO:gI G (tK b s xW p0 v0 q0 :: (Iu++Ir)) w0) (hs:s.size≤1073741824) :
  Calls prog 191 #[(aJ b 0)] w0 (fT w0 G (tK b s xW p0 v0 q0 :: (Iu++Ir)) fun u G' L'=>∃ p' v' q' oC gP,L'=fV b s (jA s).i p' v' q' (jA s).pl (qX (jA s)) :: (oC++gP)∧xg b [] (rO (jA s).lit (jA s).parts) p' v' q' oC gP):=by
 obtain ⟨A0,c0,rfl,-,-⟩:=hR.buf.shape;obtain ⟨B0,d0,rfl,-,-⟩:=hR.prt.shape;refine jh (N:=68) (T:=[(0,_)]) func191 rfl ntmps191 rfl rfl hO ?_;intro a H;refine bg (fun _ K1=>?_);refine oG ?_;skip;refine gq (ι:=Nat × rz × aj × Option Addr × Nat × Option Addr × Nat × OL × OL × GH) (Tc:=[(0,_)]) (Lc:=[]) (fun gh=>[]) (fun gh=>[tK b s gh.2.1 gh.2.2.1 (.slice gh.2.2.2.1 gh.2.1.lit.length gh.2.2.2.2.1) (.slice gh.2.2.2.2.2.1 gh.2.1.parts.length gh.2.2.2.2.2.2.1)]++(gh.2.2.2.2.2.2.2.1++gh.2.2.2.2.2.2.2.2.1)) (fun gh=>gh.2.2.2.2.2.2.2.2.2) (fun gh=>xg b gh.2.1.lit gh.2.1.parts gh.2.2.1 (.slice gh.2.2.2.1 gh.2.1.lit.length gh.2.2.2.2.1) (.slice gh.2.2.2.2.2.1 gh.2.1.parts.length gh.2.2.2.2.2.2.1) gh.2.2.2.2.2.2.2.1 gh.2.2.2.2.2.2.2.2.1∧zG s gh.1 gh.2.1=jA s∧mS s gh.2.1≤gh.1∧gh.1≤s.size∧gh.2.1.i≤s.size+3∧gh.2.1.lit.length≤gh.2.1.i∧gh.2.1.parts.length≤2*gh.2.1.i∧gh.2.1.pl≤gh.2.1.i) (fun gh=>gh.1) ((s.size,xW,p0,A0,c0,B0,d0,Iu,Ir,G)) (by exact (H).sub ⟨rfl,aD⟩) ?_ ?_
 ·exact ⟨hR,rfl,by simp [mS,xW],bP _,by simp [xW],by simp [xW],by simp [xW],by simp [xW]⟩
 clear H;intro gh a w hI H;obtain ⟨k,x,p,vA,vc,qA,qc,Lp,Lo,g⟩:=gh;dsimp only at hI H;obtain ⟨hR,hsc,hmk,hks,hxi,hx1,hx2,hx3⟩:=hI;dsimp only [lca,aV] at H;refine bg (fun _ K2=>?_);refine bg (fun _ K3=>?_)
 by_cases c0:(x.i:Int) < (s.size:Int)
 ·skip
  by_cases c1:x.e=0
  ·skip;refine dI hmx [[],[0],[0,1],[0,1,2],[],[4],[4,5],[4,5,6],(ra 4 4),(ra 0 9),(ra 0 10),(ra 0 11),(ra 0 12),(ra 0 13),(ra 0 14),(ra 0 15),(ra 0 16)] [] (by kernel_rfl) [_,_,_,vi x.i,_,_,_,.string s,_,_,_,_,(aJ b 0),_,vi x.e,_,_] H (aF (Z0 rfl (Rm rfl)) (Z1 0 2 rfl (Rk rfl)) (Z1 1 3 rfl (Rf nV rfl)) (Z1 2 4 rfl (Ro aC 0 rfl)) (aF (Z0 rfl (Rm rfl)) (Z1 4 6 rfl (Rk rfl)) (Z1 5 7 rfl (Rf uf rfl)) (Z1 6 8 rfl (Ro iB 0 rfl)) (aF (Z1 7 9 rfl (Rv fC rfl)) (Z2 3 5 8 10 rfl (Rc rfl)) (Z1 9 11 rfl (Rm rfl)) (Z1 10 12 rfl (YM (aG c0) rfl)) (aF ?_ (Z2 12 14 10 12 rfl (YF xB (aG c0) rfl)) (Z2 13 15 10 12 rfl (YO eP 0 (aG c0) rfl)) (Z2 14 16 10 12 rfl (YC (aG c0) rfl)) (bM (Z2 10 12 15 17 rfl (Pt (aG c0) rfl)) dP))))) ?_
   ·refine eB 11 13 10 12 rfl rfl fun _ a w G1 hG HT H fin=>?_;refine qW H (wg H rfl rfl (aG c0)) rfl rfl ?_;clear H;intro a H;exact fin H iJ rfl
   clear H;intro a w G Tm H hv;have H:=H.aT (hv 16 18 rfl rfl) rfl;clear hv;refine aH ⟨rfl,?_⟩;refine K3 _ _ ?_;clear K3;refine yI H rfl (aG c1) ?_;refine kP H (Kc K2 (SB (SQ fun _ K4=>SQ fun _ K5=>?_)));clear H K2;intro a H;refine dI hmx [[],[0],[0,1],[0,1,2],[],[4],[4,5],[4,5,6],(ra 0 8),(ra 0 9)] [] (by kernel_rfl) [_,_,_,.string s,_,_,_,vi x.i,.int .u8 (dG s x.i),_] H (aF (Z0 rfl (Rm rfl)) (Z1 0 19 rfl (Rk rfl)) (Z1 1 20 rfl (Rf uf rfl)) (Z1 2 21 rfl (Ro iB 0 rfl)) (aF (Z0 rfl (Rm rfl)) (Z1 4 23 rfl (Rk rfl)) (Z1 5 24 rfl (Rf nV rfl)) (Z1 6 25 rfl (Ro aC 0 rfl)) (bM ?_ (bM (Z1 8 27 rfl (Rc rfl)) dP)))) ?_
   ·refine eB 3 22 7 26 rfl rfl fun _ a w G1 hG HT H fin=>?_;refine mF x.i fC H wn rfl rfl rfl (by omega) rfl ?_;clear H;intro a H;rw [← iY] at H;exact fin H iJ rfl
   clear H;intro a w G lU H hv;have H:=H.aT (hv 9 28 rfl rfl) rfl;clear hv;refine aH ⟨rfl,?_⟩;refine K5 _ _ ?_;clear K5;refine mV H rfl ?_ ?_
   ·intro dR
    try have p28:=dT dR
    refine kP H (SR fun _ K6=>Rm rfl ?_);clear H;intro a H;refine gT aaT (Li:=[]) (L:=tK b s x p (.slice vA x.lit.length vc) (.slice qA x.parts.length qc) :: (Lp++Lo)) H wn rfl (afC _ Lp Lo _ b s x p _ _ hR (Hp.owns (Li:=[]) H.hp) (by omega) (by omega) (by omega) (by omega) (by omega)) rfl ?_;clear H;rintro v30 yC L30 a w ⟨p',v',q',oC,gP,rfl,Jv⟩ wC H;dsimp only [List.nil_append] at H;have hst:mG s x=mW s x:=au p28;have hok:=VK s x ⟨by omega,c1⟩ hx1 hx2 hx3
    have hkk:k=(k - 1)+1:=by omega
    have Og:zG s (k - 1) (mG s x)=jA s:=by rw [hkk,zG,au ⟨by omega,c1⟩] at hsc;exact hsc
    rw [← hst] at H Jv;obtain ⟨WS,Ya,rfl,-,-⟩:=Jv.buf.shape;obtain ⟨WY,Zp,rfl,-,-⟩:=Jv.prt.shape;refine K6 _ _ ?_;clear K6;refine fI ?_;refine eO ((k - 1,mG s x,p',WS,Ya,WY,Zp,oC,gP,yC)) (by exact (H).sub ⟨rfl,aD⟩) ?_ ?_
    ·(try dsimp only);exact ⟨Jv,Og,by omega,by omega,by omega,by omega,by omega,by omega⟩
    first|omega|(dsimp only;omega)
   intro dR
   try have p28:=dF dR
   refine fQ ?_;refine K4 _ _ ?_;clear K4;refine bg (fun _ K7=>?_);refine dI hmx [[],[0],[0,1],[],[3],[3,4],[3,4,5],[],[7],[7,8],[7,8,9],(ra 3 8),(ra 0 12)] [12] (by kernel_rfl) [_,_,_,_,_,_,.string s,_,_,_,vi x.i,.int .u8 (dG s x.i)] H (aF (Z0 rfl (Rm rfl)) (Z1 0 31 rfl (Rk rfl)) (Z1 1 32 rfl (Rf F6 rfl)) (Z0 rfl (Rm rfl)) (aF (Z1 3 34 rfl (Rk rfl)) (Z1 4 35 rfl (Rf uf rfl)) (Z1 5 36 rfl (Ro iB 0 rfl)) (Z0 rfl (Rm rfl)) (aF (Z1 7 38 rfl (Rk rfl)) (Z1 8 39 rfl (Rf nV rfl)) (Z1 9 40 rfl (Ro aC 0 rfl)) ?_ (bM (bJ rfl) dP)))) ?_
   ·refine eB 6 37 10 41 rfl rfl fun _ a w G1 hG HT H fin=>?_;refine mF x.i fC H wn rfl rfl rfl (by omega) rfl ?_;clear H;intro a H;rw [← iY] at H;exact fin H iJ rfl
   clear H;intro a w G acP H hv;have H:=H.aT (hv 2 33 rfl rfl) rfl;have H:=H.aT (hv 11 42 rfl rfl) rfl;clear hv;refine gT R8 (Li:=[]) (L:=tK b s x p (.slice vA x.lit.length vc) (.slice qA x.parts.length qc) :: (Lp++Lo)) H wn rfl (Wu _ Lp Lo _ b s x.i p _ qA x.parts.length qc x.pl x.e x.lit.length _ (dG s x.i) hR.ptr (Hp.owns (Li:=[]) H.hp) hR.buf (by omega)) rfl ?_;clear H;rintro v43 _ L43 a w ⟨ajw,KZ,rfl,TT,rfl⟩ nZ H;dsimp only [List.nil_append] at H;obtain ⟨KP,LK,rfl,-,-⟩:=TT.shape;have hst:mG s x=⟨x.i+1,x.lit++[IC s x.i],x.parts,x.pl,x.e⟩:=ah p28;have hok:=VK s x ⟨by omega,c1⟩ hx1 hx2 hx3
   have hkk:k=(k - 1)+1:=by omega
   have Og:zG s (k - 1) (mG s x)=jA s:=by rw [hkk,zG,au ⟨by omega,c1⟩] at hsc;exact hsc
   have acY:xg b (mG s x).lit (mG s x).parts (aJ b 2) (.slice KP (mG s x).lit.length LK) (.slice qA (mG s x).parts.length qc) Lp KZ:=by
    rw [hst];exact ⟨.inr rfl,by simpa [Lib.byteCells,XV] using TT,hR.prt⟩
   refine aH ⟨rfl,?_⟩;refine K7 _ _ ?_;clear K7;refine kP H (SC (Rm rfl (Rk rfl (aO nV aC 0 rfl rfl (Rd rfl (Rk rfl (Rf nV rfl ?_)))))));clear H;intro a H;refine aX aC 0 (vs:=[_]) _ H wn rfl rfl rfl rfl rfl rfl rfl rfl ?_;clear H;intro w H;dsimp only [List.set,setRow] at H;replace H:St _ _ _ _ _ _ (tK b s (mG s x) (aJ b 2) (.slice KP (mG s x).lit.length LK) (.slice qA (mG s x).parts.length qc) :: (Lp++KZ)) _ _ _:=H.cast (by rw [hst];simp [tK,fV]);refine aH ?_;refine eO ((k - 1,mG s x,(aJ b 2),KP,LK,qA,qc,Lp,KZ,_)) (by exact (H).sub ⟨rfl,aD⟩) ?_ ?_
   ·(try dsimp only);exact ⟨acY,Og,by omega,by omega,by omega,by omega,by omega,by omega⟩
   first|omega|(dsimp only;omega)
  skip;refine dI hmx [[],[0],[0,1],[0,1,2],[],[4],[4,5],[4,5,6],(ra 4 4),(ra 0 9),(ra 0 10),(ra 0 11),(ra 0 12),(ra 0 13),(ra 0 14),(ra 0 15),(ra 0 16)] [] (by kernel_rfl) [_,_,_,vi x.i,_,_,_,.string s,_,_,_,_,(aJ b 0),_,vi x.e,_,_] H (aF (Z0 rfl (Rm rfl)) (Z1 0 2 rfl (Rk rfl)) (Z1 1 3 rfl (Rf nV rfl)) (Z1 2 4 rfl (Ro aC 0 rfl)) (aF (Z0 rfl (Rm rfl)) (Z1 4 6 rfl (Rk rfl)) (Z1 5 7 rfl (Rf uf rfl)) (Z1 6 8 rfl (Ro iB 0 rfl)) (aF (Z1 7 9 rfl (Rv fC rfl)) (Z2 3 5 8 10 rfl (Rc rfl)) (Z1 9 11 rfl (Rm rfl)) (Z1 10 12 rfl (YM (aG c0) rfl)) (aF ?_ (Z2 12 14 10 12 rfl (YF xB (aG c0) rfl)) (Z2 13 15 10 12 rfl (YO eP 0 (aG c0) rfl)) (Z2 14 16 10 12 rfl (YC (aG c0) rfl)) (bM (Z2 10 12 15 17 rfl (Pt (aG c0) rfl)) dP))))) ?_
  ·refine eB 11 13 10 12 rfl rfl fun _ a w G1 hG HT H fin=>?_;refine qW H (wg H rfl rfl (aG c0)) rfl rfl ?_;clear H;intro a H;exact fin H iJ rfl
  clear H;intro a w G Tm H hv;have H:=H.aT (hv 16 18 rfl rfl) rfl;clear hv;refine aH ⟨rfl,?_⟩;refine K3 _ _ ?_;clear K3;refine pJ H rfl (aR c1) ?_;refine fI ?_;refine K1 _ _ ?_;clear K1;refine bg (fun _ K8=>?_)
  have Ov:x=jA s:=by
   rw [VA (by first|exact fun h=>c0 (by omega)|exact fun h=>c1 h.2)] at hsc;exact hsc
  subst Ov;refine kP H (SC (Rm rfl ?_));clear H;intro a H;refine gT Mt (Li:=[]) (L:=tK b s (jA s) p (.slice vA (jA s).lit.length vc) (.slice qA (jA s).parts.length qc) :: (Lp++Lo)) H wn rfl (MX _ Lp Lo _ b s (jA s).i p _ _ (jA s).pl (jA s).e (jA s).lit (jA s).parts hR (Hp.owns (Li:=[]) H.hp) (by omega) (by omega)) rfl ?_;clear H;rintro v52 Im Xw a w ⟨p52,ahV,q52,XE,XC,rfl,qm⟩ NT H;dsimp only [List.nil_append] at H;obtain ⟨WU,Yb,rfl,-,-⟩:=qm.buf.shape;obtain ⟨W9,Zr,rfl,-,-⟩:=qm.prt.shape;refine kH H (Kn K8 (SR fun _ K9=>Rm rfl (Rk rfl (aO xB eP 0 rfl rfl (Rc rfl (Rm rfl (Sp 58 rfl ?_ ?_))))))) <;> clear H K8
  ·intro jv a H
   try have p58:=dT jv
   refine kH H (YM jv rfl ?_);clear H;intro a H;refine qW H (wg H rfl rfl jv) rfl rfl ?_;clear H;intro a H;refine kH H (YF Je jv rfl (YO aC 0 jv rfl (YC jv rfl (Pt jv rfl (Kz K9 (Cd rfl ?_ ?_)))))) <;> clear H K9
   ·intro h64 a H
    try have p64:=dT h64
    refine kP H (SC (Rm rfl (Rk rfl (Rf xB rfl ?_))));clear H;intro a H;refine aX eP 0 (vs:=[_]) _ H wn rfl rfl rfl rfl rfl rfl rfl rfl ?_;clear H;intro w H;dsimp only [List.set,setRow] at H;refine aH ?_;refine (leave0 H results191 ?_).2
    first
     | exact H.hp.eU ⟨_,_,_,_,_,by rw [qX,au ⟨by assumption,by assumption⟩],qm⟩
     | exact H.hp.eU ⟨_,_,_,_,_,by rw [qX,ah (by first|exact fun h=>p58 h.1|exact fun h=>p64 h.2)],qm⟩
   intro h64 a H
   try have p64:=dF h64
   refine fQ ?_;refine (leave0 H results191 ?_).2
   first
    | exact H.hp.eU ⟨_,_,_,_,_,by rw [qX,au ⟨by assumption,by assumption⟩],qm⟩
    | exact H.hp.eU ⟨_,_,_,_,_,by rw [qX,ah (by first|exact fun h=>p58 h.1|exact fun h=>p64 h.2)],qm⟩
  intro jv a H
  try have p58:=dF jv
  refine kH H (cK jv rfl (bO jv rfl (Pf jv rfl (Kz K9 (Cf rfl rfl ?_)))));clear H K9;intro a H;refine fQ ?_;refine (leave0 H results191 ?_).2
  first
   | exact H.hp.eU ⟨_,_,_,_,_,by rw [qX,au ⟨by assumption,by assumption⟩],qm⟩
   | exact H.hp.eU ⟨_,_,_,_,_,by rw [qX,ah (by first|exact fun h=>p58 h.1|exact fun h=>p64 h.2)],qm⟩
 skip;refine dI hmx [[],[0],[0,1],[0,1,2],[],[4],[4,5],[4,5,6],(ra 4 4),(ra 0 9),(ra 0 10),(ra 0 11),(ra 0 12),(ra 0 13),(ra 0 14),(ra 0 15),(ra 0 16)] [] (by kernel_rfl) [_,_,_,vi x.i,_,_,_,.string s,_,_,_,undef,undef,undef,undef,undef,_] H (aF (Z0 rfl (Rm rfl)) (Z1 0 2 rfl (Rk rfl)) (Z1 1 3 rfl (Rf nV rfl)) (Z1 2 4 rfl (Ro aC 0 rfl)) (aF (Z0 rfl (Rm rfl)) (Z1 4 6 rfl (Rk rfl)) (Z1 5 7 rfl (Rf uf rfl)) (Z1 6 8 rfl (Ro iB 0 rfl)) (aF (Z1 7 9 rfl (Rv fC rfl)) (Z2 3 5 8 10 rfl (Rc rfl)) (Z1 9 11 rfl (Rm rfl)) (bq (j:=10) (by kernel_rfl) (fun _ _ _ _ _ h=>h) rfl rfl rfl rfl rfl (fun _ _ h=>bD h (aM (aR c0))) rfl (fun _=>rfl)) (aF (bq (j:=10) (by kernel_rfl) (fun _ _ _ _ _ h=>h) rfl rfl rfl rfl rfl (fun _ _ h=>bD h (aM (aR c0))) rfl (fun _=>rfl)) (bq (j:=10) (by kernel_rfl) (fun _ _ _ _ _ h=>h) rfl rfl rfl rfl rfl (fun _ _ h=>bD h (aM (aR c0))) rfl (fun _=>rfl)) (bq (j:=10) (by kernel_rfl) (fun _ _ _ _ _ h=>h) rfl rfl rfl rfl rfl (fun _ _ h=>bD h (aM (aR c0))) rfl (fun _=>rfl)) (bq (j:=10) (by kernel_rfl) (fun _ _ _ _ _ h=>h) rfl rfl rfl rfl rfl (fun _ _ h=>bD h (aM (aR c0))) rfl (fun _=>rfl)) (bM (Z2 10 12 15 17 rfl (Pf (aR c0) rfl)) dP))))) ?_
 clear H;intro a w G Tm H hv;have H:=H.aT (hv 16 18 rfl rfl) rfl;clear hv;refine aH ⟨rfl,?_⟩;refine K3 _ _ ?_;clear K3;refine pJ H rfl rfl ?_;refine fI ?_;refine K1 _ _ ?_;clear K1;refine bg (fun _ aQ=>?_)
 have Ov:x=jA s:=by
  rw [VA (by first|exact fun h=>c0 (by omega)|exact fun h=>c1 h.2)] at hsc;exact hsc
 subst Ov;refine kP H (SC (Rm rfl ?_));clear H;intro a H;refine gT Mt (Li:=[]) (L:=tK b s (jA s) p (.slice vA (jA s).lit.length vc) (.slice qA (jA s).parts.length qc) :: (Lp++Lo)) H wn rfl (MX _ Lp Lo _ b s (jA s).i p _ _ (jA s).pl (jA s).e (jA s).lit (jA s).parts hR (Hp.owns (Li:=[]) H.hp) (by omega) (by omega)) rfl ?_;clear H;rintro v52 Im Xw a w ⟨p52,ahV,q52,XE,XC,rfl,qm⟩ NT H;dsimp only [List.nil_append] at H;obtain ⟨WU,Yb,rfl,-,-⟩:=qm.buf.shape;obtain ⟨W9,Zr,rfl,-,-⟩:=qm.prt.shape;refine kH H (Kn aQ (SR fun _ bH=>Rm rfl (Rk rfl (aO xB eP 0 rfl rfl (Rc rfl (Rm rfl (Sp 58 rfl ?_ ?_))))))) <;> clear H aQ
 ·intro jv a H
  try have p58:=dT jv
  refine kH H (YM jv rfl ?_);clear H;intro a H;refine qW H (wg H rfl rfl jv) rfl rfl ?_;clear H;intro a H;refine kH H (YF Je jv rfl (YO aC 0 jv rfl (YC jv rfl (Pt jv rfl (Kz bH (Cd rfl ?_ ?_)))))) <;> clear H bH
  ·intro h64 a H
   try have p64:=dT h64
   refine kP H (SC (Rm rfl (Rk rfl (Rf xB rfl ?_))));clear H;intro a H;refine aX eP 0 (vs:=[_]) _ H wn rfl rfl rfl rfl rfl rfl rfl rfl ?_;clear H;intro w H;dsimp only [List.set,setRow] at H;refine aH ?_;refine (leave0 H results191 ?_).2
   first
    | exact H.hp.eU ⟨_,_,_,_,_,by rw [qX,au ⟨by assumption,by assumption⟩],qm⟩
    | exact H.hp.eU ⟨_,_,_,_,_,by rw [qX,ah (by first|exact fun h=>p58 h.1|exact fun h=>p64 h.2)],qm⟩
  intro h64 a H
  try have p64:=dF h64
  refine fQ ?_;refine (leave0 H results191 ?_).2
  first
   | exact H.hp.eU ⟨_,_,_,_,_,by rw [qX,au ⟨by assumption,by assumption⟩],qm⟩
   | exact H.hp.eU ⟨_,_,_,_,_,by rw [qX,ah (by first|exact fun h=>p58 h.1|exact fun h=>p64 h.2)],qm⟩
 intro jv a H
 try have p58:=dF jv
 refine kH H (cK jv rfl (bO jv rfl (Pf jv rfl (Kz bH (Cf rfl rfl ?_)))));clear H bH;intro a H;refine fQ ?_;refine (leave0 H results191 ?_).2
 first
  | exact H.hp.eU ⟨_,_,_,_,_,by rw [qX,au ⟨by assumption,by assumption⟩],qm⟩
  | exact H.hp.eU ⟨_,_,_,_,_,by rw [qX,ah (by first|exact fun h=>p58 h.1|exact fun h=>p64 h.2)],qm⟩
end
section
open Go.RowKit
def wQ (c:Int):List Dat:=[.lf (.int .u8 c)]
theorem VT {G:GH} {c:Int} {cs:List aj} (h:aS G (wQ c) cs):cs=[.int .u8 c]:=by
 simp only [wQ,aS,av] at h
 obtain ⟨_,_,rfl,⟨rfl,_⟩,rfl⟩:=h
 rfl
def Dw (s:ByteArray):List Int:=s.data.toList.map fun b=>(b.toNat:Int)
theorem X9 (G:GH) (l:List Int):gJ G 1 (l.map wQ) (l.map fun c=>Value.int .u8 c):=by
 refine ⟨l.map fun c=>[.int .u8 c],by induction l with|nil=>rfl|cons x r ih=>simp [ih],by simp,fun j r cs hr hc=>?_⟩
 rw [mM] at hr hc
 obtain ⟨x,hx,rfl⟩:=kS.1 hr
 rw [hx] at hc
 cases hc
 exact ⟨by simp only [wQ,aS];exact ⟨_,_,rfl,by simp [av,Value.oneCell'],rfl⟩,rfl⟩
theorem afY {G:GH} {sz b o n cap:Nat} {cur:Array aj} {e:TypeId} {fz:Nat × Nat} {rows:List (List Dat)} (hb:G b=some (.cells cur e fz)) (h:av (fun k=>if k=b then some (.cells cur e (0,0)) else G k) (.sl sz rows) (.slice (some ⟨b,o,none⟩) n cap)) (hr:∀ r∈rows,∃ c,r=wQ c):av G (.sl sz rows) (.slice (some ⟨b,o,none⟩) n cap):=by
 simp only [av] at h ⊢
 obtain ⟨A,c,h1,h2,h3,h4⟩:=h
 refine ⟨A,c,h1,h2,h3,fun hn=>?_⟩
 obtain ⟨b',o',e',hrr⟩:=h4 hn
 injection h1 with e1
 subst e1
 injection e' with e2
 injection e2 with e3 e4
 subst e3;subst e4
 refine ⟨_,_,rfl,kD.mk fun k r hk=>?_⟩
 obtain ⟨cs,g1,g2,g3⟩:=hrr.get hk
 refine ⟨cs,g1,fun j u hj=>?_,?_⟩
 ·have:=g2 j u hj
  unfold aI at this ⊢
  simp only [if_true] at this
  rw [hb];exact this
 ·obtain ⟨c,rfl⟩:=hr r (kR hk)
  have:=VT g3
  subst this
  simp only [wQ,aS];exact ⟨_,_,rfl,by simp [av,Value.oneCell'],rfl⟩
section
variable {N:Nat} {D:List Deferred} {w0:World} {F:Nat→Prop} {G0 G:GH} {L:OL} {T:List (Nat × aj)}
variable {r:Option Nat} {P:Program} {ops:Array Oper} {Q:Exit→Act→World→Prop} {rest:List Oper} {a:Act} {w:World}
variable {d:Nat} {ty:TypeId} {pos:String} {aK:Array Edge} {g:Option (Nat × Bool)}
theorem ahQ {w:World} {b o n:Nat} {c:Array aj} {e:TypeId} {fz:Nat × Nat} (h:w.heap[b]?=some (.cells c e fz)) (hn:n≠0):∃ BS,rD b (.cells c e BS) w (w.freeze ⟨b,o,none⟩ n):=by
 unfold World.freeze
 rw [ah hn]
 refine ⟨if fz.1 == fz.2 then (o,o+n) else (min fz.1 o,max fz.2 (o+n)),rfl,rfl,rfl,by simp,?_,fun k hk=>?_⟩
 ·simp [Array.getElem?_modify,h]
 ·simp [Array.getElem?_modify,Ne.symm hk]
theorem agr {t u e:TypeId} {x:Operand} {s:ByteArray} (ht:P.underlying t=some .string) (hu:P.underlying u=some (.slice e)) (he:P.underlying e=some (.int .u8)) (H:St N D w0 F G0 G L T a w) (hw:Region.wanted ⟨some d,.convert t u x,ty,pos,aK,g⟩ (yielded ops a.tmps)=true) (hx:ev T x=some (.string s)) (hz:s.size≤4294967296) (hd:Nat.blt d N=true)
  (k:∀ v G' a' w',(∀ k o,G k=some o→G' k=some o)→av G' (.sl 1 ((Dw s).map wQ)) v→St N D w0 F G0 G' L ((d,v) :: T) a' w'→WL r P ops Q rest a' w'):WL r P ops Q (⟨some d,.convert t u x,ty,pos,aK,g⟩ :: rest) a w:=by
 have hc:=Lib.run_convert_string_bytes (P:=P) w t u e s ht hu he
 have hge:=grownCap_ge w s.size 0 e
 have hml:s.size≤maxLen:=by
  have:maxLen=9223372036854775807:=rfl
  omega
 have hgm:=grownCap_le_maxLen w s.size 0 e hml
 have H1:=H.hp.drew.alloc (.cells (Lib.bytesCells w e s) e)
 have hw1:(w.drew.alloc (.cells (Lib.bytesCells w e s) e)).heap[w.drew.heap.size]?=some (.cells (Lib.bytesCells w e s) e (0,0)):=H1.own _ jC
 obtain ⟨fz,hu2⟩:=ahQ (o:=(Lib.bytesCells w e s).size) (n:=1) hw1 (by decide)
 have H2:=H1.upd (i:=0) rfl hu2
 have H3:St N D w0 F G0 G ((w.heap.size,.cells (Lib.bytesCells w e s) e fz) :: L) ((d,.slice (some ⟨w.heap.size,0,none⟩) s.size (grownCap w s.size 0 e)) :: T) (a.put (some d) (.slice (some ⟨w.heap.size,0,none⟩) s.size (grownCap w s.size 0 e))) (Lib.bytesWorld w e s):=H.put hd _ H2
 obtain ⟨G',hm,hb,H4⟩:=H3.dQ
 have hlen:(Dw s).length=s.size:=by rw [Dw,bW,rE];rfl
 have hrep:av G' (.sl 1 ((Dw s).map wQ)) (.slice (some ⟨w.heap.size,0,none⟩) s.size (grownCap w s.size 0 e)):=by
  refine afY hb ?_ (fun r hr=>by obtain ⟨c,-,rfl⟩:=List.mem_map.1 hr;exact ⟨c,rfl⟩)
  refine av.dS (cur:=Lib.bytesCells w e s) (e:=e) (n:=s.size) (cap:=grownCap w s.size 0 e) (by simp) (by rw [bW,hlen]) hge hgm ?_ (X9 _ _)
  rw [Lib.bytesCells,Array.toList_append,Nat.mul_one,List.take_left' (by rw [Array.toList_map,bW,rE];rfl)]
  simp [Dw]
 have k2:=k _ _ _ _ hm hrep H4
 refine eY (v:=.slice (some ⟨w.heap.size,0,none⟩) s.size (grownCap w s.size 0 e)) (w':=Lib.bytesWorld w e s) hw rfl ?_ k2
 simp only [execOp,H.ev hx,cO,hc,kE,mO]
theorem agu {t yt:TypeId} {x y:Operand} {p q:ByteArray} (H:St N D w0 F G0 G L T a w) (hw:Region.wanted ⟨some d,.binOp .lss t x y yt,ty,pos,aK,g⟩ (yielded ops a.tmps)=true) (hx:ev T x=some (.string p)) (hy:ev T y=some (.string q)) (hd:Nat.blt d N=true)
  (k:∀ a',St N D w0 F G0 G L ((d,.bool (Op.bytesLess p.toList q.toList)) :: T) a' w→WL r P ops Q rest a' w):WL r P ops Q (⟨some d,.binOp .lss t x y yt,ty,pos,aK,g⟩ :: rest) a w:=by
 refine eY (v:=.bool (Op.bytesLess p.toList q.toList)) (w':=w) hw rfl ?_ (k _ (H.put hd _ H.hp))
 simp [execOp,H.ev hx,H.ev hy,cO,eqGuard,binOp,Op.stringOp]
end
end
section
open Go.RowKit
theorem aaS:∀ args w,(callFunc 194 args).run prog w=.ok (.enter 194 args) w:=enters func194 rfl (by kernel_rfl)
theorem aaQ:∀ args w,(callFunc 191 args).run prog w=.ok (.enter 191 args) w:=enters func191 rfl (by kernel_rfl)
theorem aaO:∀ args w,(callFunc 189 args).run prog w=.ok (.enter 189 args) w:=enters func189 rfl (by kernel_rfl)
theorem ahj:qO prog 277 [(0,1),(1,1),(2,2),(4,1),(5,1),(6,1)] [.string ⟨#[]⟩,.int .i64 0,.pointer none,.slice none 0 0,.slice none 0 0,.int .i64 0,.int .i64 0]:=⟨by kernel_rfl,by kernel_rfl⟩
theorem aaR:∀ args w,(callFunc 192 args).run prog w=.ok (.enter 192 args) w:=enters func192 rfl (by kernel_rfl)
theorem acd:bV prog 258 1 1:=⟨by kernel_rfl⟩
theorem aaC:∀ args w,(callFunc 174 args).run prog w=.ok (.enter 174 args) w:=enters func174 rfl (by kernel_rfl)
theorem aaD:∀ args w,(callFunc 175 args).run prog w=.ok (.enter 175 args) w:=enters func175 rfl (by kernel_rfl)
theorem aaP:∀ args w,(callFunc 190 args).run prog w=.ok (.enter 190 args) w:=enters func190 rfl (by kernel_rfl)
theorem aaE:∀ args w,(callFunc 176 args).run prog w=.ok (.enter 176 args) w:=enters func176 rfl (by kernel_rfl)
def Lf (fv:aj) (G:GH) (c:Int) (b:Bool):Prop:=∀ (G1:GH) (w1:World),(∀ b o,G b=some o→G1 b=some o)→Hold G1 w1→tT prog fv [.int .u8 c] w1 (aZ w1 G1 fun u G'=>u=.bool b)
theorem aeF (G:GH) (w0:World) (hG:Hold G w0) (l:List Int) (p:Int→Bool) (v fv:aj) (hv:av G (.sl 1 (l.map wQ)) v) (hf:∀ c∈l,Lf fv G c (p c)) :
  Calls prog 194 #[v,fv] w0 (aZ w0 G fun u G'=>u=vi (nH (l.findIdx? p))):=by
 obtain ⟨A,c,rfl,hc1,hc2,hg⟩:=hv.slice;have hml:maxLen=9223372036854775807:=rfl;rw [bW] at *;refine eN [(0,_),(1,_)] func194 rfl ntmps194 rfl rfl hG ?_;intro a H;refine kP H (SR fun _ K1=>ak K1 rfl (SQ fun _ K2=>SR fun _ K3=>Rm rfl (Rl tN rfl (Rm rfl (Kz K3 (SB ?_))))));clear H K1 K3;intro a H;skip;refine gq (ι:=Nat × GH) (Tc:=[(0,_),(1,_),(7,_)]) (Lc:=[]) (fun gh=>[(8,vi gh.1)]) (fun gh=>[]) (fun gh=>gh.2) (fun gh=>gh.1≤l.length∧(l.take gh.1).findIdx? p=none∧(∀ b o,G b=some o→gh.2 b=some o)) (fun gh=>l.length - gh.1) ((0,G)) (by exact (H).sub ⟨rfl,rfl,rfl,rfl,aD⟩) ?_ ?_
 ·exact ⟨by omega,rfl,fun _ _ h=>h⟩
 clear H;intro gh a w hI H;obtain ⟨k,g⟩:=gh;dsimp only at hI H;obtain ⟨hk,hno,hgm⟩:=hI;dsimp only [lca,aV] at H;refine kP H (SR fun _ K4=>Rc rfl (Kz K4 (SQ fun _ K5=>Cd rfl ?_ ?_))) <;> clear H K4
 ·intro h9 a H
  try have p9:=dT h9
  have hk2:k < l.length:=by omega
  obtain ⟨b,o,cs,rfl,hcl,hrow,hr⟩:=hg k (wQ l[k]) (by simp [hk2]);obtain rfl:=VT hr
  have hcell:aI G b (o+k*1)=some (.int .u8 l[k]):=by simpa using hrow 0 _ rfl
  refine kP H (Kc K5 (SQ fun _ K6=>SB (SR fun _ K7=>Rm rfl (ak K7 rfl (SR fun _ K8=>Rm rfl (Rm rfl (Rm rfl (Ri tN ES rfl rfl (Rg ES rfl (aL hgm hcell) ?_)))))))));clear H K5 K7;intro a H;refine oU H wn rfl rfl (hf _ (jT hk2) _ _ hgm H.ro) rfl ?_;clear H;rintro v16 sG a w rfl qw H;refine K8 _ _ ?_;clear K8;refine mV H rfl ?_ ?_
  ·intro h16
   try have p16:=dT h16
   refine kP H (SR fun _ K9=>Rm rfl (ak K9 rfl ?_));clear H K9;intro a H;refine lr H results194 rfl ?_
   first
    | exact H.rt (by rw [tC hk2 hno h16];rfl)
    | exact H.rt (by rw [show l.take k=l from jU (by omega)] at hno;rw [hno];rfl)
  intro h16
  try have p16:=dF h16
  refine kP H (Kc K6 (SC (Rd rfl (Rm rfl ?_))));clear H K6;intro a H;refine aH ?_;refine eO ((k+1,sG)) (by exact (H).sub ⟨rfl,rfl,rfl,rfl,aD⟩) ?_ ?_
  ·(try dsimp only);exact ⟨by omega,Bb hk2 hno h16,fun b o h=>qw b o (hgm b o h)⟩
  first|omega|(dsimp only;omega)
 intro h9 a H
 try have p9:=dF h9
 refine fI ?_;refine K2 _ _ ?_;clear K2;refine kP H (SR fun _ aQ=>ak aQ rfl ?_);clear H aQ;intro a H;refine lr H results194 rfl ?_
 first
  | exact H.rt (by rw [tC hk2 hno h16];rfl)
  | exact H.rt (by rw [show l.take k=l from jU (by omega)] at hno;rw [hno];rfl)
theorem OB (o:Option Nat):decide (0≤nH o)=o.isSome:=by cases o <;> simp [nH]
theorem Zi (G:GH) (w0:World) (hG:Hold G w0) (l:List Int) (p:Int→Bool) (v fv:aj) (hv:av G (.sl 1 (l.map wQ)) v) (hf:∀ c∈l,Lf fv G c (p c)) :
  Calls prog 189 #[v,fv] w0 (aZ w0 G fun u G'=>u=.bool (l.findIdx? p).isSome):=by
 obtain ⟨A,c,rfl,hc1,hc2,-⟩:=hv.slice;rw [bW] at *;refine eN [(0,_),(1,_)] func189 rfl ntmps189 rfl rfl hG ?_;intro a H;refine kP H (SR fun _ K1=>ak K1 rfl (SR fun _ K2=>Rm rfl (Rm rfl ?_)));clear H K1;intro a H;refine s_call aaS H wn rfl (aeF _ _ H.ro l p _ _ hv hf) rfl ?_;clear H;rintro v7 G7 a w rfl xO H;exact kH H (Rc rfl (ak K2 rfl (LR results189 rfl fun H=>H.rt (aM (OB _)))))
def FN (c:Int):Bool:=decide (c < 32) || decide (c=127)
theorem Zo (G:GH) (c:Int):Lf (.func (.func 190) #[] #[]) G c (FN c):=by
 intro G1 w0 hm hG;refine kG (caps:=[]) aaP ?_;refine eN [(0,_)] func190 rfl ntmps190 rfl rfl hG ?_;intro a H;refine kP H (SR fun _ K1=>ak K1 rfl (SR fun _ K2=>Rm rfl (Rc rfl (Rm rfl (Sp 5 rfl ?_ ?_))))) <;> clear H K1
 ·intro h5 a H
  try have p5:=dT h5
  exact kH H (bO h5 rfl (Pt h5 rfl (ak K2 rfl (LR results190 rfl fun H=>H.rt (aM (by unfold FN;first|(simp_all;done)|(simp_all;omega)))))))
 intro h5 a H
 try have p5:=dF h5
 exact kH H (YM h5 rfl (YC h5 rfl (Pf h5 rfl (ak K2 rfl (LR results190 rfl fun H=>H.rt (aM (by unfold FN;first|(simp_all;done)|(simp_all;omega))))))))
def uI (t:ByteArray):Int:=if 64 < t.size then 10 else if gU t=false then 12 else if ((Dw t).findIdx? FN).isSome=true then 5 else qX (jA t)
def vF (t:ByteArray):List iF:=if uI t=0 then rO (jA t).lit (jA t).parts else []
theorem afa (G:GH) (l:List iF):gJ G 3 (l.map iF.dat) (Bd l):=by
 refine ⟨l.map iF.cells,rfl,by simp,fun j r cs hr hc=>?_⟩;rw [mM] at hr hc;obtain ⟨x,hx,rfl⟩:=kS.1 hr;rw [hx] at hc
 cases hc
 exact ⟨Ux G x,rfl⟩
theorem afB (G:GH) (w0:World) (hG:Hold G w0) (t:ByteArray) (ht:t.size < 4611686018427387904) :
  Calls prog 174 #[.string t] w0 (aZ w0 G fun u G'=>∃ x,u=.tuple #[x,vi (uI t)]∧av G' (.sl 3 ((vF t).map iF.dat)) x):=by
 refine eN [(0,_)] func174 rfl ntmps174 rfl rfl hG ?_;intro a H;refine kP H (SR fun _ K1=>Ra rfl (ak K1 rfl (SQ fun _ K2=>SB (SR fun _ K3=>Rm rfl (Rv fC rfl (Rc rfl (ak K3 rfl (Cd rfl ?_ ?_)))))))) <;> clear H K1 K3
 ·intro h5 a H
  try have p5:=dT h5
  refine bg (fun _ K4=>?_)
  have he:uI t=10:=by rw [uI,au (by omega)]
  refine kP H (SC (Ra rfl (aU K4 rfl ?_)));clear H K4;intro a H;refine bF ?_;refine (dL H results174 (.cons (aN H rfl) (.cons (aN H rfl) .nil)) ?_).1
  first
   | exact H.rt ⟨_,by rw [he0],by rw [vF,au he0];exact hrep⟩
   | exact H.rt ⟨_,by rw [he],by rw [vF,ah (by rw [he];first|decide|assumption)];exact av.iQ rfl (by decide)⟩
 intro h5 a H
 try have p5:=dF h5
 refine kP H (SR fun _ K5=>Rm rfl ?_);clear H;intro a H;refine s_call DL H wn rfl (EY _ _ H.ro t ht) rfl ?_;clear H;rintro v11 _ a w ⟨rfl,rfl⟩ - H;refine kH H (Rn rfl (ak K5 rfl (Cd rfl ?_ ?_))) <;> clear H K5
 ·intro h9 a H
  try have p9:=dT h9
  refine bg (fun _ K6=>?_)
  have he:uI t=12:=by rw [uI,ah (by omega),au (by simpa using h9)]
  refine kP H (SC (Ra rfl (aU K6 rfl ?_)));clear H K6;intro a H;refine bF ?_;refine (dL H results174 (.cons (aN H rfl) (.cons (aN H rfl) .nil)) ?_).1
  first
   | exact H.rt ⟨_,by rw [he0],by rw [vF,au he0];exact hrep⟩
   | exact H.rt ⟨_,by rw [he],by rw [vF,ah (by rw [he];first|decide|assumption)];exact av.iQ rfl (by decide)⟩
 intro h9 a H
 try have p9:=dF h9
 refine kP H (SR fun _ K7=>Rm rfl ?_);clear H;intro a H;refine agr fC tN H7 H wn rfl (by omega) rfl ?_;clear H;intro v15 Bw a w uw TY H;obtain ⟨WO,c15,rfl,-,-,-⟩:=TY.slice;refine s_call aaO H wn rfl (Zi _ _ H.ro _ FN _ _ TY (fun c _=>Zo _ c)) rfl ?_;clear H;rintro v16 sG a w rfl qw H;refine kH H (ak K7 rfl (Cd rfl ?_ ?_)) <;> clear H K7
 ·intro gB a H
  try have qE:=dT gB
  refine bg (fun _ K8=>?_)
  have he:uI t=5:=by rw [uI,ah (by omega),ah (by simpa using h9),au gB]
  refine kP H (SC (Ra rfl (aU K8 rfl ?_)));clear H K8;intro a H;refine bF ?_;refine (dL H results174 (.cons (aN H rfl) (.cons (aN H rfl) .nil)) ?_).1
  first
   | exact H.rt ⟨_,by rw [he0],by rw [vF,au he0];exact hrep⟩
   | exact H.rt ⟨_,by rw [he],by rw [vF,ah (by rw [he];first|decide|assumption)];exact av.iQ rfl (by decide)⟩
 intro gB a H
 try have qE:=dF gB
 refine kP H (Kc K2 (SR fun _ K9=>Rm rfl ?_));clear H K2;intro a H;refine jw ahj [_,_,_,_,_,_,_] H wn rfl rfl rfl rfl ?_;clear H;intro a H;refine dz (cs:=[_,_,_,_,_,_,_]) H wn rfl rfl rfl ?_;clear H;intro b19 a w aiN H;refine kH H (ak K9 rfl (SQ fun _ aQ=>SR fun _ bH=>Rm rfl ?_));clear H K9;intro a H;refine gT aaQ (Li:=[]) (L:=[tK b19 t xW (.pointer none) (.slice none 0 0) (.slice none 0 0)]) H wn rfl (agI _ [] [] _ b19 t _ _ _ ⟨.inl rfl,eF.nil,eF.nil⟩ (Hp.owns (Li:=[]) H.hp) (by omega)) rfl ?_;clear H;rintro v21 Qa L21 a w ⟨p',v',q',oC,gP,rfl,Nv⟩ zo H;dsimp only [List.nil_append] at H;obtain ⟨A21,c21,rfl,-,-⟩:=Nv.buf.shape;obtain ⟨WX,d21,rfl,-,-⟩:=Nv.prt.shape;refine bH _ _ ?_;clear bH;refine bg (fun _ bR=>?_)
 have he:uI t=qX (jA t):=by rw [uI,ah (by omega),ah (by simpa using h9),ah (by simp [gB])]
 refine kP H (SC (Rm rfl (Rk rfl (aO xB eP 0 rfl rfl (Rc rfl (Kn bR (Cd rfl ?_ ?_))))))) <;> clear H bR
 ·intro iH a H
  try have p26:=dT iH
  refine bg (fun _ bY=>?_);have H:=H.sub (T':=[(4,_)]) ⟨rfl,aD⟩;refine dI hmx [[],[0],[0,1],[0,1,2],[],(ra 0 5)] [] (by kernel_rfl) [_,_,_,vi (qX (jA t)),_,_] H (aF (Z0 rfl (Rm rfl)) (Z1 0 27 rfl (Rk rfl)) (Z1 1 28 rfl (Rf xB rfl)) (Z1 2 29 rfl (Ro eP 0 rfl)) (bM (Z0 rfl (Ra rfl)) (bM (Z1 3 30 rfl (Ra rfl)) dP))) ?_
  clear H;intro a w G rU H hv;have H:=H.aT (hv 4 2 rfl rfl) rfl;have H:=H.aT (hv 5 3 rfl rfl) rfl;clear hv;refine aH ⟨rfl,?_⟩;refine bY _ _ ?_;clear bY;refine bF ?_;refine (dL H results174 (.cons (aN H rfl) (.cons (aN H rfl) .nil)) ?_).1
  first
   | exact H.rt ⟨_,by rw [he0],by rw [vF,au he0];exact hrep⟩
   | exact H.rt ⟨_,by rw [he],by rw [vF,ah (by rw [he];first|decide|assumption)];exact av.iQ rfl (by decide)⟩
 intro iH a H
 try have p26:=dF iH
 refine fQ ?_;refine aQ _ _ ?_;clear aQ;refine bg (fun _ bX=>?_)
 have he0:uI t=0:=by rw [he];omega
 have H:=(St.cast H (show _=[_]++(oC++gP) from rfl)).perm (List.Perm.append_left _ Aj);have H:=St.un H;obtain ⟨Gr,hmr,hrep,H⟩:=St.Au (Li:=[_]++gP) (Lo:=oC) H Nv.prt (rows:=(rO (jA t).lit (jA t).parts).map iF.dat) (by simp) (afa _ _);dsimp only [lca,aV] at H;refine kP H (SC (Rm rfl (Rk rfl (aO F7 HY 0 rfl rfl (Ra rfl (aU bX rfl ?_))))));clear H bX;intro a H;refine bF ?_;refine (dL H results174 (.cons (aN H rfl) (.cons (aN H rfl) .nil)) ?_).1
 first
  | exact H.rt ⟨_,by rw [he0],by rw [vF,au he0];exact hrep⟩
  | exact H.rt ⟨_,by rw [he],by rw [vF,ah (by rw [he];first|decide|assumption)];exact av.iQ rfl (by decide)⟩
structure nR where
 fmt:Int
 start:Int
 wO:ByteArray
 restart:Int
def nR.dat (x:nR):List Dat:=[li x.fmt,li x.start,.lf (.string x.wO),li x.restart]
abbrev nR.cells (x:nR):List aj:=[vi x.fmt,vi x.start,.string x.wO,vi x.restart]
theorem afc {G:GH} {x:nR} {cs:List aj} (h:aS G x.dat cs):cs=x.cells:=by
 simp only [nR.dat,aS,av] at h
 obtain ⟨_,_,rfl,⟨rfl,_⟩,_,_,rfl,⟨rfl,_⟩,_,_,rfl,⟨rfl,_⟩,_,_,rfl,⟨rfl,_⟩,rfl⟩:=h
 rfl
theorem aeE (G:GH) (w0:World) (hG:Hold G w0) (l:List iF) (p:iF→Bool) (v fv:aj) (hv:av G (.sl 3 (l.map iF.dat)) v) (hf:∀ x∈l,rC fv G x.dat (p x)) :
  Calls prog 192 #[v,fv] w0 (aZ w0 G fun u G'=>u=vi (nH (l.findIdx? p))):=by
 obtain ⟨A,c,rfl,hc1,hc2,hg⟩:=hv.slice;have hml:maxLen=9223372036854775807:=rfl;rw [bW] at *;refine eN [(0,_),(1,_)] func192 rfl ntmps192 rfl rfl hG ?_;intro a H;refine kP H (SR fun _ K1=>ak K1 rfl (SQ fun _ K2=>SR fun _ K3=>Rm rfl (Rl EU rfl (Rm rfl (Kz K3 (SB ?_))))));clear H K1 K3;intro a H;skip;refine gq (ι:=Nat × GH) (Tc:=[(0,_),(1,_),(7,_)]) (Lc:=[]) (fun gh=>[(8,vi gh.1)]) (fun gh=>[]) (fun gh=>gh.2) (fun gh=>gh.1≤l.length∧(l.take gh.1).findIdx? p=none∧(∀ b o,G b=some o→gh.2 b=some o)) (fun gh=>l.length - gh.1) ((0,G)) (by exact (H).sub ⟨rfl,rfl,rfl,rfl,aD⟩) ?_ ?_
 ·exact ⟨by omega,rfl,fun _ _ h=>h⟩
 clear H;intro gh a w hI H;obtain ⟨k,g⟩:=gh;dsimp only at hI H;obtain ⟨hk,hno,hgm⟩:=hI;dsimp only [lca,aV] at H;refine kP H (SR fun _ K4=>Rc rfl (Kz K4 (SQ fun _ K5=>Cd rfl ?_ ?_))) <;> clear H K4
 ·intro h9 a H
  try have p9:=dT h9
  have hk2:k < l.length:=by omega
  obtain ⟨b,o,cs,rfl,hcl,hrow,hr⟩:=hg k l[k].dat (by simp [hk2]);obtain rfl:=Uw hr;refine kP H (Kc K5 (SQ fun _ K6=>SB (SR fun _ K7=>Rm rfl (ak K7 rfl (SR fun _ K8=>Rm rfl (Rm rfl (Rm rfl (Ri EU EN rfl rfl ?_))))))));clear H K5 K7;intro a H;refine aW EN (cs:=l[k].cells) H wn rfl rfl (fun j v hj=>H.hp.aI (aL hgm (hrow j v hj))) rfl ?_;clear H;intro a H;refine oU H wn rfl rfl (hf _ (jT hk2) _ _ _ hgm H.ro (Ux _ l[k])) rfl ?_;clear H;rintro v16 sG a w rfl qw H;refine K8 _ _ ?_;clear K8;refine mV H rfl ?_ ?_
  ·intro h16
   try have p16:=dT h16
   refine kP H (SR fun _ K9=>Rm rfl (ak K9 rfl ?_));clear H K9;intro a H;refine lr H results192 rfl ?_
   first
    | exact H.rt (by rw [tC hk2 hno h16];rfl)
    | exact H.rt (by rw [show l.take k=l from jU (by omega)] at hno;rw [hno];rfl)
  intro h16
  try have p16:=dF h16
  refine kP H (Kc K6 (SC (Rd rfl (Rm rfl ?_))));clear H K6;intro a H;refine aH ?_;refine eO ((k+1,sG)) (by exact (H).sub ⟨rfl,rfl,rfl,rfl,aD⟩) ?_ ?_
  ·(try dsimp only);exact ⟨by omega,Bb hk2 hno h16,fun b o h=>qw b o (hgm b o h)⟩
  first|omega|(dsimp only;omega)
 intro h9 a H
 try have p9:=dF h9
 refine fI ?_;refine K2 _ _ ?_;clear K2;refine kP H (SR fun _ aQ=>ak aQ rfl ?_);clear H aQ;intro a H;refine lr H results192 rfl ?_
 first
  | exact H.rt (by rw [tC hk2 hno h16];rfl)
  | exact H.rt (by rw [show l.take k=l from jU (by omega)] at hno;rw [hno];rfl)
theorem Zh (G:GH) (w0:World) (hG:Hold G w0) (l:List iF) (p:iF→Bool) (v fv:aj) (hv:av G (.sl 3 (l.map iF.dat)) v) (hf:∀ x∈l,rC fv G x.dat (p x)) :
  Calls prog 175 #[v,fv] w0 (aZ w0 G fun u G'=>u=.bool (l.findIdx? p).isSome):=by
 obtain ⟨A,c,rfl,hc1,hc2,-⟩:=hv.slice;rw [bW] at *;refine eN [(0,_),(1,_)] func175 rfl ntmps175 rfl rfl hG ?_;intro a H;refine kP H (SR fun _ K1=>ak K1 rfl (SR fun _ K2=>Rm rfl (Rm rfl ?_)));clear H K1;intro a H;refine s_call aaR H wn rfl (aeE _ _ H.ro l p _ _ hv hf) rfl ?_;clear H;rintro v7 G7 a w rfl xO H;exact kH H (Rc rfl (ak K2 rfl (LR results175 rfl fun H=>H.rt (aM (OB _)))))
theorem afd {G:GH} {bl:Nat} {k:Int} (hb:aI G bl 0=some (vi k)) (x:iF):rC (.func (.func 176) #[] #[(aJ bl 0)]) G x.dat (decide (k < x.level)):=by
 intro G1 w0 cs hm hG hr;refine kG (caps:=[(aJ bl 0)]) aaE ?_;obtain rfl:=Uw hr;replace hb:=aL hm hb;refine eN [(0,_),(1,_)] func176 rfl ntmps176 rfl rfl hG ?_;intro a H;refine bK (fun _ K1=>?_);refine dz (cs:=[_,_,_]) H wn rfl rfl rfl ?_;clear H;intro b2 a w hb2 H;refine kH H (ak K1 rfl (SR fun _ K2=>aO acd aC 0 rfl rfl (Rg aC rfl (by assumption) ?_)));clear H K1;intro a H;exact kH H (Rc rfl (ak K2 rfl (LR results176 rfl fun H=>H.rt rfl)))
def xQ (t:ByteArray) (k:Int):Int:=if k < 1∨9 < k then 2 else if uI t=0∧((vF t).findIdx? fun x=>decide (k < x.level)).isSome=true then 6 else uI t
theorem afb (G:GH) (w0:World) (hG:Hold G w0) (t:ByteArray) (k:Int) (ht:t.size < 4611686018427387904) :
  Calls prog 141 #[.string t,vi k] w0 (aZ w0 G fun u G'=>u=vi (xQ t k)):=by
 refine eN [(0,_),(1,_)] func141 rfl ntmps141 rfl rfl hG ?_;intro a H;refine bK (fun _ K1=>?_);refine dz (cs:=[_]) H wn rfl rfl rfl ?_;clear H;intro b3 a w hb3 H;refine kH H (ak K1 rfl (SQ fun _ K2=>SR fun _ K3=>Ro aC 0 rfl (Rc rfl (Rm rfl (Sp 9 rfl ?_ ?_))))) <;> clear H K1
 ·intro h9 a H
  try have p9:=dT h9
  refine kH H (bO h9 rfl (Pt h9 rfl (Kz K3 (Ct rfl rfl (SR fun _ K4=>ak K4 rfl ?_)))));clear H K3 K4;intro a H;refine lr H results141 rfl ?_
  exact H.rt (ay vi (by unfold xQ;(repeat' split) <;> first|rfl|(exfalso;simp_all;done)|(exfalso;simp_all;omega)|(simp_all;done)))
 intro h9 a H
 try have p9:=dF h9
 refine kH H (YO aC 0 h9 rfl (YC h9 rfl (Pf h9 rfl (Kz K3 (Cd rfl ?_ ?_))))) <;> clear H K3
 ·intro h12 a H
  try have qD:=dT h12
  refine kP H (SR fun _ K5=>ak K5 rfl ?_);clear H K5;intro a H;refine lr H results141 rfl ?_
  exact H.rt (ay vi (by unfold xQ;(repeat' split) <;> first|rfl|(exfalso;simp_all;done)|(exfalso;simp_all;omega)|(simp_all;done)))
 intro h12 a H
 try have qD:=dF h12
 refine fQ ?_;refine K2 _ _ ?_;clear K2;refine bg (fun _ K6=>?_);obtain ⟨Ga,hma,wu,H⟩:=H.dQ
 have hbk:aI Ga b3 0=some (vi k):=by unfold aI;rw [wu];rfl
 refine kP H (SC (Rm rfl ?_));clear H;intro a H;refine s_call aaC H wn rfl (afB _ _ H.ro t ht) rfl ?_;clear H;rintro v15 Bw a w ⟨x15,rfl,Uc⟩ uw H;obtain ⟨WO,c15,rfl,-,-,-⟩:=Uc.slice;replace hbk:=aL uw hbk;refine kH H (Rm rfl ?_);clear H;intro a H;(iterate 2 refine jy H wn rfl rfl rfl ?_;clear H;intro a H);refine kH H (Ra rfl (aU K6 rfl (SQ fun _ K7=>SR fun _ K8=>Rm rfl (Rc rfl (Rm rfl (Sp 20 rfl ?_ ?_)))))) <;> clear H K6
 ·intro h20 a H
  try have vC:=dT h20
  refine kH H (YM h20 rfl ?_);clear H;intro a H;refine nK H (wg H rfl rfl h20) rfl rfl ?_;clear H;intro a H;refine s_call aaD H (wg H rfl rfl h20) rfl (Zh _ _ H.ro _ (fun x=>decide (k < x.level)) _ _ Uc (fun x _=>afd hbk x)) rfl ?_;clear H;rintro v23 Qc a w rfl GK H;refine kH H (Pt h20 rfl (Kz K8 (Cd rfl ?_ ?_))) <;> clear H K8
  ·intro fu a H
   try have kL:=dT fu
   refine kP H (SC (aU K7 rfl (SR fun _ K9=>Rm rfl (ak K9 rfl ?_))));clear H K7 K9;intro a H;refine lr H results141 rfl ?_
   exact H.rt (ay vi (by unfold xQ;(repeat' split) <;> first|rfl|(exfalso;simp_all;done)|(exfalso;simp_all;omega)|(simp_all;done)))
  intro fu a H
  try have kL:=dF fu
  refine kP H (Kc K7 (SR fun _ aQ=>Rm rfl (ak aQ rfl ?_)));clear H K7 aQ;intro a H;refine lr H results141 rfl ?_
  exact H.rt (ay vi (by unfold xQ;(repeat' split) <;> first|rfl|(exfalso;simp_all;done)|(exfalso;simp_all;omega)|(simp_all;done)))
 intro h20 a H
 try have vC:=dF h20
 refine kH H (cK h20 rfl (Pf h20 rfl (Kz K8 (Cf rfl rfl (Kc K7 (SR fun _ bH=>Rm rfl (ak bH rfl ?_)))))));clear H K8 K7 bH;intro a H;refine lr H results141 rfl ?_
 exact H.rt (ay vi (by unfold xQ;(repeat' split) <;> first|rfl|(exfalso;simp_all;done)|(exfalso;simp_all;omega)|(simp_all;done)))
end
section
open Go.RowKit
theorem KF:Ty prog 87 4 40 [.int .i64 0,.int .i64 0,.string ⟨#[]⟩,.int .i64 0] true:=⟨by kernel_rfl,by kernel_rfl⟩
theorem KH:prog.underlying 82=some (.slice 87):=by kernel_rfl
theorem SS:bV prog 87 0 0:=⟨by kernel_rfl⟩
theorem SV:bV prog 87 1 1:=⟨by kernel_rfl⟩
theorem acj:bV prog 87 2 2:=⟨by kernel_rfl⟩
theorem aah:∀ args w,(callFunc 141 args).run prog w=.ok (.enter 141 args) w:=enters func141 rfl (by kernel_rfl)
theorem SX:bV prog 87 3 3:=⟨by kernel_rfl⟩
def BM:Nat→List nR→Int
 | _,[]=>0
 | i,x :: r=>if x.fmt < 1∨7 < x.fmt then 3 else if x.start < 0∨32767 < x.start then 2 else if xQ x.wO ((i+1:Nat):Int)≠0 then xQ x.wO ((i+1:Nat):Int) else if x.restart < 0∨(i:Int) < x.restart then 5 else BM (i+1) r
def dK (l:List nR):Int:=if l.length=0 then 11 else if 9 < l.length then 9 else BM 0 l
theorem iD {l:List nR} {k:Nat} (h:k < l.length):BM k (l.drop k)=if l[k].fmt < 1∨7 < l[k].fmt then 3 else if l[k].start < 0∨32767 < l[k].start then 2 else if xQ l[k].wO ((k+1:Nat):Int)≠0 then xQ l[k].wO ((k+1:Nat):Int) else if l[k].restart < 0∨(k:Int) < l[k].restart then 5 else BM (k+1) (l.drop (k+1)):=by
 rw [lu h,BM]
theorem YG (G:GH) (w0:World) (hG:Hold G w0) (l:List nR) (v:aj) (hv:av G (.sl 4 (l.map nR.dat)) v) (ht:∀ x∈l,x.wO.size < 4611686018427387904) :
  Calls prog 75 #[v] w0 (aZ w0 G fun u G'=>u=vi (dK l)):=by
 obtain ⟨A,c,rfl,hc1,hc2,hg⟩:=hv.slice;have hml:maxLen=9223372036854775807:=rfl;rw [bW] at *;refine eN [(0,_)] func75 rfl ntmps75 rfl rfl hG ?_;intro a H;refine kP H (SR fun _ K1=>ak K1 rfl (SQ fun _ K2=>SB (SR fun _ K3=>Rm rfl (Rl KH rfl (Rc rfl (ak K3 rfl (Cd rfl ?_ ?_))))))) <;> clear H K1 K3
 ·intro h6 a H
  try have p6:=dT h6
  refine kP H (SR fun _ K4=>ak K4 rfl ?_);clear H K4;intro a H;refine lr H results75 rfl ?_
  first
   | exact H.rt (ay vi (by rw [dK,au (by omega)]))
   | exact H.rt (ay vi (by rw [dK,ah (by omega),au (by omega)]))
   | exact H.rt (ay vi (by rw [dK,ah (by omega),ah (by omega),← he,iD hk2,au (by omega)]))
   | exact H.rt (ay vi (by rw [dK,ah (by omega),ah (by omega),← he,iD hk2,ah (by omega),au (by omega)]))
   | exact H.rt (ay vi (by rw [dK,ah (by omega),ah (by omega),← he,iD hk2,ah (by omega),ah (by omega),au p45]))
   | exact H.rt (ay vi (by rw [dK,ah (by omega),ah (by omega),← he,iD hk2,ah (by omega),ah (by omega),ah p45,au (by omega)]))
   | exact H.rt (ay vi (by rw [dK,ah (by omega),ah (by omega),← he,gK (by omega)];rfl))
 intro h6 a H
 try have p6:=dF h6
 refine kP H (SR fun _ K5=>Rm rfl (Rl KH rfl (Rc rfl (ak K5 rfl (Cd rfl ?_ ?_))))) <;> clear H K5
 ·intro h10 a H
  try have uH:=dT h10
  refine kP H (SR fun _ K6=>ak K6 rfl ?_);clear H K6;intro a H;refine lr H results75 rfl ?_
  first
   | exact H.rt (ay vi (by rw [dK,au (by omega)]))
   | exact H.rt (ay vi (by rw [dK,ah (by omega),au (by omega)]))
   | exact H.rt (ay vi (by rw [dK,ah (by omega),ah (by omega),← he,iD hk2,au (by omega)]))
   | exact H.rt (ay vi (by rw [dK,ah (by omega),ah (by omega),← he,iD hk2,ah (by omega),au (by omega)]))
   | exact H.rt (ay vi (by rw [dK,ah (by omega),ah (by omega),← he,iD hk2,ah (by omega),ah (by omega),au p45]))
   | exact H.rt (ay vi (by rw [dK,ah (by omega),ah (by omega),← he,iD hk2,ah (by omega),ah (by omega),ah p45,au (by omega)]))
   | exact H.rt (ay vi (by rw [dK,ah (by omega),ah (by omega),← he,gK (by omega)];rfl))
 intro h10 a H
 try have uH:=dF h10
 refine kP H (Kc K2 (SQ fun _ K7=>SR fun _ K8=>Rm rfl (Rl KH rfl (Rm rfl (Kz K8 (SB ?_))))));clear H K2 K8;intro a H;skip;refine gq (ι:=Nat × GH) (Tc:=[(14,_),(15,_)]) (Lc:=[]) (fun gh=>[(16,vi gh.1)]) (fun gh=>[]) (fun gh=>gh.2) (fun gh=>gh.1≤l.length∧BM gh.1 (l.drop gh.1)=BM 0 l∧(∀ b o,G b=some o→gh.2 b=some o)) (fun gh=>l.length - gh.1) ((0,G)) (by exact (H).sub ⟨rfl,rfl,rfl,aD⟩) ?_ ?_
 ·exact ⟨gW _,rfl,fun _ _ h=>h⟩
 clear H;intro gh a w hI H;obtain ⟨k,g⟩:=gh;dsimp only at hI H;obtain ⟨hk,he,hgm⟩:=hI;dsimp only [lca,aV] at H;refine kP H (SR fun _ K9=>Rc rfl (Kz K9 (SQ fun _ aQ=>Cd rfl ?_ ?_))) <;> clear H K9
 ·intro dM a H
  try have kK:=dT dM
  have hk2:k < l.length:=by omega
  obtain ⟨b,o,cs,rfl,hcl,hrow,hr⟩:=hg k l[k].dat (by simp [hk2]);obtain rfl:=afc hr;refine kP H (Kc aQ (SQ fun _ bH=>SB (SR fun _ bR=>Rm rfl (Ri KH KF rfl rfl ?_))));clear H aQ;intro a H;refine aW KF (cs:=l[k].cells) H wn rfl rfl (fun j v hj=>H.hp.aI (aL hgm (hrow j v hj))) rfl ?_;clear H;intro a H;refine dx KF H wn rfl ?_;clear H;intro b4 a w hb4 H;refine kH H (Ra rfl ?_);clear H;intro a H;refine aX KF 0 (vs:=[_,_,_,_]) _ H wn rfl rfl rfl rfl rfl rfl rfl rfl ?_;clear H;intro w H;dsimp only [List.set,setRow] at H;refine bR _ _ ?_;clear bR;refine kP H (SQ fun _ bY=>SB (SR fun _ bX=>aO SS aC 0 rfl rfl (Rc rfl (Rm rfl (Sp 25 rfl ?_ ?_))))) <;> clear H
  ·intro nC a H
   try have p25:=dT nC
   refine kH H (cK nC rfl (Pt nC rfl (ak bX rfl (Ct rfl rfl (SR fun _ dO=>ak dO rfl ?_)))));clear H bX dO;intro a H;refine lr H results75 rfl ?_
   first
    | exact H.rt (ay vi (by rw [dK,au (by omega)]))
    | exact H.rt (ay vi (by rw [dK,ah (by omega),au (by omega)]))
    | exact H.rt (ay vi (by rw [dK,ah (by omega),ah (by omega),← he,iD hk2,au (by omega)]))
    | exact H.rt (ay vi (by rw [dK,ah (by omega),ah (by omega),← he,iD hk2,ah (by omega),au (by omega)]))
    | exact H.rt (ay vi (by rw [dK,ah (by omega),ah (by omega),← he,iD hk2,ah (by omega),ah (by omega),au p45]))
    | exact H.rt (ay vi (by rw [dK,ah (by omega),ah (by omega),← he,iD hk2,ah (by omega),ah (by omega),ah p45,au (by omega)]))
    | exact H.rt (ay vi (by rw [dK,ah (by omega),ah (by omega),← he,gK (by omega)];rfl))
  intro nC a H
  try have p25:=dF nC
  refine kH H (YF SS nC rfl (YO aC 0 nC rfl (YC nC rfl (Pf nC rfl (ak bX rfl (Cd rfl ?_ ?_)))))) <;> clear H bX
  ·intro h21 a H
   try have nI:=dT h21
   refine kP H (SR fun _ dJ=>ak dJ rfl ?_);clear H dJ;intro a H;refine lr H results75 rfl ?_
   first
    | exact H.rt (ay vi (by rw [dK,au (by omega)]))
    | exact H.rt (ay vi (by rw [dK,ah (by omega),au (by omega)]))
    | exact H.rt (ay vi (by rw [dK,ah (by omega),ah (by omega),← he,iD hk2,au (by omega)]))
    | exact H.rt (ay vi (by rw [dK,ah (by omega),ah (by omega),← he,iD hk2,ah (by omega),au (by omega)]))
    | exact H.rt (ay vi (by rw [dK,ah (by omega),ah (by omega),← he,iD hk2,ah (by omega),ah (by omega),au p45]))
    | exact H.rt (ay vi (by rw [dK,ah (by omega),ah (by omega),← he,iD hk2,ah (by omega),ah (by omega),ah p45,au (by omega)]))
    | exact H.rt (ay vi (by rw [dK,ah (by omega),ah (by omega),← he,gK (by omega)];rfl))
  intro h21 a H
  try have nI:=dF h21
  refine kP H (SR fun _ dD=>aO SV aC 0 rfl rfl (Rc rfl (Rm rfl (Sp 34 rfl ?_ ?_)))) <;> clear H
  ·intro eT a H
   try have p34:=dT eT
   refine kH H (cK eT rfl (Pt eT rfl (ak dD rfl (Ct rfl rfl (SR fun _ dU=>ak dU rfl ?_)))));clear H dD dU;intro a H;refine lr H results75 rfl ?_
   first
    | exact H.rt (ay vi (by rw [dK,au (by omega)]))
    | exact H.rt (ay vi (by rw [dK,ah (by omega),au (by omega)]))
    | exact H.rt (ay vi (by rw [dK,ah (by omega),ah (by omega),← he,iD hk2,au (by omega)]))
    | exact H.rt (ay vi (by rw [dK,ah (by omega),ah (by omega),← he,iD hk2,ah (by omega),au (by omega)]))
    | exact H.rt (ay vi (by rw [dK,ah (by omega),ah (by omega),← he,iD hk2,ah (by omega),ah (by omega),au p45]))
    | exact H.rt (ay vi (by rw [dK,ah (by omega),ah (by omega),← he,iD hk2,ah (by omega),ah (by omega),ah p45,au (by omega)]))
    | exact H.rt (ay vi (by rw [dK,ah (by omega),ah (by omega),← he,gK (by omega)];rfl))
  intro eT a H
  try have p34:=dF eT
  refine kH H (YF SV eT rfl (YO aC 0 eT rfl (YC eT rfl (Pf eT rfl (ak dD rfl (Cd rfl ?_ ?_)))))) <;> clear H dD
  ·intro lG a H
   try have p30:=dT lG
   refine kP H (SR fun _ fP=>ak fP rfl ?_);clear H fP;intro a H;refine lr H results75 rfl ?_
   first
    | exact H.rt (ay vi (by rw [dK,au (by omega)]))
    | exact H.rt (ay vi (by rw [dK,ah (by omega),au (by omega)]))
    | exact H.rt (ay vi (by rw [dK,ah (by omega),ah (by omega),← he,iD hk2,au (by omega)]))
    | exact H.rt (ay vi (by rw [dK,ah (by omega),ah (by omega),← he,iD hk2,ah (by omega),au (by omega)]))
    | exact H.rt (ay vi (by rw [dK,ah (by omega),ah (by omega),← he,iD hk2,ah (by omega),ah (by omega),au p45]))
    | exact H.rt (ay vi (by rw [dK,ah (by omega),ah (by omega),← he,iD hk2,ah (by omega),ah (by omega),ah p45,au (by omega)]))
    | exact H.rt (ay vi (by rw [dK,ah (by omega),ah (by omega),← he,gK (by omega)];rfl))
  intro lG a H
  try have p30:=dF lG
  refine kP H (Kc bY (SQ fun _ eG=>SR fun _ fZ=>aO acj iB 0 rfl rfl (Rm rfl (Rd rfl ?_))));clear H bY;intro a H;rw [show ((k:Int)+1)=((k+1:Nat):Int) from rfl] at H;refine s_call aah H wn rfl (afb _ _ H.ro l[k].wO ((k+1:Nat):Int) (ht _ (jT hk2))) rfl ?_;clear H;rintro v43 Df a w rfl nZ H;refine kH H (ak fZ rfl (SR fun _ gN=>Rm rfl (Rc rfl (Kz gN (Cd rfl ?_ ?_))))) <;> clear H fZ gN
  ·intro h45 a H
   try have p45:=dT h45
   refine kP H (SR fun _ iW=>Rm rfl (ak iW rfl ?_));clear H iW;intro a H;refine lr H results75 rfl ?_
   first
    | exact H.rt (ay vi (by rw [dK,au (by omega)]))
    | exact H.rt (ay vi (by rw [dK,ah (by omega),au (by omega)]))
    | exact H.rt (ay vi (by rw [dK,ah (by omega),ah (by omega),← he,iD hk2,au (by omega)]))
    | exact H.rt (ay vi (by rw [dK,ah (by omega),ah (by omega),← he,iD hk2,ah (by omega),au (by omega)]))
    | exact H.rt (ay vi (by rw [dK,ah (by omega),ah (by omega),← he,iD hk2,ah (by omega),ah (by omega),au p45]))
    | exact H.rt (ay vi (by rw [dK,ah (by omega),ah (by omega),← he,iD hk2,ah (by omega),ah (by omega),ah p45,au (by omega)]))
    | exact H.rt (ay vi (by rw [dK,ah (by omega),ah (by omega),← he,gK (by omega)];rfl))
  intro h45 a H
  try have p45:=dF h45
  refine kP H (Kc eG (SR fun _ iN=>aO SX aC 0 rfl rfl (Rc rfl (Rm rfl (Sp 50 rfl ?_ ?_))))) <;> clear H eG
  ·intro h50 a H
   try have p50:=dT h50
   refine kH H (bO h50 rfl (bO h50 rfl (Pt h50 rfl (Kz iN (Ct rfl rfl (SR fun _ iO=>ak iO rfl ?_))))));clear H iN iO;intro a H;refine lr H results75 rfl ?_
   first
    | exact H.rt (ay vi (by rw [dK,au (by omega)]))
    | exact H.rt (ay vi (by rw [dK,ah (by omega),au (by omega)]))
    | exact H.rt (ay vi (by rw [dK,ah (by omega),ah (by omega),← he,iD hk2,au (by omega)]))
    | exact H.rt (ay vi (by rw [dK,ah (by omega),ah (by omega),← he,iD hk2,ah (by omega),au (by omega)]))
    | exact H.rt (ay vi (by rw [dK,ah (by omega),ah (by omega),← he,iD hk2,ah (by omega),ah (by omega),au p45]))
    | exact H.rt (ay vi (by rw [dK,ah (by omega),ah (by omega),← he,iD hk2,ah (by omega),ah (by omega),ah p45,au (by omega)]))
    | exact H.rt (ay vi (by rw [dK,ah (by omega),ah (by omega),← he,gK (by omega)];rfl))
  intro h50 a H
  try have p50:=dF h50
  refine kH H (YF SX h50 rfl (YO aC 0 h50 rfl (YM h50 rfl (YC h50 rfl (Pf h50 rfl (Kz iN (Cd rfl ?_ ?_))))))) <;> clear H iN
  ·intro kI a H
   try have p55:=dT kI
   refine kP H (SR fun _ jM=>ak jM rfl ?_);clear H jM;intro a H;refine lr H results75 rfl ?_
   first
    | exact H.rt (ay vi (by rw [dK,au (by omega)]))
    | exact H.rt (ay vi (by rw [dK,ah (by omega),au (by omega)]))
    | exact H.rt (ay vi (by rw [dK,ah (by omega),ah (by omega),← he,iD hk2,au (by omega)]))
    | exact H.rt (ay vi (by rw [dK,ah (by omega),ah (by omega),← he,iD hk2,ah (by omega),au (by omega)]))
    | exact H.rt (ay vi (by rw [dK,ah (by omega),ah (by omega),← he,iD hk2,ah (by omega),ah (by omega),au p45]))
    | exact H.rt (ay vi (by rw [dK,ah (by omega),ah (by omega),← he,iD hk2,ah (by omega),ah (by omega),ah p45,au (by omega)]))
    | exact H.rt (ay vi (by rw [dK,ah (by omega),ah (by omega),← he,gK (by omega)];rfl))
  intro kI a H
  try have p55:=dF kI
  refine kP H (Kc bH (SC (Rd rfl (Rm rfl ?_))));clear H bH;intro a H;refine aH ?_;refine eO ((k+1,Df)) (by exact (H.bU (Pl:=[_]) (bN:=[]) [] (by decide) rfl).sub ⟨rfl,rfl,rfl,aD⟩) ?_ ?_
  ·(try dsimp only);exact ⟨by omega,by rw [iD hk2,ah (by omega),ah (by omega),ah p45,ah (by omega)] at he;exact he,fun b o h=>nZ b o (hgm b o h)⟩
  first|omega|(dsimp only;omega)
 intro dM a H
 try have kK:=dF dM
 refine fI ?_;refine K7 _ _ ?_;clear K7;refine kP H (SR fun _ kC=>ak kC rfl ?_);clear H kC;intro a H;refine lr H results75 rfl ?_
 first
  | exact H.rt (ay vi (by rw [dK,au (by omega)]))
  | exact H.rt (ay vi (by rw [dK,ah (by omega),au (by omega)]))
  | exact H.rt (ay vi (by rw [dK,ah (by omega),ah (by omega),← he,iD hk2,au (by omega)]))
  | exact H.rt (ay vi (by rw [dK,ah (by omega),ah (by omega),← he,iD hk2,ah (by omega),au (by omega)]))
  | exact H.rt (ay vi (by rw [dK,ah (by omega),ah (by omega),← he,iD hk2,ah (by omega),ah (by omega),au p45]))
  | exact H.rt (ay vi (by rw [dK,ah (by omega),ah (by omega),← he,iD hk2,ah (by omega),ah (by omega),ah p45,au (by omega)]))
  | exact H.rt (ay vi (by rw [dK,ah (by omega),ah (by omega),← he,gK (by omega)];rfl))
end
section
open Go.RowKit
theorem EP:Ty prog 32 1 24 [.slice none 0 0] false:=⟨by kernel_rfl,by kernel_rfl⟩
theorem EW:prog.underlying 32=some (.slice 84):=by kernel_rfl
theorem ET:Ty prog 84 2 32 [.int .i64 0,.slice none 0 0] true:=⟨by kernel_rfl,by kernel_rfl⟩
theorem SN:bV prog 84 0 0:=⟨by kernel_rfl⟩
theorem ahF:Ty prog 82 1 24 [.slice none 0 0] false:=⟨by kernel_rfl,by kernel_rfl⟩
theorem Mi:∀ args w,(callFunc 125 args).run prog w=.ok (.enter 125 args) w:=enters func125 rfl (by kernel_rfl)
theorem aci:bV prog 84 1 1:=⟨by kernel_rfl⟩
theorem abv:∀ args w,(callFunc 75 args).run prog w=.ok (.enter 75 args) w:=enters func75 rfl (by kernel_rfl)
theorem DK:∀ args w,(callFunc 123 args).run prog w=.ok (.enter 123 args) w:=enters func123 rfl (by kernel_rfl)
theorem aaq:∀ args w,(callFunc 159 args).run prog w=.ok (.enter 159 args) w:=enters func159 rfl (by kernel_rfl)
theorem aap:∀ args w,(callFunc 158 args).run prog w=.ok (.enter 158 args) w:=enters func158 rfl (by kernel_rfl)
structure fK where
 id:Int
 levels:List nR
def fK.dat (x:fK):List Dat:=[li x.id,.sl 4 (x.levels.map nR.dat)]
structure iC where
 id:Int
 parent:Int
 author:ByteArray
 time:Int
 text:ByteArray
 done:Bool
def iC.dat (x:iC):List Dat:=[li x.id,li x.parent,.lf (.string x.author),li x.time,.lf (.string x.text),.lf (.bool x.done)]
abbrev iC.cells (x:iC):List aj:=[vi x.id,vi x.parent,.string x.author,vi x.time,.string x.text,.bool x.done]
structure lg where
 name:ByteArray
 value:ByteArray
def lg.dat (x:lg):List Dat:=[.lf (.string x.name),.lf (.string x.value)]
abbrev lg.cells (x:lg):List aj:=[.string x.name,.string x.value]
theorem Rw {G:GH} {x:iC} {cs:List aj} (h:aS G x.dat cs):cs=x.cells:=by
 simp only [iC.dat,aS,av] at h
 obtain ⟨_,_,rfl,⟨rfl,_⟩,_,_,rfl,⟨rfl,_⟩,_,_,rfl,⟨rfl,_⟩,_,_,rfl,⟨rfl,_⟩,_,_,rfl,⟨rfl,_⟩,_,_,rfl,⟨rfl,_⟩,rfl⟩:=h
 rfl
theorem aia {G:GH} {x:lg} {cs:List aj} (h:aS G x.dat cs):cs=x.cells:=by
 simp only [lg.dat,aS,av] at h
 obtain ⟨_,_,rfl,⟨rfl,_⟩,_,_,rfl,⟨rfl,_⟩,rfl⟩:=h
 rfl
theorem OG {G:GH} {l:List fK} {A:Option Addr} {n c k:Nat} (hv:av G (.sl 2 (l.map fK.dat)) (.slice A n c)) (hk:k < l.length):∃ b o B d,A=some ⟨b,o,none⟩∧(∀ j u,[vi l[k].id,.slice B l[k].levels.length d][j]?=some u→aI G b (o+k*2+j)=some u)∧av G (.sl 4 (l[k].levels.map nR.dat)) (.slice B l[k].levels.length d):=by
 obtain ⟨A',c',he,_,_,hg⟩:=hv.slice
 injection he with e1 e2 e3
 subst e1;obtain ⟨b,o,cs,h1,h2,h3,h4⟩:=hg k l[k].dat (by simp [hk])
 simp only [fK.dat,aS] at h4
 obtain ⟨v1,_,rfl,⟨rfl,-⟩,v2,_,rfl,hl,rfl⟩:∃ v vs,cs=v :: vs∧av G (li l[k].id) v∧∃ v2 vs2,vs=v2 :: vs2∧av G (.sl 4 (l[k].levels.map nR.dat)) v2∧vs2=[]:=h4;obtain ⟨B,d,rfl,-,-,-⟩:=hl.slice;rw [bW] at *;exact ⟨b,o,B,d,h1,h3,hl⟩
theorem aeU {G:GH} {bl:Nat} {l:List fK} {A:Option Addr} {n c:Nat} (hb:aI G bl 0=some (.slice A n c)) (hv:av G (.sl 2 (l.map fK.dat)) (.slice A n c)):qM (.func (.func 159) #[] #[(aJ bl 0)]) G l.length fun k=>(l[k]?.map fK.id).getD 0:=by
 intro k hk G1 w0 hm hG;refine kG (caps:=[(aJ bl 0)]) aaq ?_;replace hb:=aL hm hb
 obtain rfl:n=l.length:=by have:=hv.len;simpa using this
 obtain ⟨b,o,B,d,rfl,hrow,-⟩:=OG (hv.mono hm) hk;have hq:=hrow 0 _ rfl;refine eN [(0,_),(1,_)] func159 rfl ntmps159 rfl rfl hG ?_;intro a H;refine kP H (SR fun _ K1=>ak K1 rfl (SR fun _ K2=>Rg EP rfl (by assumption) ?_));clear H K1;intro a H;refine kH H (Rm rfl (Ri EW ET rfl rfl (Rf SN rfl (Rg aC rfl (by assumption) ?_))));clear H;intro a H;exact kH H (ak K2 rfl (LR results159 rfl fun H=>H.rt (by dsimp only;rw [gy hk];rfl)))
def Cx (l:List fK) (i:Nat):Int:=dB [og (fun k=>(l[k]?.map fK.id).getD 0) i,dK ((l[i]?.map fK.levels).getD [])]
theorem aeY {G:GH} {bl:Nat} {l:List fK} {A:Option Addr} {n c:Nat} (hb:aI G bl 0=some (.slice A n c)) (hv:av G (.sl 2 (l.map fK.dat)) (.slice A n c)) (hl:l.length≤4294967296) (ht:∀ x∈l,∀ y∈x.levels,y.wO.size < 4611686018427387904):qM (.func (.func 158) #[] #[(aJ bl 0)]) G l.length (Cx l):=by
 intro k hk G1 w0 hm hG;refine kG (caps:=[(aJ bl 0)]) aap ?_;replace hb:=aL hm hb;replace hv:=hv.mono hm;have hcb:=aeU hb hv
 obtain rfl:n=l.length:=by have:=hv.len;simpa using this
 obtain ⟨b,o,B,d,rfl,hrow,hlv⟩:=OG hv hk;have hq:=hrow 1 _ rfl
 have he:Cx l k=dB [og (fun k=>(l[k]?.map fK.id).getD 0) k,dK l[k].levels]:=by unfold Cx;rw [gy hk];rfl
 refine eN [(0,_),(1,_)] func158 rfl ntmps158 rfl rfl hG ?_;intro a H;refine kP H (SR fun _ K1=>ak K1 rfl (SQ fun _ K2=>?_));clear H K1;intro a H;have H:=H.sub (T':=[(0,_),(1,_)]) ⟨rfl,rfl,aD⟩;refine dI hmx [[],[],[0,1],[],[],[3,4],[3,4,5],(ra 3 4),(ra 0 8),(ra 0 9),(ra 0 10),(ra 0 11)] [9,10,11] (by kernel_rfl) [_,.func (.func 159) #[] #[(aJ bl 0)],vi (og (fun k=>(l[k]?.map fK.id).getD 0) k),_,_,_,_,_,vi (dK l[k].levels)] H (aF (Z0 rfl (Rm rfl)) ?_ ?_ (X0 rfl fun hG=>Rg EP rfl (aL hG hb)) (aF (Z0 rfl (Rm rfl)) (Z2 3 7 4 8 rfl (Ri EW ET rfl rfl)) (Z1 5 9 rfl (Rf aci rfl)) (X1 6 10 rfl fun hG=>Rg ahF rfl (aL hG hq)) (aF ?_ (bJ rfl) (bJ rfl) (bJ rfl) dP))) ?_
 ·refine yE rfl fun _ a w G1 hG HT H fin=>?_;refine nK H wn rfl rfl ?_;clear H;intro a H;exact fin H iJ rfl
 ·refine eB 0 4 1 5 rfl rfl fun _ a w G1 hG HT H fin=>?_;refine s_call Mi H wn rfl (Ox _ _ H.ro k _ _ (by omega) (fun i hi=>(hcb.mono hG) i (by omega))) rfl ?_;clear H;rintro v6 G6 a w rfl jF H;exact fin H jF (rfl)
 ·refine eH 7 11 rfl rfl fun _ a w G1 hG HT H fin=>?_;refine s_call abv H wn rfl (YG _ _ H.ro _ _ (hlv.mono hG) (ht _ (jT hk))) rfl ?_;clear H;rintro v12 yx a w rfl pO H;exact fin H pO (rfl)
 clear H;intro a w G lU H hv;have H:=H.aT (hv 2 6 rfl rfl) rfl;have H:=H.aT (hv 8 12 rfl rfl) rfl;clear hv;refine ig nL eP [_,_] [_,_] H wn rfl rfl rfl rfl rfl (by intro i q h;match i,h with|0,h=>exact h|1,h=>exact h|n+2,h=>simp at h) rfl rfl ?_;clear H;intro b13 a w Gx H;obtain ⟨vK,pR,adf,H⟩:=H.dQ;refine s_call oI H wn rfl (oJ _ _ H.ro _ _ (vG adf)) rfl ?_;clear H;rintro v14 _ a w ⟨rfl,rfl⟩ - H;refine kH H (Ra rfl ?_);clear H;intro a H;refine aH ⟨rfl,?_⟩;refine K2 _ _ ?_;clear K2;refine lr H results158 rfl ?_;exact H.rt (by rw [he])
def FK (l:List fK):Int:=dB [bS (decide (64 < (l.length:Int))) 9,jV (Cx l) (min l.length 64)]
theorem qM.le {fv:aj} {G:GH} {n m:Nat} {E:Nat→Int} (h:qM fv G n E) (hm:m≤n):qM fv G m E:=fun i hi=>h i (by omega)
theorem YH (G:GH) (w0:World) (hG:Hold G w0) (l:List fK) (v:aj) (hv:av G (.sl 2 (l.map fK.dat)) v) (hl:l.length≤4294967296) (ht:∀ x∈l,∀ y∈x.levels,y.wO.size < 4611686018427387904) :
  Calls prog 120 #[v] w0 (aZ w0 G fun u G'=>u=vi (FK l)):=by
 obtain ⟨A,c,rfl,hc1,hc2,-⟩:=hv.slice;rw [bW] at *;refine eN [(0,_)] func120 rfl ntmps120 rfl rfl hG ?_;intro a H;refine bK (fun _ K1=>?_);refine dz (cs:=[_]) H wn rfl rfl rfl ?_;clear H;intro b1 a w hb1 H;refine kH H (ak K1 rfl (SQ fun _ K2=>?_));clear H K1;intro a H;have H:=H.sub (T':=[(1,_)]) ⟨rfl,aD⟩;obtain ⟨Ga,hma,hb1',H⟩:=H.dQ
 have hbl:aI Ga b1 0=some (.slice A l.length c):=by unfold aI;rw [hb1'];rfl
 have hcb:=aeY hbl (hv.mono hma) hl ht;refine dI hmx [[],[0],[0,1],[0,1,2],[],[4],[4,5],[],(ra 0 8),(ra 0 9),(ra 0 10),(ra 0 11)] [9,10,11] (by kernel_rfl) [_,_,_,vi (bS (decide (64 < (l.length:Int))) 9),_,_,vi ((min l.length 64:Nat):Int),.func (.func 158) #[] #[(aJ b1 0)],vi (jV (Cx l) (min l.length 64))] H (aF (X0 rfl fun hG=>Rg EP rfl (aL hG hbl)) (Z1 0 3 rfl (Rl EW rfl)) (Z1 1 4 rfl (Rc rfl)) ?_ (aF (X0 rfl fun hG=>Rg EP rfl (aL hG hbl)) (Z1 4 7 rfl (Rl EW rfl)) ?_ ?_ (aF ?_ (bJ rfl) (bJ rfl) (bJ rfl) dP))) ?_
 ·refine eH 2 5 rfl rfl fun _ a w G1 hG HT H fin=>?_;refine s_call iP H wn rfl (iU _ _ H.ro _ 9) rfl ?_;clear H;rintro v6 G6 a w ⟨rfl,-⟩ jF H;exact fin H jF (rfl)
 ·refine eH 5 8 rfl rfl fun _ a w G1 hG HT H fin=>?_;refine Kl H wn rfl rfl rfl ?_;clear H;intro a H;exact fin H iJ (ay vi (by omega))
 ·refine yE rfl fun _ a w G1 hG HT H fin=>?_;refine nK H wn rfl rfl ?_;clear H;intro a H;exact fin H iJ rfl
 ·refine eB 6 9 7 10 rfl rfl fun _ a w G1 hG HT H fin=>?_;refine s_call DK H wn rfl (FH _ _ H.ro (min l.length 64) (Cx l) _ (by omega) ((hcb.mono hG).le (Nat.min_le_left _ _))) rfl ?_;clear H;rintro v11 sF a w rfl rV H;exact fin H rV (rfl)
 clear H;intro a w G lU H hv;have H:=H.aT (hv 3 6 rfl rfl) rfl;have H:=H.aT (hv 8 11 rfl rfl) rfl;clear hv;refine ig nL eP [_,_] [_,_] H wn rfl rfl rfl rfl rfl (by intro i q h;match i,h with|0,h=>exact h|1,h=>exact h|n+2,h=>simp at h) rfl rfl ?_;clear H;intro b12 a w Ec H;obtain ⟨yx,uq,Cg,H⟩:=H.dQ;refine s_call oI H wn rfl (oJ _ _ H.ro _ _ (vG Cg)) rfl ?_;clear H;rintro v13 _ a w ⟨rfl,rfl⟩ - H;refine kH H (Ra rfl ?_);clear H;intro a H;refine aH ⟨rfl,?_⟩;refine K2 _ _ ?_;clear K2;refine lr H results120 rfl ?_;exact H.rt rfl
end
section
open Go.RowKit
theorem mZ:prog.underlying 31=some (.slice 159):=by kernel_rfl
theorem jK:Ty prog 159 6 72 [.int .i64 0,.int .i64 0,.string ⟨#[]⟩,.int .i64 0,.int .i64 0,.slice none 0 0] true:=⟨by kernel_rfl,by kernel_rfl⟩
theorem vg:bV prog 159 1 1:=⟨by kernel_rfl⟩
theorem DR:bV prog 159 2 2:=⟨by kernel_rfl⟩
theorem sS:bV prog 159 0 0:=⟨by kernel_rfl⟩
theorem R6:∀ args w,(callFunc 186 args).run prog w=.ok (.enter 186 args) w:=enters func186 rfl (by kernel_rfl)
theorem aaB:∀ args w,(callFunc 172 args).run prog w=.ok (.enter 172 args) w:=enters func172 rfl (by kernel_rfl)
theorem aaM:∀ args w,(callFunc 187 args).run prog w=.ok (.enter 187 args) w:=enters func187 rfl (by kernel_rfl)
theorem aaN:∀ args w,(callFunc 188 args).run prog w=.ok (.enter 188 args) w:=enters func188 rfl (by kernel_rfl)
structure bL where
 id:Int
 kind:Int
 name:ByteArray
 base:Int
 next:Int
 props:List jq
def bL.dat (x:bL):List Dat:=[li x.id,li x.kind,.lf (.string x.name),li x.base,li x.next,.sl 2 (x.props.map jq.dat)]
theorem Pp {G:GH} {x:bL} {cs:List aj} (h:aS G x.dat cs):∃ A c,cs=[vi x.id,vi x.kind,.string x.name,vi x.base,vi x.next,.slice A x.props.length c]∧av G (.sl 2 (x.props.map jq.dat)) (.slice A x.props.length c):=by
 simp only [bL.dat,aS] at h
 obtain ⟨v1,_,rfl,h1,v2,_,rfl,h2,v3,_,rfl,h3,v4,_,rfl,h4,v5,_,rfl,h5,v6,_,rfl,h6,rfl⟩:=h
 simp only [av] at h1 h2 h3 h4 h5
 obtain ⟨rfl,-⟩:=h1;obtain ⟨rfl,-⟩:=h2;obtain ⟨rfl,-⟩:=h3;obtain ⟨rfl,-⟩:=h4;obtain ⟨rfl,-⟩:=h5;obtain ⟨A,c,rfl,-,-,-⟩:=h6.slice;rw [bW] at *;exact ⟨A,c,rfl,h6⟩
theorem zJ {G:GH} {l:List bL} {A:Option Addr} {n c k:Nat} (hv:av G (.sl 6 (l.map bL.dat)) (.slice A n c)) (hk:k < l.length):∃ b o pA pc,A=some ⟨b,o,none⟩∧(∀ j u,[vi l[k].id,vi l[k].kind,.string l[k].name,vi l[k].base,vi l[k].next,.slice pA l[k].props.length pc][j]?=some u→aI G b (o+k*6+j)=some u)∧av G (.sl 2 (l[k].props.map jq.dat)) (.slice pA l[k].props.length pc) ∧
  aS G l[k].dat [vi l[k].id,vi l[k].kind,.string l[k].name,vi l[k].base,vi l[k].next,.slice pA l[k].props.length pc]:=by
 obtain ⟨A',c',he,_,_,hg⟩:=hv.slice
 injection he with e1 e2 e3
 subst e1;obtain ⟨b,o,cs,h1,h2,h3,h4⟩:=hg k l[k].dat (by simp [hk]);obtain ⟨pA,pc,rfl,hp⟩:=Pp h4;exact ⟨b,o,pA,pc,h1,h3,hp,h4⟩
def okB (x:Int):Bool:=decide (32≤x∧x≤126)
def CB (s:ByteArray) (k:Nat):Bool:=(List.range k).all fun i=>okB (dG s i)
def lV (s:ByteArray):Bool:=decide (s.size≠0∧s.size≤40∧dG s 0≠32∧dG s (s.size - 1)≠32) && CB s s.size
theorem afk (s:ByteArray) (k:Nat):CB s (k+1)=(CB s k && okB (dG s k)):=by simp [CB,List.range_succ]
theorem CF {s:ByteArray} {k:Nat} (hk:k < s.size) (h:okB (dG s k)=false):CB s s.size=false:=by
 rw [CB,List.all_eq_false];exact ⟨k,by simpa using hk,by simp [h]⟩
theorem JN (G:GH) (w0:World) (hG:Hold G w0) (s:ByteArray) (hs:s.size≤4611686018427387904):Calls prog 169 #[.string s] w0 (aZ w0 G fun u G'=>u=.bool (lV s)):=by
 refine eN [(0,_)] func169 rfl ntmps169 rfl rfl hG ?_;intro a H;refine kP H (SR fun _ K1=>ak K1 rfl (SQ fun _ K2=>SR fun _ K3=>Rm rfl (Rv fC rfl (Rc rfl (Rm rfl (Sp 7 rfl ?_ ?_)))))) <;> clear H K1
 ·intro h7 a H
  try have p7:=dT h7
  refine kH H (cK h7 rfl (Pt h7 rfl (Rm rfl (cK rfl rfl (Pt rfl rfl (Rm rfl (cK rfl rfl (cK rfl rfl (Pt rfl rfl (Kz K3 (Ct rfl rfl (SR fun _ K4=>ak K4 rfl ?_))))))))))));clear H K3 K4;intro a H;refine lr H results169 rfl ?_
  first
   | exact H.rt (aM (by rw [lV,kF (by omega),tV]))
   | exact H.rt (aM (by rw [lV,kT (by omega),show s.size=k by omega,hno];rfl))
   | exact H.rt (aM (by rw [lV,CF (k:=k) (by omega) (kF (by omega)),Bool.and_false]))
 intro h7 a H
 try have p7:=dF h7
 refine kH H (YM h7 rfl ?_);clear H;intro a H;refine CU fC H (wg H rfl rfl h7) rfl rfl ?_;clear H;intro a H;refine kH H (YC h7 rfl (Pf h7 rfl (Rm rfl (Sp 12 rfl ?_ ?_)))) <;> clear H
 ·intro h12 a H
  try have qD:=dT h12
  refine kH H (cK h12 rfl (Pt h12 rfl (Rm rfl (cK rfl rfl (cK rfl rfl (Pt rfl rfl (Kz K3 (Ct rfl rfl (SR fun _ K5=>ak K5 rfl ?_)))))))));clear H K3 K5;intro a H;refine lr H results169 rfl ?_
  first
   | exact H.rt (aM (by rw [lV,kF (by omega),tV]))
   | exact H.rt (aM (by rw [lV,kT (by omega),show s.size=k by omega,hno];rfl))
   | exact H.rt (aM (by rw [lV,CF (k:=k) (by omega) (kF (by omega)),Bool.and_false]))
 intro h12 a H
 try have qD:=dF h12
 refine kH H (YM h12 rfl ?_);clear H;intro a H;refine mF 0 fC H (wg H rfl rfl h12) rfl rfl rfl (by omega) rfl ?_;clear H;intro a H;rw [← iY] at H;refine kH H (YC h12 rfl (Pf h12 rfl (Rm rfl (Sp 17 rfl ?_ ?_)))) <;> clear H
 ·intro dM a H
  try have kK:=dT dM
  refine kH H (cK dM rfl (cK dM rfl (Pt dM rfl (Kz K3 (Ct rfl rfl (SR fun _ K6=>ak K6 rfl ?_))))));clear H K3 K6;intro a H;refine lr H results169 rfl ?_
  first
   | exact H.rt (aM (by rw [lV,kF (by omega),tV]))
   | exact H.rt (aM (by rw [lV,kT (by omega),show s.size=k by omega,hno];rfl))
   | exact H.rt (aM (by rw [lV,CF (k:=k) (by omega) (kF (by omega)),Bool.and_false]))
 intro dM a H
 try have kK:=dF dM
 refine kH H (YM dM rfl (YM dM rfl ?_));clear H;intro a H;refine CU fC H (wg H rfl rfl dM) rfl rfl ?_;clear H;intro a H;refine oV _ H (wg H rfl rfl dM) rfl rfl rfl (by omega) (by omega) rfl ?_;clear H;intro a H;refine mF (s.size - 1) fC H (wg H rfl rfl dM) rfl rfl (by omega) (by omega) rfl ?_;clear H;intro a H;rw [← iY] at H;refine kH H (YC dM rfl (Pf dM rfl (Kz K3 (Cd rfl ?_ ?_)))) <;> clear H K3
 ·intro fu a H
  try have kL:=dT fu
  refine kP H (SR fun _ K7=>ak K7 rfl ?_);clear H K7;intro a H;refine lr H results169 rfl ?_
  first
   | exact H.rt (aM (by rw [lV,kF (by omega),tV]))
   | exact H.rt (aM (by rw [lV,kT (by omega),show s.size=k by omega,hno];rfl))
   | exact H.rt (aM (by rw [lV,CF (k:=k) (by omega) (kF (by omega)),Bool.and_false]))
 intro fu a H
 try have kL:=dF fu
 refine kP H (Kc K2 (SQ fun _ K8=>SR fun _ K9=>Rm rfl (Rv fC rfl (Rm rfl (Kz K9 (SB ?_))))));clear H K2 K9;intro a H;skip;refine gq (ι:=Nat) (Tc:=[(0,_),(26,_)]) (Lc:=[]) (fun gh=>[(27,vi gh)]) (fun gh=>[]) (fun gh=>G) (fun gh=>gh≤s.size∧CB s gh=true) (fun gh=>s.size - gh) (0) (by exact (H).sub ⟨rfl,rfl,rfl,aD⟩) ?_ ?_
 ·exact ⟨gW _,rfl⟩
 clear H;intro gh a w hI H;obtain ⟨k,hgh⟩:∃ x,x=gh:=⟨_,rfl⟩;subst hgh;obtain ⟨hk,hno⟩:=hI;dsimp only [lca,aV] at H;refine kP H (SR fun _ aQ=>Rc rfl (Kz aQ (SQ fun _ bH=>Cd rfl ?_ ?_))) <;> clear H aQ
 ·intro dR a H
  try have p28:=dT dR
  refine kP H (Kc bH (SQ fun _ bR=>SB (SR fun _ bY=>Rm rfl (ak bY rfl (SR fun _ bX=>Rm rfl (Rm rfl ?_))))));clear H bH bY;intro a H;refine mF k fC H wn rfl rfl rfl (by omega) rfl ?_;clear H;intro a H;rw [← iY] at H;refine kH H (Rc rfl (Rm rfl (Sp 34 rfl ?_ ?_))) <;> clear H
  ·intro eT a H
   try have p34:=dT eT
   refine kH H (bO eT rfl (bO eT rfl (Pt eT rfl (Kz bX (Ct rfl rfl (SR fun _ dO=>ak dO rfl ?_))))));clear H bX dO;intro a H;refine lr H results169 rfl ?_
   first
    | exact H.rt (aM (by rw [lV,kF (by omega),tV]))
    | exact H.rt (aM (by rw [lV,kT (by omega),show s.size=k by omega,hno];rfl))
    | exact H.rt (aM (by rw [lV,CF (k:=k) (by omega) (kF (by omega)),Bool.and_false]))
  intro eT a H
  try have p34:=dF eT
  refine kH H (YM eT rfl (YM eT rfl ?_));clear H;intro a H;refine mF k fC H (wg H rfl rfl eT) rfl rfl rfl (by omega) rfl ?_;clear H;intro a H;rw [← iY] at H;refine kH H (YC eT rfl (Pf eT rfl (Kz bX (Cd rfl ?_ ?_)))) <;> clear H bX
  ·intro jE a H
   try have p39:=dT jE
   refine kP H (SR fun _ dJ=>ak dJ rfl ?_);clear H dJ;intro a H;refine lr H results169 rfl ?_
   first
    | exact H.rt (aM (by rw [lV,kF (by omega),tV]))
    | exact H.rt (aM (by rw [lV,kT (by omega),show s.size=k by omega,hno];rfl))
    | exact H.rt (aM (by rw [lV,CF (k:=k) (by omega) (kF (by omega)),Bool.and_false]))
  intro jE a H
  try have p39:=dF jE
  refine kP H (Kc bR (SC (Rd rfl (Rm rfl ?_))));clear H bR;intro a H;refine aH ?_;refine eO ((k+1)) (by exact (H).sub ⟨rfl,rfl,rfl,aD⟩) ?_ ?_
  ·exact ⟨by omega,by rw [afk,hno];simp [okB];omega⟩
  first|omega|(dsimp only;omega)
 intro dR a H
 try have p28:=dF dR
 refine fI ?_;refine K8 _ _ ?_;clear K8;refine kP H (SR fun _ dD=>ak dD rfl ?_);clear H dD;intro a H;refine lr H results169 rfl ?_
 first
  | exact H.rt (aM (by rw [lV,kF (by omega),tV]))
  | exact H.rt (aM (by rw [lV,kT (by omega),show s.size=k by omega,hno];rfl))
  | exact H.rt (aM (by rw [lV,CF (k:=k) (by omega) (kF (by omega)),Bool.and_false]))
theorem Ui (G:GH) (w0:World) (hG:Hold G w0) (l:List bL) (p:bL→Bool) (v fv:aj) (hv:av G (.sl 6 (l.map bL.dat)) v) (hf:∀ x∈l,rC fv G x.dat (p x)) :
  Calls prog 186 #[v,fv] w0 (aZ w0 G fun u G'=>u=vi (nH (l.findIdx? p))):=by
 obtain ⟨A,c,rfl,hc1,hc2,-⟩:=hv.slice;have hml:maxLen=9223372036854775807:=rfl;rw [bW] at *;refine eN [(0,_),(1,_)] func186 rfl ntmps186 rfl rfl hG ?_;intro a H;refine kP H (SR fun _ K1=>ak K1 rfl (SQ fun _ K2=>SR fun _ K3=>Rm rfl (Rl mZ rfl (Rm rfl (Kz K3 (SB ?_))))));clear H K1 K3;intro a H;skip;refine gq (ι:=Nat × GH) (Tc:=[(0,_),(1,_),(7,_)]) (Lc:=[]) (fun gh=>[(8,vi gh.1)]) (fun gh=>[]) (fun gh=>gh.2) (fun gh=>gh.1≤l.length∧(l.take gh.1).findIdx? p=none∧(∀ b o,G b=some o→gh.2 b=some o)) (fun gh=>l.length - gh.1) ((0,G)) (by exact (H).sub ⟨rfl,rfl,rfl,rfl,aD⟩) ?_ ?_
 ·exact ⟨by omega,rfl,fun _ _ h=>h⟩
 clear H;intro gh a w hI H;obtain ⟨k,g⟩:=gh;dsimp only at hI H;obtain ⟨hk,hno,hgm⟩:=hI;dsimp only [lca,aV] at H;refine kP H (SR fun _ K4=>Rc rfl (Kz K4 (SQ fun _ K5=>Cd rfl ?_ ?_))) <;> clear H K4
 ·intro h9 a H
  try have p9:=dT h9
  have hk2:k < l.length:=by omega
  obtain ⟨b,o,pA,pc,rfl,hrow,hp,hrep⟩:=zJ (hv.mono hgm) hk2;refine kP H (Kc K5 (SQ fun _ K6=>SB (SR fun _ K7=>Rm rfl (ak K7 rfl (SR fun _ K8=>Rm rfl (Rm rfl (Rm rfl (Ri mZ jK rfl rfl ?_))))))));clear H K5 K7;intro a H;refine aW jK (cs:=[_,_,_,_,_,_]) H wn rfl rfl (fun j v hj=>H.hp.aI (hrow j v hj)) rfl ?_;clear H;intro a H;refine oU H wn rfl rfl (hf _ (jT hk2) _ _ _ hgm H.ro hrep) rfl ?_;clear H;rintro v16 sG a w rfl qw H;refine K8 _ _ ?_;clear K8;refine mV H rfl ?_ ?_
  ·intro h16
   try have p16:=dT h16
   refine kP H (SR fun _ K9=>Rm rfl (ak K9 rfl ?_));clear H K9;intro a H;refine lr H results186 rfl ?_
   first
    | exact H.rt (by rw [tC hk2 hno h16];rfl)
    | exact H.rt (by rw [show l.take k=l from jU (by omega)] at hno;rw [hno];rfl)
  intro h16
  try have p16:=dF h16
  refine kP H (Kc K6 (SC (Rd rfl (Rm rfl ?_))));clear H K6;intro a H;refine aH ?_;refine eO ((k+1,sG)) (by exact (H).sub ⟨rfl,rfl,rfl,rfl,aD⟩) ?_ ?_
  ·(try dsimp only);exact ⟨by omega,Bb hk2 hno h16,fun b o h=>qw b o (hgm b o h)⟩
  first|omega|(dsimp only;omega)
 intro h9 a H
 try have p9:=dF h9
 refine fI ?_;refine K2 _ _ ?_;clear K2;refine kP H (SR fun _ aQ=>ak aQ rfl ?_);clear H aQ;intro a H;refine lr H results186 rfl ?_
 first
  | exact H.rt (by rw [tC hk2 hno h16];rfl)
  | exact H.rt (by rw [show l.take k=l from jU (by omega)] at hno;rw [hno];rfl)
def Hr (p q:ByteArray):Bool:=p.toList == q.toList
theorem acu {G:GH} {bk bn:Nat} {kind:Int} {name:ByteArray} (hk:aI G bk 0=some (vi kind)) (hn:aI G bn 0=some (.string name)) (x:bL):rC (.func (.func 187) #[] #[(aJ bk 0),(aJ bn 0)]) G x.dat (decide (x.kind=kind) && Hr x.name name):=by
 intro G1 w0 cs hm hG hr;refine kG (caps:=[(aJ bk 0),(aJ bn 0)]) aaM ?_;obtain ⟨pA,pc,rfl,-⟩:=Pp hr;replace hk:=aL hm hk;replace hn:=aL hm hn;refine eN [(0,_),(1,_),(2,_)] func187 rfl ntmps187 rfl rfl hG ?_;intro a H;refine bK (fun _ K1=>?_);refine dz (cs:=[_,_,_,_,_,_]) H wn rfl rfl rfl ?_;clear H;intro b3 a w hb3 H;refine kH H (ak K1 rfl (SR fun _ K2=>aO vg aC 0 rfl rfl (Rg aC rfl (by assumption) ?_)));clear H K1;intro a H;refine kH H (Rc rfl (Rm rfl (Sp 9 rfl ?_ ?_))) <;> clear H
 ·intro h9 a H
  try have p9:=dT h9
  refine kH H (YF DR h9 rfl (YO iB 0 h9 rfl (YR iB h9 rfl (by assumption) ?_)));clear H;intro a H;refine CQ H (wg H rfl rfl h9) rfl rfl rfl ?_;clear H;intro a H;exact kH H (Pt h9 rfl (ak K2 rfl (LR results187 rfl fun H=>H.rt (by unfold Hr;simp_all))))
 intro h9 a H
 try have p9:=dF h9
 exact kH H (bO h9 rfl (bO h9 rfl (Pf h9 rfl (ak K2 rfl (LR results187 rfl fun H=>H.rt (by unfold Hr;simp_all))))))
theorem acs {G:GH} {bi:Nat} {id:Int} (hb:aI G bi 0=some (vi id)) (x:bL):rC (.func (.func 188) #[] #[(aJ bi 0)]) G x.dat (decide (x.id=id)):=by
 intro G1 w0 cs hm hG hr;refine kG (caps:=[(aJ bi 0)]) aaN ?_;obtain ⟨pA,pc,rfl,-⟩:=Pp hr;replace hb:=aL hm hb;refine eN [(0,_),(1,_)] func188 rfl ntmps188 rfl rfl hG ?_;intro a H;refine bK (fun _ K1=>?_);refine dz (cs:=[_,_,_,_,_,_]) H wn rfl rfl rfl ?_;clear H;intro b2 a w hb2 H;refine kH H (ak K1 rfl (SR fun _ K2=>aO sS aC 0 rfl rfl (Rg aC rfl (by assumption) ?_)));clear H K1;intro a H;exact kH H (Rc rfl (ak K2 rfl (LR results188 rfl fun H=>H.rt rfl)))
def Aq (l:List bL) (kind:Int) (name:ByteArray):Option Nat:=l.findIdx? fun x=>decide (x.kind=kind) && Hr x.name name
def Jj (l:List bL) (id:Int):Option Nat:=l.findIdx? fun x=>decide (x.id=id)
theorem Um (o:Option Nat):decide (0≤nH o)=o.isSome:=by cases o <;> simp [nH]
theorem acv (G:GH) (w0:World) (hG:Hold G w0) (l:List bL) (kind:Int) (name:ByteArray) (v:aj) (hv:av G (.sl 6 (l.map bL.dat)) v) :
  Calls prog 170 #[v,vi kind,.string name] w0 (aZ w0 G fun u G'=>u=.tuple #[vi (max (nH (Aq l kind name)) 0),.bool (Aq l kind name).isSome]):=by
 obtain ⟨A,c,rfl,hc1,hc2,-⟩:=hv.slice;rw [bW] at *;refine eN [(0,_),(1,_),(2,_)] func170 rfl ntmps170 rfl rfl hG ?_;intro a H;refine bK (fun _ K1=>?_);refine dz (cs:=[_]) H wn rfl rfl rfl ?_;clear H;intro b4 a w hb4 H;refine dz (cs:=[_]) H wn rfl rfl rfl ?_;clear H;intro b5 a w hb5 H;refine kH H (Ra rfl (ak K1 rfl (SQ fun _ K2=>?_)));clear H K1;intro a H;obtain ⟨Ga,hma,xK,H⟩:=H.dQ;obtain ⟨Gb,hmb,wz,H⟩:=H.dQ
 have q4:aI Gb b4 0=some (vi kind):=by unfold aI;rw [wz];rfl
 have q5:aI Gb b5 0=some (.string name):=by unfold aI;rw [hmb _ _ xK];rfl
 refine kP H (SC (Rm rfl ?_));clear H;intro a H;refine nK H wn rfl rfl ?_;clear H;intro a H;refine s_call R6 H wn rfl (Ui _ _ H.ro l (fun x=>decide (x.kind=kind) && Hr x.name name) _ _ ((hv.mono hma).mono hmb) (fun x _=>acu q4 q5 x)) rfl ?_;clear H;rintro v11 sF a w rfl zl H;refine kH H (aU K2 rfl (SR fun _ K3=>Rm rfl ?_));clear H K2;intro a H;refine Kk H wn rfl rfl rfl ?_;clear H;intro a H;refine kH H (Rm rfl (Rc rfl (Ra rfl (ak K3 rfl ?_))));clear H K3;intro a H;refine bF ?_;refine (dL H results170 (.cons (aN H rfl) (.cons (aN H rfl) .nil)) ?_).1;exact H.rt (by rw [← Um];rfl)
theorem acw (G:GH) (w0:World) (hG:Hold G w0) (l:List bL) (id:Int) (v:aj) (hv:av G (.sl 6 (l.map bL.dat)) v) :
  Calls prog 172 #[v,vi id] w0 (aZ w0 G fun u G'=>u=.tuple #[vi (max (nH (Jj l id)) 0),.bool (Jj l id).isSome]):=by
 obtain ⟨A,c,rfl,hc1,hc2,-⟩:=hv.slice;rw [bW] at *;refine eN [(0,_),(1,_)] func172 rfl ntmps172 rfl rfl hG ?_;intro a H;refine bK (fun _ K1=>?_);refine dz (cs:=[_]) H wn rfl rfl rfl ?_;clear H;intro b3 a w hb3 H;refine kH H (Ra rfl (ak K1 rfl (SQ fun _ K2=>?_)));clear H K1;intro a H;obtain ⟨Ga,hma,wu,H⟩:=H.dQ
 have q3:aI Ga b3 0=some (vi id):=by unfold aI;rw [wu];rfl
 refine kP H (SC (Rm rfl ?_));clear H;intro a H;refine nK H wn rfl rfl ?_;clear H;intro a H;refine s_call R6 H wn rfl (Ui _ _ H.ro l (fun x=>decide (x.id=id)) _ _ (hv.mono hma) (fun x _=>acs q3 x)) rfl ?_;clear H;rintro v9 G9 a w rfl AU H;refine kH H (aU K2 rfl (SR fun _ K3=>Rm rfl ?_));clear H K2;intro a H;refine Kk H wn rfl rfl rfl ?_;clear H;intro a H;refine kH H (Rm rfl (Rc rfl (Ra rfl (ak K3 rfl ?_))));clear H K3;intro a H;refine bF ?_;refine (dL H results172 (.cons (aN H rfl) (.cons (aN H rfl) .nil)) ?_).1;exact H.rt (by rw [← Um];rfl)
def Cq (l:List bL) (kind id:Int):Bool:=match Jj l id with|some i=>decide ((l[i]?.map bL.kind)=some kind)|none=>false
theorem Oz (G:GH) (w0:World) (hG:Hold G w0) (l:List bL) (kind id:Int) (v:aj) (hv:av G (.sl 6 (l.map bL.dat)) v) :
  Calls prog 139 #[v,vi kind,vi id] w0 (aZ w0 G fun u G'=>u=.bool (Cq l kind id)):=by
 obtain ⟨A,c,rfl,hc1,hc2,-⟩:=hv.slice;rw [bW] at *;refine eN [(0,_),(1,_),(2,_)] func139 rfl ntmps139 rfl rfl hG ?_;intro a H;refine kP H (SR fun _ K1=>ak K1 rfl (SR fun _ K2=>Rm rfl (Rm rfl ?_)));clear H K1;intro a H;refine s_call aaB H wn rfl (acw _ _ H.ro l id _ hv) rfl ?_;clear H;rintro v12 yx a w rfl uq H;obtain ⟨o,ho⟩:∃ o,o=Jj l id:=⟨_,rfl⟩;rw [← ho] at H;refine kH H (Rm rfl ?_);clear H;intro a H;(iterate 2 refine jy H wn rfl rfl rfl ?_;clear H;intro a H);refine kH H (Ra rfl (ak K2 rfl (SR fun _ K3=>Rm rfl (Rm rfl (Sp 16 rfl ?_ ?_))))) <;> clear H K2
 ·intro h16 a H
  try have p16:=dT h16
  obtain ⟨i,rfl⟩:=Option.isSome_iff_exists.1 h16
  have hil:i < l.length:=by
   obtain ⟨hi,-⟩:=List.findIdx?_eq_some_iff_getElem.1 ho.symm;exact hi
  rw [show max (nH (some i)) 0=(i:Int) by simp [nH]] at H;obtain ⟨b,o',pA,pc,rfl,hrow,hp,hrep⟩:=zJ (hv.mono uq) hil;have r1:aI yx b (o'+i*6+1)=some (vi l[i].kind):=hrow 1 _ rfl;refine kH H (YM h16 rfl (YM h16 rfl (YI mZ jK h16 rfl rfl (YF vg h16 rfl (YR aC h16 rfl (by assumption) ?_)))));clear H;intro a H;refine kH H (YM h16 rfl (YC h16 rfl (Pt h16 rfl (ak K3 rfl ?_))));clear H K3;intro a H;refine lr H results139 rfl ?_
  first
   | exact H.rt (aM (by rw [Cq,← ho];dsimp only;rw [gy hil];simp))
   | exact H.rt (aM (by rw [Cq,← ho];cases o <;> simp_all))
 intro h16 a H
 try have p16:=dF h16
 refine kH H (cK h16 rfl (bO h16 rfl (bO h16 rfl (Pf h16 rfl (ak K3 rfl ?_)))));clear H K3;intro a H;refine lr H results139 rfl ?_
 first
  | exact H.rt (aM (by rw [Cq,← ho];dsimp only;rw [gy hil];simp))
  | exact H.rt (aM (by rw [Cq,← ho];cases o <;> simp_all))
end
section
open Go.RowKit
section
variable {N:Nat} {D:List Deferred} {w0:World} {F:Nat→Prop} {G0 G:GH} {L Li Lo:OL} {T:List (Nat × aj)}
variable {r:Option Nat} {P:Program} {ops:Array Oper} {Q:Exit→Act→World→Prop} {rest:List Oper} {a:Act} {w:World}
variable {d:Nat} {ty:TypeId} {pos:String} {aK:Array Edge} {g:Option (Nat × Bool)}
theorem afh (z:aj) (n:Nat):madeCells #[z] n=(List.replicate n z).toArray:=by
 apply Array.ext
 ·simp [madeCells]
 ·intro i h1 h2
  simp [madeCells,Nat.mod_one]
theorem agv {t e:TypeId} {z:aj} {bytes:Nat} {x y:Operand} {p:Int} (n:Nat) (hs:P.underlying t=some (.slice e)) (ht:Ty P e 1 bytes [z] false) (H:St N D w0 F G0 G L T a w) (hw:Region.wanted ⟨some d,.makeSlice t x y,ty,pos,aK,g⟩ (yielded ops a.tmps)=true)
  (hx:ev T x=some (.int .i64 p)) (hy:ev T y=some (.int .i64 p)) (hp:p=(n:Int)) (hb:bytes*n≤281474976710656) (h63:n≤9223372036854775807) (hd:Nat.blt d N=true)
  (k:∀ b a' w',w0.heap.size≤b→St N D w0 F G0 G ((b,.cells (List.replicate n z).toArray e (0,0)) :: L) ((d,.slice (some ⟨b,0,none⟩) n n) :: T) a' w'→WL r P ops Q rest a' w'):WL r P ops Q (⟨some d,.makeSlice t x y,ty,pos,aK,g⟩ :: rest) a w:=by
 obtain ⟨i,z0,hi,hi1,hi2,hi3,hi4⟩:=ht.parts
 subst hp
 have hz:z0.cells=#[z]:=by rw [hi4]
 have hb':(i.bytes:Int)*(n:Int)≤281474976710656:=by
  rw [hi2,← Int.natCast_mul];omega
 have hr:=run_make (P:=P) w t e i z0 hs hi hi3 .i64 .i64 (n:Int) (n:Int) (by omega) (Int.le_refl _) hb' (by omega)
 rw [hi1,hz,Nat.mul_one,Int.toNat_natCast,afh] at hr
 refine eY (v:=.slice (some ⟨w.heap.size,0,none⟩) n n) (w':=w.alloc (.cells (List.replicate n z).toArray e (0,0))) hw rfl ?_ (k _ _ _ H.hp.size (H.put hd _ (H.hp.alloc _)))
 simp only [execOp,H.ev hx,H.ev hy,cO,hr,kE,mO]
theorem Vx {t e:TypeId} {sz bytes:Nat} {zero:List aj} {agg:Bool} (hs:P.underlying t=some (.slice e)) (ht:Ty P e sz bytes zero agg) {x z:Operand} {A:Option Addr} {n c:Nat} (hi:Nat) {q:Int} (H:St N D w0 F G0 G L T a w)
  (hw:Region.wanted ⟨some d,.slice t x none (some z) none,ty,pos,aK,g⟩ (yielded ops a.tmps)=true) (hx:ev T x=some (.slice A n c)) (hz:ev T z=some (.int .i64 q)) (hq:q=(hi:Int)) (h2:hi≤c) (hd:Nat.blt d N=true)
  (k:∀ a',St N D w0 F G0 G L ((d,.slice A hi c) :: T) a' w→WL r P ops Q rest a' w):WL r P ops Q (⟨some d,.slice t x none (some z) none,ty,pos,aK,g⟩ :: rest) a w:=by
 subst hq
 refine eY (v:=.slice A hi c) (w':=w) hw rfl ?_ (k _ (H.put hd _ H.hp))
 simp [execOp,H.ev hx,H.ev hz,Instr.sliceAt,Instr.slice,Instr.sliceBounds,Instr.sliceBound,cO,nJ hs,ht.zD,asIntOf,h2]
 intro _
 cases A with
 | none=>rfl
 | some p=>simp [Addr.add]
end
end
end Go.Proofs.YtdacibabefnabaaGreat
