/-
  What the claim stands on, part 3: Package property: find, Group, groups, Fits, CheckValue, Get. Package property: Check, Get, Clone. Package document: in, when, first, all, increasing. Packages codepoint, document and obeluslaw13: names, authors, texts, ids. Pointers that may be nil. Regions that draw the order of their operations, in which each operation has its own part of what is owned: the layout is told by what is done. Regions that draw the order of their operations, in which one operation among the others makes what is owned more. Maps that a call owns. Drawn regions in which one operation makes what is owned more, and others look into what is owned. Drawn regions in which one operation, not the last, stores into what is owned. Package leveltext: the scanner's builder. Drawn regions in which two operations make what is owned more. Drawn regions in which a call turns what is owned, and an operation behind it makes it more. Package leveltext: the scanner's flush and place. Regions that draw the order of their operations, of which some write slots that others read before; the beginning of a string. Package leveltext: the scanner's percent. Package leveltext: the scanner's scan. The bytes of a string as a slice that is only read. Package leveltext: Parse, Check, CheckLevels. Package leveltext: CheckLevels. Package document: checkLists.
-/
import Derived.Test.YthichnnlceeofaaGreatWfb
import Derived.MapKept
import Derived.Lib.ConvBytes
namespace Go.Proofs.YthichnnlceeofaaGreat
section
open Go.RowKit
theorem en130prq:∀ args w,(callFunc 130 args).run Tryz.prog w=.ok (.enter 130 args) w:=enters Tryz.func130 rfl (by kernel_rfl)
theorem en131prq:∀ args w,(callFunc 131 args).run Tryz.prog w=.ok (.enter 131 args) w:=enters Tryz.func131 rfl (by kernel_rfl)
theorem un70prq:Tryz.prog.underlying 70=some (.slice 3):=by kernel_rfl
theorem en133prq:∀ args w,(callFunc 133 args).run Tryz.prog w=.ok (.enter 133 args) w:=enters Tryz.func133 rfl (by kernel_rfl)
theorem en120prq:∀ args w,(callFunc 120 args).run Tryz.prog w=.ok (.enter 120 args) w:=enters Tryz.func120 rfl (by kernel_rfl)
theorem en122prq:∀ args w,(callFunc 122 args).run Tryz.prog w=.ok (.enter 122 args) w:=enters Tryz.func122 rfl (by kernel_rfl)
theorem fd197_1prq:Fld Tryz.prog 197 1 1:=⟨by kernel_rfl⟩
theorem en121prq:∀ args w,(callFunc 121 args).run Tryz.prog w=.ok (.enter 121 args) w:=enters Tryz.func121 rfl (by kernel_rfl)
theorem fd197_2prq:Fld Tryz.prog 197 2 2:=⟨by kernel_rfl⟩
theorem fd197_3prq:Fld Tryz.prog 197 3 3:=⟨by kernel_rfl⟩
def kz:KeyD:=⟨0,0,0,0,0,⟨#[]⟩⟩
def keyN:List Int:=keyT.map KeyD.num
/-- The entry of a key, and whether there is one. -/
def findK (k:Int):KeyD × Bool:=if hasK keyN k=true then (keyT.getD (bsK keyN k) kz,true) else (kz,false)
theorem find_spec (G:GH) (w0:World) (hG:Hold G w0) (k:Int):Calls Tryz.prog 120 #[vi k] w0 (Ret w0 G fun u G'=>u=.tuple #[.agg (findK k).1.cells.toArray,.bool (findK k).2]):=by
 refine eN [(0,_)] Tryz.func120 rfl Tryz.ntmps120 rfl rfl hG ?_;intro a H;refine c_seqR (fun _ K1=>?_);refine s_alloc ty197prk H wn rfl ?_;clear H;intro b2 a w hb2 H;refine kH H (Ra rfl (Kz K1 (SR fun _ K2=>?_)));clear H K1;intro a H;refine s_call en130prq H wn rfl (ktable_spec _ _ H.hp.ro) rfl ?_;clear H;rintro v7 G7 a w hv7 hm7 H;obtain ⟨A,c,rfl,hc1,hc2,-⟩:=hv7.slice;rw [List.length_map] at *;refine kH H (Ra rfl (Kz K2 (SR fun _ K3=>Rm rfl (Rm rfl ?_))));clear H K2;intro a H;refine s_call en131prq H wn rfl (bskey_spec _ _ H.hp.ro keyT k _ hv7 (by decide)) rfl ?_;clear H;rintro v11 G11 a w rfl hm11 H;have hv7:=hv7.mono hm11;have hkn:keyT.map KeyD.num=keyN:=rfl;rw [hkn] at H;obtain ⟨n,hn⟩:∃ n,n=bsK keyN k:=⟨_,rfl⟩;obtain ⟨q,hq⟩:∃ q,q=hasK keyN k:=⟨_,rfl⟩;rw [← hn,← hq] at H;refine kH H (Rm rfl ?_);clear H;intro a H;(iterate 2 refine s_extract H wn rfl rfl rfl ?_;clear H;intro a H);refine kH H (Ra rfl (Ra rfl (Kz K3 (SQ fun _ K4=>SR fun _ K5=>Rm rfl (Rn rfl (Kz K5 ?_))))));clear H K3 K5;intro a H;refine c_cond H rfl ?_ ?_
 ·intro h15
  try have p15:=dT h15
  refine c_seqR (fun _ K6=>?_);refine s_build sr197prk [_,_,_,_,_,_] H wn rfl rfl rfl rfl ?_;clear H;intro a H;refine s_store ty197prk 0 (vs:=[_,_,_,_,_,_]) _ H wn rfl rfl rfl rfl rfl rfl rfl rfl ?_;clear H;intro w H;dsimp only [List.set,setRow] at H;refine kH H (Ra rfl (Kz K6 ?_));clear H K6;intro a H;refine c_ret ?_;refine (leaveT H Tryz.results120 (.cons (rv_cella ty197prk (cs:=[_,_,_,_,_,_]) H rfl rfl (H.hp.ocells 0 rfl rfl)) (.cons (rv_tmp H rfl) .nil)) ?_).1;exact H.hp.ret (by rw [findK,if_neg (by rw [← hq];simpa using h15)];rfl)
 intro h15
 try have p15:=dF h15
 have hlt:n < keyT.length:=by have:=hasK_lt (ks:=keyN) (t:=k) (by rw [← hq];simpa using h15);rw [← hn] at this;simpa [keyN] using this
 obtain ⟨b,o,rfl,hrow⟩:=key_at hv7 hlt;refine kP H (Kc K4 (SR fun _ K7=>Rm rfl (Rm rfl (Ri un212prk ty197prk rfl rfl ?_))));clear H K4;intro a H;refine s_loada ty197prk (cs:=[_,_,_,_,_,_]) H wn rfl rfl (fun j v hj=>H.hp.gcell (hrow j v hj)) rfl ?_;clear H;intro a H;refine s_store ty197prk 0 (vs:=[_,_,_,_,_,_]) _ H wn rfl rfl rfl rfl rfl rfl rfl rfl ?_;clear H;intro w H;dsimp only [List.set,setRow] at H;refine kH H (Ra rfl (Kz K7 ?_));clear H K7;intro a H;refine c_ret ?_;refine (leaveT H Tryz.results120 (.cons (rv_cella ty197prk (cs:=[_,_,_,_,_,_]) H rfl rfl (H.hp.ocells 0 rfl rfl)) (.cons (rv_tmp H rfl) .nil)) ?_).1;exact H.hp.ret (by rw [findK,if_pos (by rw [← hq];simpa using h15),← hn,List.getD_eq_getElem?_getD,List.getElem?_eq_getElem hlt];rfl)
def groupsS (e:Int):List Int:=if e=1∨e=4∨e=5∨e=6 then [1] else if e=2 then [1,2] else if e=3 then [3] else if e=7 then [6] else if e=9 then [4] else if e=10 then [5] else []
theorem ints_cat (G:GH) (A:List Int):RepCat G 1 (A.map fun k=>[li k]) (A.map vi):=by
 refine ⟨A.map fun k=>[vi k],?_,by simp,fun j r cs hr hc=>?_⟩
 ·induction A with
  | nil=>rfl
  | cons a A ih=>simpa using ih
 rw [List.getElem?_map] at hr hc
 cases h:A[j]? with
 | none=>rw [h] at hr;cases hr
 | some x =>
  rw [h] at hr hc
  cases hr;cases hc
  exact ⟨by simp only [RepRow];exact ⟨_,_,rfl,by simp [RepV,Value.oneCell'],rfl⟩,rfl⟩
theorem groups_spec (G:GH) (w0:World) (hG:Hold G w0) (e:Int):Calls Tryz.prog 122 #[vi e] w0 (Ret w0 G fun u G'=>RepV G' (.sl 1 ((groupsS e).map fun k=>[li k])) u):=by
  refine eN [(0,_)] Tryz.func122 rfl Tryz.ntmps122 rfl rfl hG ?_;intro a H;refine kP H (SR fun _ K1=>Ra rfl (Kz K1 (SQ fun _ K2=>SR fun _ K3=>Rm rfl (Kz K3 (SB (SQ fun _ K4=>SR fun _ K5=>Rc rfl (Ra rfl (Kz K5 ?_))))))));clear H K1 K3 K5;intro a H;refine c_cond H rfl ?_ ?_
  · intro h4
    try have p4:=dT h4
    refine c_skip ?_;refine K4 _ _ ?_;clear K4;refine c_cond_t H rfl h4 ?_;refine c_seqR (fun _ K6=>?_);refine s_buildSlice un70prq ty3run [_] [_] H wn rfl rfl rfl rfl rfl (by intro i q h;match i,h with|0,h=>exact h|n+1,h=>simp at h) rfl rfl ?_;clear H;intro b9 a w hb9 H;refine kH H (Ra rfl (Kz K6 ?_));clear H K6;intro a H;refine lr H Tryz.results122 rfl ?_
    first
      | exact H.hp.ret (by rw [groupsS,if_neg (by omega),if_neg (by omega),if_neg (by omega),if_neg (by omega),if_neg (by omega),if_neg (by omega)];exact RepV.nil_ rfl (by decide))
      | (obtain ⟨Gz,hmz,hbz,H⟩:=H.giveBox
         first
           | exact H.hp.ret (by rw [groupsS,if_pos (by omega)];exact RepV.of_row (n:=1) (cap:=1) hbz rfl (Nat.le_refl _) (show 1≤maxLen by decide) rfl (ints_cat _ [1]))
           | exact H.hp.ret (by rw [groupsS,if_neg (by omega),if_pos (by omega)];exact RepV.of_row (n:=2) (cap:=2) hbz rfl (Nat.le_refl _) (show 2≤maxLen by decide) rfl (ints_cat _ [1,2]))
           | exact H.hp.ret (by rw [groupsS,if_neg (by omega),if_neg (by omega),if_pos (by omega)];exact RepV.of_row (n:=1) (cap:=1) hbz rfl (Nat.le_refl _) (show 1≤maxLen by decide) rfl (ints_cat _ [3]))
           | exact H.hp.ret (by rw [groupsS,if_neg (by omega),if_neg (by omega),if_neg (by omega),if_pos (by omega)];exact RepV.of_row (n:=1) (cap:=1) hbz rfl (Nat.le_refl _) (show 1≤maxLen by decide) rfl (ints_cat _ [6]))
           | exact H.hp.ret (by rw [groupsS,if_neg (by omega),if_neg (by omega),if_neg (by omega),if_neg (by omega),if_pos (by omega)];exact RepV.of_row (n:=1) (cap:=1) hbz rfl (Nat.le_refl _) (show 1≤maxLen by decide) rfl (ints_cat _ [4]))
           | exact H.hp.ret (by rw [groupsS,if_neg (by omega),if_neg (by omega),if_neg (by omega),if_neg (by omega),if_neg (by omega),if_pos (by omega)];exact RepV.of_row (n:=1) (cap:=1) hbz rfl (Nat.le_refl _) (show 1≤maxLen by decide) rfl (ints_cat _ [5])))
  intro h4
  try have p4:=dF h4
  refine kP H (SR fun _ K7=>Rc rfl (Ra rfl (Kz K7 ?_)));clear H K7;intro a H;refine c_cond H rfl ?_ ?_
  · intro h4
    try have p4:=dT h4
    refine c_skip ?_;refine K4 _ _ ?_;clear K4;refine c_cond_t H rfl h4 ?_;refine c_seqR (fun _ K8=>?_);refine s_buildSlice un70prq ty3run [_] [_] H wn rfl rfl rfl rfl rfl (by intro i q h;match i,h with|0,h=>exact h|n+1,h=>simp at h) rfl rfl ?_;clear H;intro b9 a w hb9 H;refine kH H (Ra rfl (Kz K8 ?_));clear H K8;intro a H;refine lr H Tryz.results122 rfl ?_
    first
      | exact H.hp.ret (by rw [groupsS,if_neg (by omega),if_neg (by omega),if_neg (by omega),if_neg (by omega),if_neg (by omega),if_neg (by omega)];exact RepV.nil_ rfl (by decide))
      | (obtain ⟨Gz,hmz,hbz,H⟩:=H.giveBox
         first
           | exact H.hp.ret (by rw [groupsS,if_pos (by omega)];exact RepV.of_row (n:=1) (cap:=1) hbz rfl (Nat.le_refl _) (show 1≤maxLen by decide) rfl (ints_cat _ [1]))
           | exact H.hp.ret (by rw [groupsS,if_neg (by omega),if_pos (by omega)];exact RepV.of_row (n:=2) (cap:=2) hbz rfl (Nat.le_refl _) (show 2≤maxLen by decide) rfl (ints_cat _ [1,2]))
           | exact H.hp.ret (by rw [groupsS,if_neg (by omega),if_neg (by omega),if_pos (by omega)];exact RepV.of_row (n:=1) (cap:=1) hbz rfl (Nat.le_refl _) (show 1≤maxLen by decide) rfl (ints_cat _ [3]))
           | exact H.hp.ret (by rw [groupsS,if_neg (by omega),if_neg (by omega),if_neg (by omega),if_pos (by omega)];exact RepV.of_row (n:=1) (cap:=1) hbz rfl (Nat.le_refl _) (show 1≤maxLen by decide) rfl (ints_cat _ [6]))
           | exact H.hp.ret (by rw [groupsS,if_neg (by omega),if_neg (by omega),if_neg (by omega),if_neg (by omega),if_pos (by omega)];exact RepV.of_row (n:=1) (cap:=1) hbz rfl (Nat.le_refl _) (show 1≤maxLen by decide) rfl (ints_cat _ [4]))
           | exact H.hp.ret (by rw [groupsS,if_neg (by omega),if_neg (by omega),if_neg (by omega),if_neg (by omega),if_neg (by omega),if_pos (by omega)];exact RepV.of_row (n:=1) (cap:=1) hbz rfl (Nat.le_refl _) (show 1≤maxLen by decide) rfl (ints_cat _ [5])))
  intro h4
  try have p4:=dF h4
  refine kP H (SR fun _ K9=>Rc rfl (Ra rfl (Kz K9 ?_)));clear H K9;intro a H;refine c_cond H rfl ?_ ?_
  · intro h4
    try have p4:=dT h4
    refine c_skip ?_;refine K4 _ _ ?_;clear K4;refine c_cond_t H rfl h4 ?_;refine c_seqR (fun _ K10=>?_);refine s_buildSlice un70prq ty3run [_] [_] H wn rfl rfl rfl rfl rfl (by intro i q h;match i,h with|0,h=>exact h|n+1,h=>simp at h) rfl rfl ?_;clear H;intro b9 a w hb9 H;refine kH H (Ra rfl (Kz K10 ?_));clear H K10;intro a H;refine lr H Tryz.results122 rfl ?_
    first
      | exact H.hp.ret (by rw [groupsS,if_neg (by omega),if_neg (by omega),if_neg (by omega),if_neg (by omega),if_neg (by omega),if_neg (by omega)];exact RepV.nil_ rfl (by decide))
      | (obtain ⟨Gz,hmz,hbz,H⟩:=H.giveBox
         first
           | exact H.hp.ret (by rw [groupsS,if_pos (by omega)];exact RepV.of_row (n:=1) (cap:=1) hbz rfl (Nat.le_refl _) (show 1≤maxLen by decide) rfl (ints_cat _ [1]))
           | exact H.hp.ret (by rw [groupsS,if_neg (by omega),if_pos (by omega)];exact RepV.of_row (n:=2) (cap:=2) hbz rfl (Nat.le_refl _) (show 2≤maxLen by decide) rfl (ints_cat _ [1,2]))
           | exact H.hp.ret (by rw [groupsS,if_neg (by omega),if_neg (by omega),if_pos (by omega)];exact RepV.of_row (n:=1) (cap:=1) hbz rfl (Nat.le_refl _) (show 1≤maxLen by decide) rfl (ints_cat _ [3]))
           | exact H.hp.ret (by rw [groupsS,if_neg (by omega),if_neg (by omega),if_neg (by omega),if_pos (by omega)];exact RepV.of_row (n:=1) (cap:=1) hbz rfl (Nat.le_refl _) (show 1≤maxLen by decide) rfl (ints_cat _ [6]))
           | exact H.hp.ret (by rw [groupsS,if_neg (by omega),if_neg (by omega),if_neg (by omega),if_neg (by omega),if_pos (by omega)];exact RepV.of_row (n:=1) (cap:=1) hbz rfl (Nat.le_refl _) (show 1≤maxLen by decide) rfl (ints_cat _ [4]))
           | exact H.hp.ret (by rw [groupsS,if_neg (by omega),if_neg (by omega),if_neg (by omega),if_neg (by omega),if_neg (by omega),if_pos (by omega)];exact RepV.of_row (n:=1) (cap:=1) hbz rfl (Nat.le_refl _) (show 1≤maxLen by decide) rfl (ints_cat _ [5])))
  intro h4
  try have p4:=dF h4
  refine kP H (SC (Rc rfl (Ra rfl (Kn K4 ?_))));clear H K4;intro a H;refine c_cond H rfl ?_ ?_
  · intro h4
    try have p4:=dT h4
    refine c_seqR (fun _ K11=>?_);refine s_buildSlice un70prq ty3run [_] [_] H wn rfl rfl rfl rfl rfl (by intro i q h;match i,h with|0,h=>exact h|n+1,h=>simp at h) rfl rfl ?_;clear H;intro b9 a w hb9 H;refine kH H (Ra rfl (Kz K11 ?_));clear H K11;intro a H;refine lr H Tryz.results122 rfl ?_
    first
      | exact H.hp.ret (by rw [groupsS,if_neg (by omega),if_neg (by omega),if_neg (by omega),if_neg (by omega),if_neg (by omega),if_neg (by omega)];exact RepV.nil_ rfl (by decide))
      | (obtain ⟨Gz,hmz,hbz,H⟩:=H.giveBox
         first
           | exact H.hp.ret (by rw [groupsS,if_pos (by omega)];exact RepV.of_row (n:=1) (cap:=1) hbz rfl (Nat.le_refl _) (show 1≤maxLen by decide) rfl (ints_cat _ [1]))
           | exact H.hp.ret (by rw [groupsS,if_neg (by omega),if_pos (by omega)];exact RepV.of_row (n:=2) (cap:=2) hbz rfl (Nat.le_refl _) (show 2≤maxLen by decide) rfl (ints_cat _ [1,2]))
           | exact H.hp.ret (by rw [groupsS,if_neg (by omega),if_neg (by omega),if_pos (by omega)];exact RepV.of_row (n:=1) (cap:=1) hbz rfl (Nat.le_refl _) (show 1≤maxLen by decide) rfl (ints_cat _ [3]))
           | exact H.hp.ret (by rw [groupsS,if_neg (by omega),if_neg (by omega),if_neg (by omega),if_pos (by omega)];exact RepV.of_row (n:=1) (cap:=1) hbz rfl (Nat.le_refl _) (show 1≤maxLen by decide) rfl (ints_cat _ [6]))
           | exact H.hp.ret (by rw [groupsS,if_neg (by omega),if_neg (by omega),if_neg (by omega),if_neg (by omega),if_pos (by omega)];exact RepV.of_row (n:=1) (cap:=1) hbz rfl (Nat.le_refl _) (show 1≤maxLen by decide) rfl (ints_cat _ [4]))
           | exact H.hp.ret (by rw [groupsS,if_neg (by omega),if_neg (by omega),if_neg (by omega),if_neg (by omega),if_neg (by omega),if_pos (by omega)];exact RepV.of_row (n:=1) (cap:=1) hbz rfl (Nat.le_refl _) (show 1≤maxLen by decide) rfl (ints_cat _ [5])))
  intro h4
  try have p4:=dF h4
  refine kP H (SR fun _ K12=>Rc rfl (Ra rfl (Kz K12 ?_)));clear H K12;intro a H;refine c_cond H rfl ?_ ?_
  · intro h10
    try have p10:=dT h10
    refine c_seqR (fun _ K13=>?_);refine s_buildSlice un70prq ty3run [_,_] [_,_] H wn rfl rfl rfl rfl rfl (by intro i q h;match i,h with|0,h=>exact h|1,h=>exact h|n+2,h=>simp at h) rfl rfl ?_;clear H;intro b12 a w hb12 H;refine kH H (Ra rfl (Kz K13 ?_));clear H K13;intro a H;refine lr H Tryz.results122 rfl ?_
    first
      | exact H.hp.ret (by rw [groupsS,if_neg (by omega),if_neg (by omega),if_neg (by omega),if_neg (by omega),if_neg (by omega),if_neg (by omega)];exact RepV.nil_ rfl (by decide))
      | (obtain ⟨Gz,hmz,hbz,H⟩:=H.giveBox
         first
           | exact H.hp.ret (by rw [groupsS,if_pos (by omega)];exact RepV.of_row (n:=1) (cap:=1) hbz rfl (Nat.le_refl _) (show 1≤maxLen by decide) rfl (ints_cat _ [1]))
           | exact H.hp.ret (by rw [groupsS,if_neg (by omega),if_pos (by omega)];exact RepV.of_row (n:=2) (cap:=2) hbz rfl (Nat.le_refl _) (show 2≤maxLen by decide) rfl (ints_cat _ [1,2]))
           | exact H.hp.ret (by rw [groupsS,if_neg (by omega),if_neg (by omega),if_pos (by omega)];exact RepV.of_row (n:=1) (cap:=1) hbz rfl (Nat.le_refl _) (show 1≤maxLen by decide) rfl (ints_cat _ [3]))
           | exact H.hp.ret (by rw [groupsS,if_neg (by omega),if_neg (by omega),if_neg (by omega),if_pos (by omega)];exact RepV.of_row (n:=1) (cap:=1) hbz rfl (Nat.le_refl _) (show 1≤maxLen by decide) rfl (ints_cat _ [6]))
           | exact H.hp.ret (by rw [groupsS,if_neg (by omega),if_neg (by omega),if_neg (by omega),if_neg (by omega),if_pos (by omega)];exact RepV.of_row (n:=1) (cap:=1) hbz rfl (Nat.le_refl _) (show 1≤maxLen by decide) rfl (ints_cat _ [4]))
           | exact H.hp.ret (by rw [groupsS,if_neg (by omega),if_neg (by omega),if_neg (by omega),if_neg (by omega),if_neg (by omega),if_pos (by omega)];exact RepV.of_row (n:=1) (cap:=1) hbz rfl (Nat.le_refl _) (show 1≤maxLen by decide) rfl (ints_cat _ [5])))
  intro h10
  try have p10:=dF h10
  refine kP H (SR fun _ K14=>Rc rfl (Ra rfl (Kz K14 ?_)));clear H K14;intro a H;refine c_cond H rfl ?_ ?_
  · intro h13
    try have p13:=dT h13
    refine c_seqR (fun _ K15=>?_);refine s_buildSlice un70prq ty3run [_] [_] H wn rfl rfl rfl rfl rfl (by intro i q h;match i,h with|0,h=>exact h|n+1,h=>simp at h) rfl rfl ?_;clear H;intro b15 a w hb15 H;refine kH H (Ra rfl (Kz K15 ?_));clear H K15;intro a H;refine lr H Tryz.results122 rfl ?_
    first
      | exact H.hp.ret (by rw [groupsS,if_neg (by omega),if_neg (by omega),if_neg (by omega),if_neg (by omega),if_neg (by omega),if_neg (by omega)];exact RepV.nil_ rfl (by decide))
      | (obtain ⟨Gz,hmz,hbz,H⟩:=H.giveBox
         first
           | exact H.hp.ret (by rw [groupsS,if_pos (by omega)];exact RepV.of_row (n:=1) (cap:=1) hbz rfl (Nat.le_refl _) (show 1≤maxLen by decide) rfl (ints_cat _ [1]))
           | exact H.hp.ret (by rw [groupsS,if_neg (by omega),if_pos (by omega)];exact RepV.of_row (n:=2) (cap:=2) hbz rfl (Nat.le_refl _) (show 2≤maxLen by decide) rfl (ints_cat _ [1,2]))
           | exact H.hp.ret (by rw [groupsS,if_neg (by omega),if_neg (by omega),if_pos (by omega)];exact RepV.of_row (n:=1) (cap:=1) hbz rfl (Nat.le_refl _) (show 1≤maxLen by decide) rfl (ints_cat _ [3]))
           | exact H.hp.ret (by rw [groupsS,if_neg (by omega),if_neg (by omega),if_neg (by omega),if_pos (by omega)];exact RepV.of_row (n:=1) (cap:=1) hbz rfl (Nat.le_refl _) (show 1≤maxLen by decide) rfl (ints_cat _ [6]))
           | exact H.hp.ret (by rw [groupsS,if_neg (by omega),if_neg (by omega),if_neg (by omega),if_neg (by omega),if_pos (by omega)];exact RepV.of_row (n:=1) (cap:=1) hbz rfl (Nat.le_refl _) (show 1≤maxLen by decide) rfl (ints_cat _ [4]))
           | exact H.hp.ret (by rw [groupsS,if_neg (by omega),if_neg (by omega),if_neg (by omega),if_neg (by omega),if_neg (by omega),if_pos (by omega)];exact RepV.of_row (n:=1) (cap:=1) hbz rfl (Nat.le_refl _) (show 1≤maxLen by decide) rfl (ints_cat _ [5])))
  intro h13
  try have p13:=dF h13
  refine kP H (SR fun _ K16=>Rc rfl (Ra rfl (Kz K16 ?_)));clear H K16;intro a H;refine c_cond H rfl ?_ ?_
  · intro h16
    try have p16:=dT h16
    refine c_seqR (fun _ K17=>?_);refine s_buildSlice un70prq ty3run [_] [_] H wn rfl rfl rfl rfl rfl (by intro i q h;match i,h with|0,h=>exact h|n+1,h=>simp at h) rfl rfl ?_;clear H;intro b18 a w hb18 H;refine kH H (Ra rfl (Kz K17 ?_));clear H K17;intro a H;refine lr H Tryz.results122 rfl ?_
    first
      | exact H.hp.ret (by rw [groupsS,if_neg (by omega),if_neg (by omega),if_neg (by omega),if_neg (by omega),if_neg (by omega),if_neg (by omega)];exact RepV.nil_ rfl (by decide))
      | (obtain ⟨Gz,hmz,hbz,H⟩:=H.giveBox
         first
           | exact H.hp.ret (by rw [groupsS,if_pos (by omega)];exact RepV.of_row (n:=1) (cap:=1) hbz rfl (Nat.le_refl _) (show 1≤maxLen by decide) rfl (ints_cat _ [1]))
           | exact H.hp.ret (by rw [groupsS,if_neg (by omega),if_pos (by omega)];exact RepV.of_row (n:=2) (cap:=2) hbz rfl (Nat.le_refl _) (show 2≤maxLen by decide) rfl (ints_cat _ [1,2]))
           | exact H.hp.ret (by rw [groupsS,if_neg (by omega),if_neg (by omega),if_pos (by omega)];exact RepV.of_row (n:=1) (cap:=1) hbz rfl (Nat.le_refl _) (show 1≤maxLen by decide) rfl (ints_cat _ [3]))
           | exact H.hp.ret (by rw [groupsS,if_neg (by omega),if_neg (by omega),if_neg (by omega),if_pos (by omega)];exact RepV.of_row (n:=1) (cap:=1) hbz rfl (Nat.le_refl _) (show 1≤maxLen by decide) rfl (ints_cat _ [6]))
           | exact H.hp.ret (by rw [groupsS,if_neg (by omega),if_neg (by omega),if_neg (by omega),if_neg (by omega),if_pos (by omega)];exact RepV.of_row (n:=1) (cap:=1) hbz rfl (Nat.le_refl _) (show 1≤maxLen by decide) rfl (ints_cat _ [4]))
           | exact H.hp.ret (by rw [groupsS,if_neg (by omega),if_neg (by omega),if_neg (by omega),if_neg (by omega),if_neg (by omega),if_pos (by omega)];exact RepV.of_row (n:=1) (cap:=1) hbz rfl (Nat.le_refl _) (show 1≤maxLen by decide) rfl (ints_cat _ [5])))
  intro h16
  try have p16:=dF h16
  refine kP H (SR fun _ K18=>Rc rfl (Ra rfl (Kz K18 ?_)));clear H K18;intro a H;refine c_cond H rfl ?_ ?_
  · intro h19
    try have p19:=dT h19
    refine c_seqR (fun _ K19=>?_);refine s_buildSlice un70prq ty3run [_] [_] H wn rfl rfl rfl rfl rfl (by intro i q h;match i,h with|0,h=>exact h|n+1,h=>simp at h) rfl rfl ?_;clear H;intro b21 a w hb21 H;refine kH H (Ra rfl (Kz K19 ?_));clear H K19;intro a H;refine lr H Tryz.results122 rfl ?_
    first
      | exact H.hp.ret (by rw [groupsS,if_neg (by omega),if_neg (by omega),if_neg (by omega),if_neg (by omega),if_neg (by omega),if_neg (by omega)];exact RepV.nil_ rfl (by decide))
      | (obtain ⟨Gz,hmz,hbz,H⟩:=H.giveBox
         first
           | exact H.hp.ret (by rw [groupsS,if_pos (by omega)];exact RepV.of_row (n:=1) (cap:=1) hbz rfl (Nat.le_refl _) (show 1≤maxLen by decide) rfl (ints_cat _ [1]))
           | exact H.hp.ret (by rw [groupsS,if_neg (by omega),if_pos (by omega)];exact RepV.of_row (n:=2) (cap:=2) hbz rfl (Nat.le_refl _) (show 2≤maxLen by decide) rfl (ints_cat _ [1,2]))
           | exact H.hp.ret (by rw [groupsS,if_neg (by omega),if_neg (by omega),if_pos (by omega)];exact RepV.of_row (n:=1) (cap:=1) hbz rfl (Nat.le_refl _) (show 1≤maxLen by decide) rfl (ints_cat _ [3]))
           | exact H.hp.ret (by rw [groupsS,if_neg (by omega),if_neg (by omega),if_neg (by omega),if_pos (by omega)];exact RepV.of_row (n:=1) (cap:=1) hbz rfl (Nat.le_refl _) (show 1≤maxLen by decide) rfl (ints_cat _ [6]))
           | exact H.hp.ret (by rw [groupsS,if_neg (by omega),if_neg (by omega),if_neg (by omega),if_neg (by omega),if_pos (by omega)];exact RepV.of_row (n:=1) (cap:=1) hbz rfl (Nat.le_refl _) (show 1≤maxLen by decide) rfl (ints_cat _ [4]))
           | exact H.hp.ret (by rw [groupsS,if_neg (by omega),if_neg (by omega),if_neg (by omega),if_neg (by omega),if_neg (by omega),if_pos (by omega)];exact RepV.of_row (n:=1) (cap:=1) hbz rfl (Nat.le_refl _) (show 1≤maxLen by decide) rfl (ints_cat _ [5])))
  intro h19
  try have p19:=dF h19
  refine kP H (SR fun _ K20=>Rc rfl (Ra rfl (Kz K20 ?_)));clear H K20;intro a H;refine c_cond H rfl ?_ ?_
  · intro h22
    try have p22:=dT h22
    refine c_seqR (fun _ K21=>?_);refine s_buildSlice un70prq ty3run [_] [_] H wn rfl rfl rfl rfl rfl (by intro i q h;match i,h with|0,h=>exact h|n+1,h=>simp at h) rfl rfl ?_;clear H;intro b24 a w hb24 H;refine kH H (Ra rfl (Kz K21 ?_));clear H K21;intro a H;refine lr H Tryz.results122 rfl ?_
    first
      | exact H.hp.ret (by rw [groupsS,if_neg (by omega),if_neg (by omega),if_neg (by omega),if_neg (by omega),if_neg (by omega),if_neg (by omega)];exact RepV.nil_ rfl (by decide))
      | (obtain ⟨Gz,hmz,hbz,H⟩:=H.giveBox
         first
           | exact H.hp.ret (by rw [groupsS,if_pos (by omega)];exact RepV.of_row (n:=1) (cap:=1) hbz rfl (Nat.le_refl _) (show 1≤maxLen by decide) rfl (ints_cat _ [1]))
           | exact H.hp.ret (by rw [groupsS,if_neg (by omega),if_pos (by omega)];exact RepV.of_row (n:=2) (cap:=2) hbz rfl (Nat.le_refl _) (show 2≤maxLen by decide) rfl (ints_cat _ [1,2]))
           | exact H.hp.ret (by rw [groupsS,if_neg (by omega),if_neg (by omega),if_pos (by omega)];exact RepV.of_row (n:=1) (cap:=1) hbz rfl (Nat.le_refl _) (show 1≤maxLen by decide) rfl (ints_cat _ [3]))
           | exact H.hp.ret (by rw [groupsS,if_neg (by omega),if_neg (by omega),if_neg (by omega),if_pos (by omega)];exact RepV.of_row (n:=1) (cap:=1) hbz rfl (Nat.le_refl _) (show 1≤maxLen by decide) rfl (ints_cat _ [6]))
           | exact H.hp.ret (by rw [groupsS,if_neg (by omega),if_neg (by omega),if_neg (by omega),if_neg (by omega),if_pos (by omega)];exact RepV.of_row (n:=1) (cap:=1) hbz rfl (Nat.le_refl _) (show 1≤maxLen by decide) rfl (ints_cat _ [4]))
           | exact H.hp.ret (by rw [groupsS,if_neg (by omega),if_neg (by omega),if_neg (by omega),if_neg (by omega),if_neg (by omega),if_pos (by omega)];exact RepV.of_row (n:=1) (cap:=1) hbz rfl (Nat.le_refl _) (show 1≤maxLen by decide) rfl (ints_cat _ [5])))
  intro h22
  try have p22:=dF h22
  refine kP H (Kc K2 (SR fun _ K22=>Ra rfl (Kz K22 ?_)));clear H K2 K22;intro a H;refine lr H Tryz.results122 rfl ?_
  first
    | exact H.hp.ret (by rw [groupsS,if_neg (by omega),if_neg (by omega),if_neg (by omega),if_neg (by omega),if_neg (by omega),if_neg (by omega)];exact RepV.nil_ rfl (by decide))
    | (obtain ⟨Gz,hmz,hbz,H⟩:=H.giveBox
       first
         | exact H.hp.ret (by rw [groupsS,if_pos (by omega)];exact RepV.of_row (n:=1) (cap:=1) hbz rfl (Nat.le_refl _) (show 1≤maxLen by decide) rfl (ints_cat _ [1]))
         | exact H.hp.ret (by rw [groupsS,if_neg (by omega),if_pos (by omega)];exact RepV.of_row (n:=2) (cap:=2) hbz rfl (Nat.le_refl _) (show 2≤maxLen by decide) rfl (ints_cat _ [1,2]))
         | exact H.hp.ret (by rw [groupsS,if_neg (by omega),if_neg (by omega),if_pos (by omega)];exact RepV.of_row (n:=1) (cap:=1) hbz rfl (Nat.le_refl _) (show 1≤maxLen by decide) rfl (ints_cat _ [3]))
         | exact H.hp.ret (by rw [groupsS,if_neg (by omega),if_neg (by omega),if_neg (by omega),if_pos (by omega)];exact RepV.of_row (n:=1) (cap:=1) hbz rfl (Nat.le_refl _) (show 1≤maxLen by decide) rfl (ints_cat _ [6]))
         | exact H.hp.ret (by rw [groupsS,if_neg (by omega),if_neg (by omega),if_neg (by omega),if_neg (by omega),if_pos (by omega)];exact RepV.of_row (n:=1) (cap:=1) hbz rfl (Nat.le_refl _) (show 1≤maxLen by decide) rfl (ints_cat _ [4]))
         | exact H.hp.ret (by rw [groupsS,if_neg (by omega),if_neg (by omega),if_neg (by omega),if_neg (by omega),if_neg (by omega),if_pos (by omega)];exact RepV.of_row (n:=1) (cap:=1) hbz rfl (Nat.le_refl _) (show 1≤maxLen by decide) rfl (ints_cat _ [5])))
/-- Whether a number is in a list. -/
theorem intAt {G:GH} {l:List Int} {A:Option Addr} {n c k:Nat} (hv:RepV G (.sl 1 (l.map fun k=>[li k])) (.slice A n c)) (hk:k < l.length):∃ b o,A=some ⟨b,o,none⟩∧gcell G b (o+k*1)=some (vi l[k]):=by
 obtain ⟨A',c',he,_,_,hg⟩:=hv.slice
 injection he with e1 e2 e3
 subst e1;obtain ⟨b,o,cs,h1,h2,h3,h4⟩:=hg k [li l[k]] (by simp [hk])
 simp only [RepRow,RepV] at h4
 obtain ⟨v1,_,rfl,⟨rfl,-⟩,rfl⟩:=h4;exact ⟨b,o,h1,h3 0 _ rfl⟩
theorem indexInt_spec (G:GH) (w0:World) (hG:Hold G w0) (l:List Int) (t:Int) (v:Value) (hv:RepV G (.sl 1 (l.map fun k=>[li k])) v) :
  Calls Tryz.prog 133 #[v,vi t] w0 (Ret w0 G fun u G'=>u=vi (ixI (l.findIdx? fun x=>decide (t=x)))):=by
 obtain ⟨A,c,rfl,hc1,hc2,-⟩:=hv.slice;have hml:maxLen=9223372036854775807:=rfl;rw [List.length_map] at *;refine eN [(0,_),(1,_)] Tryz.func133 rfl Tryz.ntmps133 rfl rfl hG ?_;intro a H;refine kP H (SR fun _ K1=>Ra rfl (Kz K1 (SQ fun _ K2=>SR fun _ K3=>Rm rfl (Rl un70prq rfl (Rm rfl (Kz K3 (SB ?_)))))));clear H K1 K3;intro a H;skip;refine c_loopS (ι:=Nat) (Tc:=[(0,_),(1,_),(7,_)]) (Lc:=[]) (fun (gh:Nat)=>[(8,vi gh)]) (fun (gh:Nat)=>[]) (fun (gh:Nat)=>G) (fun (gh:Nat)=>gh≤l.length∧(l.take gh).findIdx? (fun x=>decide (t=x))=none) (fun (gh:Nat)=>l.length - gh) (0) (by exact (H).sub ⟨rfl,rfl,rfl,rfl,trivial⟩) ?_ ?_
 ·exact ⟨Nat.zero_le _,rfl⟩
 clear H;intro gh a w hI H;obtain ⟨k,hgh⟩:∃ x,x=gh:=⟨_,rfl⟩;subst hgh;obtain ⟨hk,hno⟩:=hI;dsimp only [List.cons_append,List.nil_append,List.append_nil] at H;refine kP H (SR fun _ K4=>Rc rfl (Kz K4 (SQ fun _ K5=>?_)));clear H K4;intro a H;refine c_cond H rfl ?_ ?_
 ·intro h9
  try have p9:=dT h9
  have hk2:k < l.length:=by omega
  obtain ⟨b,o,rfl,hrow⟩:=intAt hv hk2;refine kP H (Kc K5 (SQ fun _ K6=>SB (SR fun _ K7=>Rm rfl (Ra rfl (Kz K7 (SR fun _ K8=>Rm rfl (Rm rfl (Rm rfl (Ri un70prq ty3run rfl rfl (Rg ty3run rfl (by assumption) ?_))))))))));clear H K5 K7;intro a H;refine kH H (Rc rfl (Kz K8 ?_));clear H K8;intro a H;refine c_cond H rfl ?_ ?_
  ·intro h16
   try have p16:=dT h16
   refine kP H (SR fun _ K9=>Rm rfl (Ra rfl (Kz K9 ?_)));clear H K9;intro a H;refine lr H Tryz.results133 rfl ?_;exact H.hp.ret (by rw [idx_stop hk2 hno (by simpa using p16)];rfl)
  intro h16
  try have p16:=dF h16
  refine kP H (Kc K6 (SC (Rd rfl (Rm rfl ?_))));clear H K6;intro a H;refine wl_nil ?_;refine loop_end ((k+1)) (by exact (H).sub ⟨rfl,rfl,rfl,rfl,trivial⟩) ?_ ?_
  ·exact ⟨by omega,idx_next hk2 hno (by simpa using p16)⟩
  first|omega|(dsimp only;omega)
 intro h9
 try have p9:=dF h9
 refine c_exit ?_;refine K2 _ _ ?_;clear K2;refine kP H (SR fun _ K10=>Ra rfl (Kz K10 ?_));clear H K10;intro a H;refine lr H Tryz.results133 rfl ?_;exact H.hp.ret (by rw [show l.take k=l from List.take_of_length_le (by omega)] at hno;rw [hno];rfl)
theorem containsInt_spec (G:GH) (w0:World) (hG:Hold G w0) (l:List Int) (t:Int) (v:Value) (hv:RepV G (.sl 1 (l.map fun k=>[li k])) v) :
  Calls Tryz.prog 121 #[v,vi t] w0 (Ret w0 G fun u G'=>u=.bool (decide (t∈l))):=by
 obtain ⟨A,c,rfl,hc1,hc2,-⟩:=hv.slice;rw [List.length_map] at *;refine eN [(0,_),(1,_)] Tryz.func121 rfl Tryz.ntmps121 rfl rfl hG ?_;intro a H;refine kP H (SR fun _ K1=>Ra rfl (Kz K1 (SR fun _ K2=>Rm rfl (Rm rfl ?_))));clear H K1;intro a H;refine s_call en133prq H wn rfl (indexInt_spec _ _ H.hp.ro l t _ hv) rfl ?_;clear H;rintro v7 G7 a w rfl hm7 H;refine kH H (Rc rfl (Ra rfl (Kz K2 ?_)));clear H K2;intro a H;refine lr H Tryz.results121 rfl ?_
 exact H.hp.ret (by
  congr 1
  cases h:l.findIdx? (fun x=>decide (t=x)) with
  | none =>
   rw [List.findIdx?_eq_none_iff] at h;have:t∉l:=fun hm=>absurd (h t hm) (by simp)
   simp [ixI,this]
  | some i =>
   obtain ⟨hi,he,-⟩:=List.findIdx?_eq_some_iff_getElem.1 h
   have:t∈l:=by rw [of_decide_eq_true he];exact List.getElem_mem _
   simp [ixI,this])
/-- Whether elements of a kind have a key. -/
def fitsS (e k:Int):Bool:=(findK k).2 && decide ((findK k).1.grp∈groupsS e)
theorem fits_spec (G:GH) (w0:World) (hG:Hold G w0) (e k:Int):Calls Tryz.prog 99 #[vi e,vi k] w0 (Ret w0 G fun u G'=>u=.bool (fitsS e k)):=by
 refine eN [(0,_),(1,_)] Tryz.func99 rfl Tryz.ntmps99 rfl rfl hG ?_;intro a H;refine kP H (SR fun _ K1=>Ra rfl (Kz K1 (SR fun _ K2=>Rm rfl ?_)));clear H K1;intro a H;refine s_call en120prq H wn rfl (find_spec _ _ H.hp.ro k) rfl ?_;clear H;rintro v9 G9 a w rfl hm9 H;dsimp only [KeyD.cells] at H;refine kH H (Rm rfl ?_);clear H;intro a H;(iterate 2 refine s_extract H wn rfl rfl rfl ?_;clear H;intro a H);refine s_alloc ty197prk H wn rfl ?_;clear H;intro b5 a w hb5 H;refine s_store ty197prk 0 (vs:=[_,_,_,_,_,_]) _ H wn rfl rfl rfl rfl rfl rfl rfl rfl ?_;clear H;intro w H;dsimp only [List.set,setRow] at H;refine kH H (Ra rfl (Kz K2 (SQ fun _ K3=>?_)));clear H K2;intro a H
 by_cases c0:(findK k).2=true
 ·skip
  have hprm2:∀ (ix_:Nat) (v:Value) (G G':GH),(∀ k o,G k=some o→G' k=some o)→(fun (ix_:Nat) (v:Value) (G:GH)=>match ix_ with|0=>v=.bool (findK k).2|1=>v=.bool (decide ((findK k).2=true))|2=>v=vi e|3=>(findK k).2=true→RepV G (.sl 1 ((groupsS e).map fun k=>[li k])) v|4=>v=.pointer (some ⟨b5,1,none⟩)|5=>v=vi (findK k).1.grp|6=>v=.bool (decide ((findK k).1.grp∈groupsS e))|7=>v=.bool (fitsS e k)|_=>True) ix_ v G→(fun (ix_:Nat) (v:Value) (G:GH)=>match ix_ with|0=>v=.bool (findK k).2|1=>v=.bool (decide ((findK k).2=true))|2=>v=vi e|3=>(findK k).2=true→RepV G (.sl 1 ((groupsS e).map fun k=>[li k])) v|4=>v=.pointer (some ⟨b5,1,none⟩)|5=>v=vi (findK k).1.grp|6=>v=.bool (decide ((findK k).1.grp∈groupsS e))|7=>v=.bool (fitsS e k)|_=>True) ix_ v G':=by
   intro ix_ v G G' hm h
   match ix_,h with
   | 0,h=>exact h
   | 1,h=>exact h
   | 2,h=>exact h
   | 3,h=>exact fun hf=>(h hf).mono hm
   | 4,h=>exact h
   | 5,h=>exact h
   | 6,h=>exact h
   | 7,h=>exact h
   | 8,h=>exact trivial
   | _+9,h=>exact trivial
  refine c_drawI (hmx) [[],[0],[0,1],[0,1,2],[0,1],[0,1,4],[0,1,2,3,4,5],(List.range 7),(List.range 8)] [8] (by kernel_rfl) (by kernel_rfl) (fun (ix_:Nat) (v:Value) (G:GH)=>match ix_ with|0=>v=.bool (findK k).2|1=>v=.bool (decide ((findK k).2=true))|2=>v=vi e|3=>(findK k).2=true→RepV G (.sl 1 ((groupsS e).map fun k=>[li k])) v|4=>v=.pointer (some ⟨b5,1,none⟩)|5=>v=vi (findK k).1.grp|6=>v=.bool (decide ((findK k).1.grp∈groupsS e))|7=>v=.bool (fitsS e k)|_=>True) hprm2 H ?_ ?_
  ·clear H;refine al4 ?_ ?_ ?_ ?_ (al4 ?_ ?_ ?_ ?_ (allI_cons ?_ allI_nil))
   ·refine opI [] rfl trivial (by kernel_rfl) hprm2 rfl rfl ?_;intro Sd_ a w G1 hG HT H fin;exact kH H (Rm rfl fun _ H=>fin H iJ rfl)
   ·refine opI [(0,12,_)] rfl ⟨fun _ _ h=>h,trivial⟩ (by kernel_rfl) hprm2 rfl rfl ?_;intro Sd_ a w G1 hG HT H fin;refine kH H (Rm rfl ?_);clear H;intro a H;exact fin H iJ (by simp)
   ·refine opI [(1,13,_)] rfl ⟨fun _ _ h=>h,trivial⟩ (by kernel_rfl) hprm2 rfl rfl ?_;intro Sd_ a w G1 hG HT H fin;exact kH H (YM (decide_eq_true c0) rfl fun _ H=>fin H iJ rfl)
   ·refine opI [(2,14,_),(1,13,_)] rfl ⟨fun _ _ h=>h,fun _ _ h=>h,trivial⟩ (by kernel_rfl) hprm2 rfl rfl ?_;intro Sd_ a w G1 hG HT H fin;refine s_call en122prq H (wg H rfl rfl (decide_eq_true c0)) rfl (groups_spec _ _ H.hp.ro e) rfl ?_;clear H;rintro v15 G15 a w hp15 hGm15 H;exact fin H hGm15 (by first|exact fun _=>hp15|rfl)
   ·refine opI [(1,13,_)] rfl ⟨fun _ _ h=>h,trivial⟩ (by kernel_rfl) hprm2 rfl rfl ?_;intro Sd_ a w G1 hG HT H fin;exact kH H (YF fd197_1prq (decide_eq_true c0) rfl fun _ H=>fin H iJ rfl)
   ·refine opI [(4,16,_),(1,13,_)] rfl ⟨fun _ _ h=>h,fun _ _ h=>h,trivial⟩ (by kernel_rfl) hprm2 rfl rfl ?_;intro Sd_ a w G1 hG HT H fin;exact kH H (YO ty3run 0 (decide_eq_true c0) rfl rfl fun _ H=>fin H iJ rfl)
   ·intro Sd_ a w G1 _ hSi hc hG HT hv;have H:=HT;clear hSi;obtain ⟨u15,hu15,hp15⟩:=hv 3 15 (hc 3 (by decide)) rfl;(try dsimp only at hp15);have H:=H.addS hu15;obtain ⟨u17,hu17,hp17⟩:=hv 5 17 (hc 5 (by decide)) rfl;obtain rfl:u17=vi (findK k).1.grp:=hp17;have H:=H.addS hu17;obtain ⟨u13,hu13,hp13⟩:=hv 1 13 (hc 1 (by decide)) rfl;obtain rfl:u13=.bool (decide ((findK k).2=true)):=hp13;have H:=H.addS hu13;have Hb:=H.full;have H:=Hb;clear hc;refine s_call en121prq H (wg H rfl rfl (decide_eq_true c0)) rfl (containsInt_spec _ _ H.hp.ro _ _ _ (hp15 c0)) rfl ?_;clear H;rintro v18 G18 a w rfl hGm18 H;refine wl_nil ⟨rfl,?_⟩;exact draw_val (by kernel_rfl) hprm2 rfl rfl HT Hb hG hv hGm18 (rfl) H
   ·refine opI [(1,13,_),(6,18,_)] rfl ⟨fun _ _ h=>h,fun _ _ h=>h,trivial⟩ (by kernel_rfl) hprm2 rfl rfl ?_;intro Sd_ a w G1 hG HT H fin;refine kH H (Pt (decide_eq_true c0) rfl ?_);clear H;intro a H;exact fin H iJ (by unfold fitsS;simp_all)
   exact opB rfl
  clear H;intro a w G hGm2 H hv;obtain ⟨u19,hu19,hp19⟩:=hv 7 19 (by decide) rfl;obtain rfl:u19=.bool (fitsS e k):=hp19;have H:=H.addS hu19;clear hv;refine kH H (Ra rfl ?_);clear H;intro a H;refine wl_nil ⟨rfl,?_⟩;refine K3 _ _ ?_;clear K3;refine lr H Tryz.results99 rfl ?_;exact H.hp.ret rfl
 skip;refine c_drawI (hmx) [[],[0],[0,1],[0,1,2],[0,1],[0,1,4],[0,1,2,3,4,5],(List.range 7),(List.range 8)] [8] (by kernel_rfl) (by kernel_rfl) (fun (ix_:Nat) (v:Value) (G:GH)=>match ix_ with|0=>v=.bool (findK k).2|1=>v=.bool (decide ((findK k).2=true))|2=>v=undef|3=>v=undef|4=>v=undef|5=>v=undef|6=>v=undef|7=>v=.bool (fitsS e k)|_=>True) (fun _ _ _ _ _ h=>h) H ?_ ?_
 ·clear H;refine al4 ?_ ?_ ?_ ?_ (al4 ?_ ?_ ?_ ?_ (allI_cons ?_ allI_nil))
  ·exact Z0 rfl rfl fun _ _ _ _ _=>Rm rfl
  ·refine Op1 0 12 rfl rfl fun _ a w G1 hG HT H fin=>?_;refine kH H (Rm rfl ?_);clear H;intro a H;exact fin H iJ (by simp)
  ·exact skI 1 (decide_eq_false c0) rfl rfl
  ·intro Sd_ a w G1 _ hSi hc hG HT hv;have H:=HT;clear hSi;obtain ⟨u14,hu14,hp14⟩:=hv 2 14 (hc 2 (by decide)) rfl;obtain rfl:u14=undef:=hp14;have H:=H.addS hu14;obtain ⟨u13,hu13,hp13⟩:=hv 1 13 (hc 1 (by decide)) rfl;obtain rfl:u13=.bool (decide ((findK k).2=true)):=hp13;have H:=H.addS hu13;have Hb:=H.full;have H:=Hb;clear hc;refine kH H (Ks (decide_eq_false c0) rfl ?_);clear H;intro a H;refine wl_nil ⟨rfl,?_⟩;exact draw_val (by kernel_rfl) (fun _ _ _ _ _ h=>h) rfl rfl HT Hb hG hv (fun _ _ h=>h) (by first|exact fun _=>hp15|rfl) H
  ·exact skI 1 (decide_eq_false c0) rfl rfl
  ·exact skI 1 (decide_eq_false c0) rfl rfl
  ·exact skI 1 (decide_eq_false c0) rfl rfl
  ·refine Op2 1 13 6 18 rfl rfl fun _ a w G1 hG HT H fin=>?_;refine kH H (Pf (decide_eq_false c0) rfl ?_);clear H;intro a H;exact fin H iJ (by unfold fitsS;simp_all)
  exact opB rfl
 clear H;intro a w G hGm2 H hv;obtain ⟨u19,hu19,hp19⟩:=hv 7 19 (by decide) rfl;obtain rfl:u19=.bool (fitsS e k):=hp19;have H:=H.addS hu19;clear hv;refine kH H (Ra rfl ?_);clear H;intro a H;refine wl_nil ⟨rfl,?_⟩;refine K3 _ _ ?_;clear K3;refine lr H Tryz.results99 rfl ?_;exact H.hp.ret rfl
/-- The error of a value of a key. -/
def chkVS (k v:Int):Int:=if (findK k).2=false then 4 else if v < (findK k).1.low∨(findK k).1.high < v then 5 else 0
theorem checkValue_spec (G:GH) (w0:World) (hG:Hold G w0) (k x:Int):Calls Tryz.prog 100 #[vi k,vi x] w0 (Ret w0 G fun u G'=>u=vi (chkVS k x)):=by
 refine eN [(0,_),(1,_)] Tryz.func100 rfl Tryz.ntmps100 rfl rfl hG ?_;intro a H;refine kP H (SR fun _ K1=>Ra rfl (Kz K1 (SR fun _ K2=>Rm rfl ?_)));clear H K1;intro a H;refine s_call en120prq H wn rfl (find_spec _ _ H.hp.ro k) rfl ?_;clear H;rintro v9 G9 a w rfl hm9 H;dsimp only [KeyD.cells] at H;refine kH H (Rm rfl ?_);clear H;intro a H;(iterate 2 refine s_extract H wn rfl rfl rfl ?_;clear H;intro a H);refine s_alloc ty197prk H wn rfl ?_;clear H;intro b5 a w hb5 H;refine s_store ty197prk 0 (vs:=[_,_,_,_,_,_]) _ H wn rfl rfl rfl rfl rfl rfl rfl rfl ?_;clear H;intro w H;dsimp only [List.set,setRow] at H;refine kH H (Ra rfl (Kz K2 (SQ fun _ K3=>SB (SR fun _ K4=>Rm rfl (Rn rfl (Ra rfl (Kz K4 ?_)))))));clear H K2 K4;intro a H;refine c_cond H rfl ?_ ?_
 ·intro h12
  try have p12:=dT h12
  refine kP H (SR fun _ K5=>Ra rfl (Kz K5 ?_));clear H K5;intro a H;refine lr H Tryz.results100 rfl ?_;exact H.hp.ret (by unfold chkVS;simp_all)
 intro h12
 try have p12:=dF h12
 refine kP H (SR fun _ K6=>Rm rfl (Rf fd197_2prq rfl (Ro ty3run 0 rfl rfl (Rc rfl (Rm rfl ?_)))));clear H;intro a H;refine s_split H 20 rfl ?_ ?_
 ·intro h20
  try have p20:=dT h20
  refine kH H (Ks h20 rfl (Ks h20 rfl (Ks h20 rfl (Ks h20 rfl (Pt h20 rfl (Ra rfl (Kz K6 ?_)))))));clear H K6;intro a H;refine c_cond_t H rfl rfl ?_;refine kP H (SR fun _ K7=>Ra rfl (Kz K7 ?_));clear H K7;intro a H;refine lr H Tryz.results100 rfl ?_;exact H.hp.ret (by unfold chkVS;simp_all)
 intro h20
 try have p20:=dF h20
 refine kH H (YM h20 rfl (YF fd197_3prq h20 rfl (YO ty3run 0 h20 rfl rfl (YC h20 rfl (Pf h20 rfl (Ra rfl (Kz K6 ?_)))))));clear H K6;intro a H;refine c_cond H rfl ?_ ?_
 ·intro h15
  try have p15:=dT h15
  refine kP H (SR fun _ K8=>Ra rfl (Kz K8 ?_));clear H K8;intro a H;refine lr H Tryz.results100 rfl ?_;exact H.hp.ret (by unfold chkVS;simp_all)
 intro h15
 try have p15:=dF h15
 refine kP H (Kc K3 (SR fun _ K9=>Ra rfl (Kz K9 ?_)));clear H K3 K9;intro a H;refine lr H Tryz.results100 rfl ?_;exact H.hp.ret (by unfold chkVS;simp_all)
end
section
open Go.RowKit
theorem fd147_0prc:Fld Tryz.prog 147 0 0:=⟨by kernel_rfl⟩
theorem en99prc:∀ args w,(callFunc 99 args).run Tryz.prog w=.ok (.enter 99 args) w:=enters Tryz.func99 rfl (by kernel_rfl)
theorem fd147_1prc:Fld Tryz.prog 147 1 1:=⟨by kernel_rfl⟩
theorem en100prc:∀ args w,(callFunc 100 args).run Tryz.prog w=.ok (.enter 100 args) w:=enters Tryz.func100 rfl (by kernel_rfl)
def ltB (q:Option Int) (k:Int):Bool:=match q with|some j=>decide (k < j)|none=>false
/-- The first error of the properties of an element behind a key. -/
def chkP (e:Int):Option Int→List PropD→Int
 | _,[]=>0
 | q,p :: r=>if fitsS e p.key=false then 4 else if q=some p.key then 7 else if ltB q p.key=true then 6 else if chkVS p.key p.value=0 then chkP e (some p.key) r else chkVS p.key p.value
def prevP (l:List PropD) (k:Nat):Option Int:=if k=0 then none else l[k - 1]?.map PropD.key
def chkPS (e:Int) (l:List PropD):Int:=if e < 1∨10 < e then 3 else chkP e none l
theorem chkP_at {e:Int} {l:List PropD} {k:Nat} (h:k < l.length):chkP e (prevP l k) (l.drop k)=if fitsS e l[k].key=false then 4 else if prevP l k=some l[k].key then 7 else if ltB (prevP l k) l[k].key=true then 6 else if chkVS l[k].key l[k].value=0 then chkP e (prevP l (k+1)) (l.drop (k+1)) else chkVS l[k].key l[k].value:=by
 rw [List.drop_eq_getElem_cons h,chkP]
 have:prevP l (k+1)=some l[k].key:=by rw [prevP,if_neg (by omega),Nat.add_sub_cancel,List.getElem?_eq_getElem h];rfl
 rw [this]
theorem prevP_0 {l:List PropD} {k:Nat} (h:k=0):prevP l k=none:=if_pos h
theorem propCheck_spec (G:GH) (w0:World) (hG:Hold G w0) (e:Int) (l:List PropD) (v:Value) (hv:RepV G (.sl 2 (l.map PropD.dat)) v) :
  Calls Tryz.prog 69 #[vi e,v] w0 (Ret w0 G fun u G'=>u=vi (chkPS e l)):=by
 obtain ⟨A,c,rfl,hc1,hc2,-⟩:=hv.slice;have hml:maxLen=9223372036854775807:=rfl;rw [List.length_map] at *;refine eN [(0,_),(1,_)] Tryz.func69 rfl Tryz.ntmps69 rfl rfl hG ?_;intro a H;refine kP H (SR fun _ K1=>Ra rfl (Kz K1 (SQ fun _ K2=>SR fun _ K3=>Rm rfl (Rc rfl (Rm rfl ?_)))));clear H K1;intro a H;refine s_split H 10 rfl ?_ ?_
 ·intro h10
  try have p10:=dT h10
  refine kH H (Ks h10 rfl (Ks h10 rfl (Pt h10 rfl (Kz K3 ?_))));clear H K3;intro a H;refine c_cond_t H rfl rfl ?_;refine kP H (SR fun _ K4=>Ra rfl (Kz K4 ?_));clear H K4;intro a H;refine lr H Tryz.results69 rfl ?_
  first
   | exact H.hp.ret (congrArg vi (by rw [if_neg (by simpa using p61)] at heq;rw [chkPS,if_neg (by omega)];exact heq))
   | exact H.hp.ret (congrArg vi (by rw [if_pos (by simpa using h21)] at heq;rw [chkPS,if_neg (by omega)];exact heq))
   | exact H.hp.ret (congrArg vi (by rw [chkPS,if_neg (by omega)];exact heq))
   | exact H.hp.ret (congrArg vi (by rw [chkPS,if_neg (by omega),← heq,show l.drop k=[] from List.drop_of_length_le (by omega)];rfl))
   | exact H.hp.ret (congrArg vi (by rw [chkPS,if_pos (by omega)]))
 intro h10
 try have p10:=dF h10
 refine kH H (YM h10 rfl (YC h10 rfl (Pf h10 rfl (Kz K3 ?_))));clear H K3;intro a H;refine c_cond H rfl ?_ ?_
 ·intro h13
  try have p13:=dT h13
  refine kP H (SR fun _ K5=>Ra rfl (Kz K5 ?_));clear H K5;intro a H;refine lr H Tryz.results69 rfl ?_
  first
   | exact H.hp.ret (congrArg vi (by rw [if_neg (by simpa using p61)] at heq;rw [chkPS,if_neg (by omega)];exact heq))
   | exact H.hp.ret (congrArg vi (by rw [if_pos (by simpa using h21)] at heq;rw [chkPS,if_neg (by omega)];exact heq))
   | exact H.hp.ret (congrArg vi (by rw [chkPS,if_neg (by omega)];exact heq))
   | exact H.hp.ret (congrArg vi (by rw [chkPS,if_neg (by omega),← heq,show l.drop k=[] from List.drop_of_length_le (by omega)];rfl))
   | exact H.hp.ret (congrArg vi (by rw [chkPS,if_pos (by omega)]))
 intro h13
 try have p13:=dF h13
 refine kP H (Kc K2 (SQ fun _ K6=>SR fun _ K7=>Rm rfl (Rl un23run rfl (Rm rfl (Kz K7 (SB ?_))))));clear H K2 K7;intro a H;skip;refine c_loopS (ι:=Nat × GH) (Tc:=[(0,_),(1,_),(14,_),(15,_)]) (Lc:=[]) (fun (gh:Nat × GH)=>[(16,vi gh.1)]) (fun (gh:Nat × GH)=>[]) (fun (gh:Nat × GH)=>gh.2) (fun (gh:Nat × GH)=>gh.1≤l.length∧chkP e (prevP l gh.1) (l.drop gh.1)=chkP e none l∧(∀ b o,G b=some o→gh.2 b=some o)) (fun (gh:Nat × GH)=>l.length - gh.1) ((0,G)) (by exact (H).sub ⟨rfl,rfl,rfl,rfl,rfl,trivial⟩) ?_ ?_
 ·exact ⟨Nat.zero_le _,rfl,fun _ _ h=>h⟩
 clear H;intro gh a w hI H;obtain ⟨k,g⟩:=gh;dsimp only at hI H;obtain ⟨hk,heq,hgm⟩:=hI;dsimp only [List.cons_append,List.nil_append,List.append_nil] at H;refine kP H (SR fun _ K8=>Rc rfl (Kz K8 (SQ fun _ K9=>?_)));clear H K8;intro a H;refine c_cond H rfl ?_ ?_
 ·intro h17
  try have p17:=dT h17
  have hk2:k < l.length:=by omega
  have hvg:=hv.mono hgm;obtain ⟨b,o,rfl,hrow⟩:=prop_at hvg hk2
  obtain ⟨pk,hpk⟩:∃ pk,0 < k→gcell g b (o+(k - 1)*2+0)=some (vi pk)∧prevP l k=some pk:=by
   by_cases h0:0 < k
   ·obtain ⟨b',o',he,hr'⟩:=prop_at hvg (show k - 1 < l.length by omega)
    injection he with he
    injection he with e1 e2 e3
    subst e1;subst e2;exact ⟨_,fun _=>⟨hr' 0 _ rfl,by rw [prevP,if_neg (by omega),List.getElem?_eq_getElem (by omega)];rfl⟩⟩
   exact ⟨0,fun h=>absurd h h0⟩
  rw [chkP_at hk2] at heq;have heq0:=heq;refine kP H (Kc K9 (SQ fun _ K10=>SB (SR fun _ K11=>Rm rfl (Ri un23run ty147run rfl rfl ?_))));clear H K9;intro a H;refine s_loada ty147run (cs:=[_,_]) H wn rfl rfl (fun j v hj=>H.hp.gcell (hrow j v hj)) rfl ?_;clear H;intro a H;refine s_alloc ty147run H wn rfl ?_;clear H;intro b6 a w hb6 H;refine kH H (Ra rfl ?_);clear H;intro a H;refine s_store ty147run 0 (vs:=[_,_]) _ H wn rfl rfl rfl rfl rfl rfl rfl rfl ?_;clear H;intro w H;dsimp only [List.set,setRow] at H;refine K11 _ _ ?_;clear K11;refine c_seqJ (ι:=GH) (Tc:=[(0,_),(1,_),(6,_),(14,_),(15,_),(16,_)]) (Lc:=[(_,_)]) (fun (gh:GH)=>[]) (fun (gh:GH)=>[]) (fun (gh:GH)=>gh) (fun (gh:GH)=>(if chkVS l[k].key l[k].value=0 then chkP e (prevP l (k+1)) (l.drop (k+1)) else chkVS l[k].key l[k].value)=chkP e none l∧(∀ b o,g b=some o→gh b=some o)) (by exact (H).sub ⟨rfl,rfl,rfl,rfl,rfl,rfl,trivial⟩) ?_ ?_
  ·skip;refine kP H (SB (SR fun _ K12=>Rm rfl (Rf fd147_0prc rfl (Ro ty3run 0 rfl rfl ?_))));clear H;intro a H;refine s_call en99prc H wn rfl (fits_spec _ _ H.hp.ro e l[k].key) rfl ?_;clear H;rintro v25 G25 a w rfl hm25 H;replace hrow:=fun j u hj=>gcell_mono hm25 (hrow j u hj);refine kH H (Rn rfl (Ra rfl (Kz K12 ?_)));clear H K12;intro a H;refine c_cond H rfl ?_ ?_
   ·intro h21
    try have p21:=dT h21
    refine kP H (SR fun _ K13=>Ra rfl (Kz K13 ?_));clear H K13;intro a H;refine lr H Tryz.results69 rfl ?_
    first
     | exact H.hp.ret (congrArg vi (by rw [if_neg (by simpa using p61)] at heq;rw [chkPS,if_neg (by omega)];exact heq))
     | exact H.hp.ret (congrArg vi (by rw [if_pos (by simpa using h21)] at heq;rw [chkPS,if_neg (by omega)];exact heq))
     | exact H.hp.ret (congrArg vi (by rw [chkPS,if_neg (by omega)];exact heq))
     | exact H.hp.ret (congrArg vi (by rw [chkPS,if_neg (by omega),← heq,show l.drop k=[] from List.drop_of_length_le (by omega)];rfl))
     | exact H.hp.ret (congrArg vi (by rw [chkPS,if_pos (by omega)]))
   intro h21
   try have p21:=dF h21
   rw [if_neg (by simpa using h21)] at heq;refine c_seq (fun _ K14=>?_)
   by_cases c0:0 < (k:Int)
   ·skip
    by_cases c1:l[k].key=pk
    ·skip;refine c_drawI (hmx) [[],[0],[0,1],[0,1,2],[0,1,2,3],[0,1,2],[0,1,2],[0,1,2,6],[0,1,2,5,6,7],[0,1,2,5,6,7,8],[0,1,2,5,6,7,8,9],(List.range 11),(List.range 12),(List.range 13)] [13] (by kernel_rfl) (by kernel_rfl) (fun (ix_:Nat) (v:Value) (G:GH)=>match ix_ with|0=>v=vi k|1=>v=.bool (decide (0 < (k:Int)))|2=>v=.bool (decide (0 < (k:Int)))|3=>v=.pointer (some ⟨b6,0,none⟩)|4=>v=vi l[k].key|5=>v=.slice (some ⟨b,o,none⟩) l.length c|6=>v=vi k|7=>v=vi ((k - 1:Nat):Int)|8=>v=.pointer (some ⟨b,o+(k - 1)*2,none⟩)|9=>v=.pointer (some ⟨b,o+(k - 1)*2+0,none⟩)|10=>v=vi pk|11=>v=.bool (decide (l[k].key=pk))|12=>v=.bool (decide (l[k].key=pk))|_=>True) (fun _ _ _ _ _ h=>h) H ?_ ?_
     ·clear H;refine al4 ?_ ?_ ?_ ?_ (al4 ?_ ?_ ?_ ?_ (al4 ?_ ?_ ?_ ?_ (allI_cons ?_ (allI_cons ?_ allI_nil))))
      ·exact Z0 rfl rfl fun _ _ _ _ _=>Rm rfl
      ·exact Z1 0 28 rfl rfl fun _ _ _ _ _=>Rc rfl
      ·exact Z1 1 29 rfl rfl fun _ _ _ _ _=>Rm rfl
      ·exact Op1 2 30 rfl rfl fun _ _ _ _ hG _ H fin=>kH H (YF fd147_0prc (decide_eq_true c0) rfl fun _ H=>fin H iJ rfl)
      ·exact Op2 3 31 2 30 rfl rfl fun _ _ _ _ hG _ H fin=>kH H (YO ty3run 0 (decide_eq_true c0) rfl rfl fun _ H=>fin H iJ rfl)
      ·exact Op1 2 30 rfl rfl fun _ _ _ _ hG _ H fin=>kH H (YM (decide_eq_true c0) rfl fun _ H=>fin H iJ rfl)
      ·exact Op1 2 30 rfl rfl fun _ _ _ _ hG _ H fin=>kH H (YM (decide_eq_true c0) rfl fun _ H=>fin H iJ rfl)
      ·refine Op2 6 34 2 30 rfl rfl fun _ a w G1 hG HT H fin=>?_;refine s_sub _ H (wg H rfl rfl (decide_eq_true c0)) rfl rfl rfl (by omega) (by omega) rfl ?_;clear H;intro a H;exact fin H iJ (by first|rfl|exact congrArg vi (by omega))
      ·exact Op3 5 33 7 35 2 30 rfl rfl fun _ _ _ _ hG _ H fin=>kH H (YI un23run ty147run (decide_eq_true c0) rfl rfl fun _ H=>fin H iJ rfl)
      ·exact Op2 8 36 2 30 rfl rfl fun _ _ _ _ hG _ H fin=>kH H (YF fd147_0prc (decide_eq_true c0) rfl fun _ H=>fin H iJ rfl)
      ·exact Op2 9 37 2 30 rfl rfl fun _ _ _ _ hG _ H fin=>kH H (YR ty3run (decide_eq_true c0) rfl (gcell_mono hG (gcell_mono hm25 (hpk (by omega)).1)) fun _ H=>fin H iJ rfl)
      ·exact Op3 4 32 10 38 2 30 rfl rfl fun _ _ _ _ hG _ H fin=>kH H (YC (decide_eq_true c0) rfl fun _ H=>fin H iJ rfl)
      ·exact Op2 2 30 11 39 rfl rfl fun _ _ _ _ hG _ H fin=>kH H (Pt (decide_eq_true c0) rfl fun _ H=>fin H iJ rfl)
      exact opB rfl
     clear H;intro a w G hGm8 H hv;obtain ⟨u40,hu40,hp40⟩:=hv 12 40 (by decide) rfl;obtain rfl:u40=.bool (decide (l[k].key=pk)):=hp40;have H:=H.addS hu40;clear hv;refine kH H (Ra rfl ?_);clear H;intro a H;refine wl_nil ⟨rfl,?_⟩;refine K14 _ _ ?_;clear K14;refine c_cond_t H rfl (decide_eq_true c1) ?_;refine c_seq (fun _ K15=>?_);rw [if_pos (by rw [(hpk (by omega)).2,c1])] at heq;refine kP H (SC (Ra rfl (Kn K15 ?_)));clear H K15;intro a H;refine lr H Tryz.results69 rfl ?_
     first
      | exact H.hp.ret (congrArg vi (by rw [if_neg (by simpa using p61)] at heq;rw [chkPS,if_neg (by omega)];exact heq))
      | exact H.hp.ret (congrArg vi (by rw [if_pos (by simpa using h21)] at heq;rw [chkPS,if_neg (by omega)];exact heq))
      | exact H.hp.ret (congrArg vi (by rw [chkPS,if_neg (by omega)];exact heq))
      | exact H.hp.ret (congrArg vi (by rw [chkPS,if_neg (by omega),← heq,show l.drop k=[] from List.drop_of_length_le (by omega)];rfl))
      | exact H.hp.ret (congrArg vi (by rw [chkPS,if_pos (by omega)]))
    skip;refine c_drawI (hmx) [[],[0],[0,1],[0,1,2],[0,1,2,3],[0,1,2],[0,1,2],[0,1,2,6],[0,1,2,5,6,7],[0,1,2,5,6,7,8],[0,1,2,5,6,7,8,9],(List.range 11),(List.range 12),(List.range 13)] [13] (by kernel_rfl) (by kernel_rfl) (fun (ix_:Nat) (v:Value) (G:GH)=>match ix_ with|0=>v=vi k|1=>v=.bool (decide (0 < (k:Int)))|2=>v=.bool (decide (0 < (k:Int)))|3=>v=.pointer (some ⟨b6,0,none⟩)|4=>v=vi l[k].key|5=>v=.slice (some ⟨b,o,none⟩) l.length c|6=>v=vi k|7=>v=vi ((k - 1:Nat):Int)|8=>v=.pointer (some ⟨b,o+(k - 1)*2,none⟩)|9=>v=.pointer (some ⟨b,o+(k - 1)*2+0,none⟩)|10=>v=vi pk|11=>v=.bool (decide (l[k].key=pk))|12=>v=.bool (decide (l[k].key=pk))|_=>True) (fun _ _ _ _ _ h=>h) H ?_ ?_
    ·clear H;refine al4 ?_ ?_ ?_ ?_ (al4 ?_ ?_ ?_ ?_ (al4 ?_ ?_ ?_ ?_ (allI_cons ?_ (allI_cons ?_ allI_nil))))
     ·exact Z0 rfl rfl fun _ _ _ _ _=>Rm rfl
     ·exact Z1 0 28 rfl rfl fun _ _ _ _ _=>Rc rfl
     ·exact Z1 1 29 rfl rfl fun _ _ _ _ _=>Rm rfl
     ·exact Op1 2 30 rfl rfl fun _ _ _ _ hG _ H fin=>kH H (YF fd147_0prc (decide_eq_true c0) rfl fun _ H=>fin H iJ rfl)
     ·exact Op2 3 31 2 30 rfl rfl fun _ _ _ _ hG _ H fin=>kH H (YO ty3run 0 (decide_eq_true c0) rfl rfl fun _ H=>fin H iJ rfl)
     ·exact Op1 2 30 rfl rfl fun _ _ _ _ hG _ H fin=>kH H (YM (decide_eq_true c0) rfl fun _ H=>fin H iJ rfl)
     ·exact Op1 2 30 rfl rfl fun _ _ _ _ hG _ H fin=>kH H (YM (decide_eq_true c0) rfl fun _ H=>fin H iJ rfl)
     ·refine Op2 6 34 2 30 rfl rfl fun _ a w G1 hG HT H fin=>?_;refine s_sub _ H (wg H rfl rfl (decide_eq_true c0)) rfl rfl rfl (by omega) (by omega) rfl ?_;clear H;intro a H;exact fin H iJ (by first|rfl|exact congrArg vi (by omega))
     ·exact Op3 5 33 7 35 2 30 rfl rfl fun _ _ _ _ hG _ H fin=>kH H (YI un23run ty147run (decide_eq_true c0) rfl rfl fun _ H=>fin H iJ rfl)
     ·exact Op2 8 36 2 30 rfl rfl fun _ _ _ _ hG _ H fin=>kH H (YF fd147_0prc (decide_eq_true c0) rfl fun _ H=>fin H iJ rfl)
     ·exact Op2 9 37 2 30 rfl rfl fun _ _ _ _ hG _ H fin=>kH H (YR ty3run (decide_eq_true c0) rfl (gcell_mono hG (gcell_mono hm25 (hpk (by omega)).1)) fun _ H=>fin H iJ rfl)
     ·exact Op3 4 32 10 38 2 30 rfl rfl fun _ _ _ _ hG _ H fin=>kH H (YC (decide_eq_true c0) rfl fun _ H=>fin H iJ rfl)
     ·exact Op2 2 30 11 39 rfl rfl fun _ _ _ _ hG _ H fin=>kH H (Pt (decide_eq_true c0) rfl fun _ H=>fin H iJ rfl)
     exact opB rfl
    clear H;intro a w G hGm8 H hv;obtain ⟨u40,hu40,hp40⟩:=hv 12 40 (by decide) rfl;obtain rfl:u40=.bool (decide (l[k].key=pk)):=hp40;have H:=H.addS hu40;clear hv;refine kH H (Ra rfl ?_);clear H;intro a H;refine wl_nil ⟨rfl,?_⟩;refine K14 _ _ ?_;clear K14;refine c_cond_f H rfl (decide_eq_false c1) ?_;refine c_seq (fun _ K16=>?_)
    have q1:¬ (0 < (k:Int)∧l[k].key=pk):=by first|exact fun h=>c1 h.2|exact fun h=>c0 h.1
    rw [if_neg (fun h=>q1 (by
     by_cases h0:0 < k
     ·rw [(hpk h0).2] at h
      injection h with h
      exact ⟨by omega,h.symm⟩
     rw [prevP_0 (by omega)] at h
     cases h))] at heq
    by_cases c3:l[k].key < pk
    ·skip;refine c_drawI (hmx) [[],[0],[0,1],[0,1,2],[0,1,2,3],[0,1,2],[0,1,2],[0,1,2,6],[0,1,2,5,6,7],[0,1,2,5,6,7,8],[0,1,2,5,6,7,8,9],(List.range 11),(List.range 12),(List.range 13)] [13] (by kernel_rfl) (by kernel_rfl) (fun (ix_:Nat) (v:Value) (G:GH)=>match ix_ with|0=>v=vi k|1=>v=.bool (decide (0 < (k:Int)))|2=>v=.bool (decide (0 < (k:Int)))|3=>v=.pointer (some ⟨b6,0,none⟩)|4=>v=vi l[k].key|5=>v=.slice (some ⟨b,o,none⟩) l.length c|6=>v=vi k|7=>v=vi ((k - 1:Nat):Int)|8=>v=.pointer (some ⟨b,o+(k - 1)*2,none⟩)|9=>v=.pointer (some ⟨b,o+(k - 1)*2+0,none⟩)|10=>v=vi pk|11=>v=.bool (decide (l[k].key < pk))|12=>v=.bool (decide (l[k].key < pk))|_=>True) (fun _ _ _ _ _ h=>h) H ?_ ?_
     ·clear H;refine al4 ?_ ?_ ?_ ?_ (al4 ?_ ?_ ?_ ?_ (al4 ?_ ?_ ?_ ?_ (allI_cons ?_ (allI_cons ?_ allI_nil))))
      ·exact Z0 rfl rfl fun _ _ _ _ _=>Rm rfl
      ·exact Z1 0 42 rfl rfl fun _ _ _ _ _=>Rc rfl
      ·exact Z1 1 43 rfl rfl fun _ _ _ _ _=>Rm rfl
      ·exact Op1 2 44 rfl rfl fun _ _ _ _ hG _ H fin=>kH H (YF fd147_0prc (decide_eq_true c0) rfl fun _ H=>fin H iJ rfl)
      ·exact Op2 3 45 2 44 rfl rfl fun _ _ _ _ hG _ H fin=>kH H (YO ty3run 0 (decide_eq_true c0) rfl rfl fun _ H=>fin H iJ rfl)
      ·exact Op1 2 44 rfl rfl fun _ _ _ _ hG _ H fin=>kH H (YM (decide_eq_true c0) rfl fun _ H=>fin H iJ rfl)
      ·exact Op1 2 44 rfl rfl fun _ _ _ _ hG _ H fin=>kH H (YM (decide_eq_true c0) rfl fun _ H=>fin H iJ rfl)
      ·refine Op2 6 48 2 44 rfl rfl fun _ a w G1 hG HT H fin=>?_;refine s_sub _ H (wg H rfl rfl (decide_eq_true c0)) rfl rfl rfl (by omega) (by omega) rfl ?_;clear H;intro a H;exact fin H iJ (by first|rfl|exact congrArg vi (by omega))
      ·exact Op3 5 47 7 49 2 44 rfl rfl fun _ _ _ _ hG _ H fin=>kH H (YI un23run ty147run (decide_eq_true c0) rfl rfl fun _ H=>fin H iJ rfl)
      ·exact Op2 8 50 2 44 rfl rfl fun _ _ _ _ hG _ H fin=>kH H (YF fd147_0prc (decide_eq_true c0) rfl fun _ H=>fin H iJ rfl)
      ·refine Op2 9 51 2 44 rfl rfl fun _ a w G1 hG HT H fin=>?_;refine s_load ty3run H (wg H rfl rfl (decide_eq_true c0)) rfl (H.hp.gcell (gcell_mono hG (gcell_mono hGm8 (gcell_mono hm25 (hpk (by omega)).1)))) rfl ?_;clear H;intro a H;exact fin H iJ rfl
      ·exact Op3 4 46 10 52 2 44 rfl rfl fun _ _ _ _ hG _ H fin=>kH H (YC (decide_eq_true c0) rfl fun _ H=>fin H iJ rfl)
      ·exact Op2 2 44 11 53 rfl rfl fun _ _ _ _ hG _ H fin=>kH H (Pt (decide_eq_true c0) rfl fun _ H=>fin H iJ rfl)
      exact opB rfl
     clear H;intro a w G hGm10 H hv;obtain ⟨u54,hu54,hp54⟩:=hv 12 54 (by decide) rfl;obtain rfl:u54=.bool (decide (l[k].key < pk)):=hp54;have H:=H.addS hu54;clear hv;refine kH H (Ra rfl ?_);clear H;intro a H;refine wl_nil ⟨rfl,?_⟩;refine K16 _ _ ?_;clear K16;refine c_cond_t H rfl (decide_eq_true c3) ?_;refine c_seq (fun _ K17=>?_);rw [if_pos (by rw [(hpk (by omega)).2];exact decide_eq_true c3)] at heq;refine kP H (SC (Ra rfl (Kn K17 ?_)));clear H K17;intro a H;refine lr H Tryz.results69 rfl ?_
     first
      | exact H.hp.ret (congrArg vi (by rw [if_neg (by simpa using p61)] at heq;rw [chkPS,if_neg (by omega)];exact heq))
      | exact H.hp.ret (congrArg vi (by rw [if_pos (by simpa using h21)] at heq;rw [chkPS,if_neg (by omega)];exact heq))
      | exact H.hp.ret (congrArg vi (by rw [chkPS,if_neg (by omega)];exact heq))
      | exact H.hp.ret (congrArg vi (by rw [chkPS,if_neg (by omega),← heq,show l.drop k=[] from List.drop_of_length_le (by omega)];rfl))
      | exact H.hp.ret (congrArg vi (by rw [chkPS,if_pos (by omega)]))
    skip;refine c_drawI (hmx) [[],[0],[0,1],[0,1,2],[0,1,2,3],[0,1,2],[0,1,2],[0,1,2,6],[0,1,2,5,6,7],[0,1,2,5,6,7,8],[0,1,2,5,6,7,8,9],(List.range 11),(List.range 12),(List.range 13)] [13] (by kernel_rfl) (by kernel_rfl) (fun (ix_:Nat) (v:Value) (G:GH)=>match ix_ with|0=>v=vi k|1=>v=.bool (decide (0 < (k:Int)))|2=>v=.bool (decide (0 < (k:Int)))|3=>v=.pointer (some ⟨b6,0,none⟩)|4=>v=vi l[k].key|5=>v=.slice (some ⟨b,o,none⟩) l.length c|6=>v=vi k|7=>v=vi ((k - 1:Nat):Int)|8=>v=.pointer (some ⟨b,o+(k - 1)*2,none⟩)|9=>v=.pointer (some ⟨b,o+(k - 1)*2+0,none⟩)|10=>v=vi pk|11=>v=.bool (decide (l[k].key < pk))|12=>v=.bool (decide (l[k].key < pk))|_=>True) (fun _ _ _ _ _ h=>h) H ?_ ?_
    ·clear H;refine al4 ?_ ?_ ?_ ?_ (al4 ?_ ?_ ?_ ?_ (al4 ?_ ?_ ?_ ?_ (allI_cons ?_ (allI_cons ?_ allI_nil))))
     ·exact Z0 rfl rfl fun _ _ _ _ _=>Rm rfl
     ·exact Z1 0 42 rfl rfl fun _ _ _ _ _=>Rc rfl
     ·exact Z1 1 43 rfl rfl fun _ _ _ _ _=>Rm rfl
     ·exact Op1 2 44 rfl rfl fun _ _ _ _ hG _ H fin=>kH H (YF fd147_0prc (decide_eq_true c0) rfl fun _ H=>fin H iJ rfl)
     ·exact Op2 3 45 2 44 rfl rfl fun _ _ _ _ hG _ H fin=>kH H (YO ty3run 0 (decide_eq_true c0) rfl rfl fun _ H=>fin H iJ rfl)
     ·exact Op1 2 44 rfl rfl fun _ _ _ _ hG _ H fin=>kH H (YM (decide_eq_true c0) rfl fun _ H=>fin H iJ rfl)
     ·exact Op1 2 44 rfl rfl fun _ _ _ _ hG _ H fin=>kH H (YM (decide_eq_true c0) rfl fun _ H=>fin H iJ rfl)
     ·refine Op2 6 48 2 44 rfl rfl fun _ a w G1 hG HT H fin=>?_;refine s_sub _ H (wg H rfl rfl (decide_eq_true c0)) rfl rfl rfl (by omega) (by omega) rfl ?_;clear H;intro a H;exact fin H iJ (by first|rfl|exact congrArg vi (by omega))
     ·exact Op3 5 47 7 49 2 44 rfl rfl fun _ _ _ _ hG _ H fin=>kH H (YI un23run ty147run (decide_eq_true c0) rfl rfl fun _ H=>fin H iJ rfl)
     ·exact Op2 8 50 2 44 rfl rfl fun _ _ _ _ hG _ H fin=>kH H (YF fd147_0prc (decide_eq_true c0) rfl fun _ H=>fin H iJ rfl)
     ·refine Op2 9 51 2 44 rfl rfl fun _ a w G1 hG HT H fin=>?_;refine s_load ty3run H (wg H rfl rfl (decide_eq_true c0)) rfl (H.hp.gcell (gcell_mono hG (gcell_mono hGm8 (gcell_mono hm25 (hpk (by omega)).1)))) rfl ?_;clear H;intro a H;exact fin H iJ rfl
     ·exact Op3 4 46 10 52 2 44 rfl rfl fun _ _ _ _ hG _ H fin=>kH H (YC (decide_eq_true c0) rfl fun _ H=>fin H iJ rfl)
     ·exact Op2 2 44 11 53 rfl rfl fun _ _ _ _ hG _ H fin=>kH H (Pt (decide_eq_true c0) rfl fun _ H=>fin H iJ rfl)
     exact opB rfl
    clear H;intro a w G hGm10 H hv;obtain ⟨u54,hu54,hp54⟩:=hv 12 54 (by decide) rfl;obtain rfl:u54=.bool (decide (l[k].key < pk)):=hp54;have H:=H.addS hu54;clear hv;refine kH H (Ra rfl ?_);clear H;intro a H;refine wl_nil ⟨rfl,?_⟩;refine K16 _ _ ?_;clear K16;refine c_cond_f H rfl (decide_eq_false c3) ?_;refine c_skip ?_;refine ⟨_,by exact (H).sub ⟨rfl,rfl,rfl,rfl,rfl,rfl,trivial⟩,?_⟩
    have q2:¬ (0 < (k:Int)∧l[k].key < pk):=by first|exact fun h=>c3 h.2|exact fun h=>c0 h.1
    rw [if_neg (fun h=>q2 (by
     by_cases h0:0 < k
     ·rw [(hpk h0).2] at h;exact ⟨by omega,of_decide_eq_true h⟩
     rw [prevP_0 (by omega)] at h
     cases h))] at heq
    exact ⟨heq,fun b o h=>hGm10 b o (hGm8 b o (hm25 b o h))⟩
   skip;refine c_drawI (hmx) [[],[0],[0,1],[0,1,2],[0,1,2,3],[0,1,2],[0,1,2],[0,1,2,6],[0,1,2,5,6,7],[0,1,2,5,6,7,8],[0,1,2,5,6,7,8,9],(List.range 11),(List.range 12),(List.range 13)] [13] (by kernel_rfl) (by kernel_rfl) (fun (ix_:Nat) (v:Value) (G:GH)=>match ix_ with|0=>v=vi k|1=>v=.bool (decide (0 < (k:Int)))|2=>v=.bool (decide (0 < (k:Int)))|3=>v=undef|4=>v=undef|5=>v=undef|6=>v=undef|7=>v=undef|8=>v=undef|9=>v=undef|10=>v=undef|11=>v=undef|12=>v=.bool false|_=>True) (fun _ _ _ _ _ h=>h) H ?_ ?_
   ·clear H;refine al4 ?_ ?_ ?_ ?_ (al4 ?_ ?_ ?_ ?_ (al4 ?_ ?_ ?_ ?_ (allI_cons ?_ (allI_cons ?_ allI_nil))))
    ·exact Z0 rfl rfl fun _ _ _ _ _=>Rm rfl
    ·exact Z1 0 28 rfl rfl fun _ _ _ _ _=>Rc rfl
    ·exact Z1 1 29 rfl rfl fun _ _ _ _ _=>Rm rfl
    ·exact skI 2 (decide_eq_false c0) rfl rfl
    ·exact skI 2 (decide_eq_false c0) rfl rfl
    ·exact skI 2 (decide_eq_false c0) rfl rfl
    ·exact skI 2 (decide_eq_false c0) rfl rfl
    ·exact skI 2 (decide_eq_false c0) rfl rfl
    ·exact skI 2 (decide_eq_false c0) rfl rfl
    ·exact skI 2 (decide_eq_false c0) rfl rfl
    ·exact skI 2 (decide_eq_false c0) rfl rfl
    ·exact skI 2 (decide_eq_false c0) rfl rfl
    ·exact Op2 2 30 11 39 rfl rfl fun _ _ _ _ hG _ H fin=>kH H (Pf (decide_eq_false c0) rfl fun _ H=>fin H iJ rfl)
    exact opB rfl
   clear H;intro a w G hGm8 H hv;obtain ⟨u40,hu40,hp40⟩:=hv 12 40 (by decide) rfl;obtain rfl:u40=.bool false:=hp40;have H:=H.addS hu40;clear hv;refine kH H (Ra rfl ?_);clear H;intro a H;refine wl_nil ⟨rfl,?_⟩;refine K14 _ _ ?_;clear K14;refine c_cond_f H rfl rfl ?_;refine c_seq (fun _ K18=>?_)
   have q1:¬ (0 < (k:Int)∧l[k].key=pk):=by first|exact fun h=>c1 h.2|exact fun h=>c0 h.1
   rw [if_neg (fun h=>q1 (by
    by_cases h0:0 < k
    ·rw [(hpk h0).2] at h
     injection h with h
     exact ⟨by omega,h.symm⟩
    rw [prevP_0 (by omega)] at h
    cases h))] at heq
   refine c_drawI (hmx) [[],[0],[0,1],[0,1,2],[0,1,2,3],[0,1,2],[0,1,2],[0,1,2,6],[0,1,2,5,6,7],[0,1,2,5,6,7,8],[0,1,2,5,6,7,8,9],(List.range 11),(List.range 12),(List.range 13)] [13] (by kernel_rfl) (by kernel_rfl) (fun (ix_:Nat) (v:Value) (G:GH)=>match ix_ with|0=>v=vi k|1=>v=.bool (decide (0 < (k:Int)))|2=>v=.bool (decide (0 < (k:Int)))|3=>v=undef|4=>v=undef|5=>v=undef|6=>v=undef|7=>v=undef|8=>v=undef|9=>v=undef|10=>v=undef|11=>v=undef|12=>v=.bool false|_=>True) (fun _ _ _ _ _ h=>h) H ?_ ?_
   ·clear H;refine al4 ?_ ?_ ?_ ?_ (al4 ?_ ?_ ?_ ?_ (al4 ?_ ?_ ?_ ?_ (allI_cons ?_ (allI_cons ?_ allI_nil))))
    ·exact Z0 rfl rfl fun _ _ _ _ _=>Rm rfl
    ·exact Z1 0 42 rfl rfl fun _ _ _ _ _=>Rc rfl
    ·exact Z1 1 43 rfl rfl fun _ _ _ _ _=>Rm rfl
    ·exact skI 2 (decide_eq_false c0) rfl rfl
    ·exact skI 2 (decide_eq_false c0) rfl rfl
    ·exact skI 2 (decide_eq_false c0) rfl rfl
    ·exact skI 2 (decide_eq_false c0) rfl rfl
    ·exact skI 2 (decide_eq_false c0) rfl rfl
    ·exact skI 2 (decide_eq_false c0) rfl rfl
    ·exact skI 2 (decide_eq_false c0) rfl rfl
    ·exact skI 2 (decide_eq_false c0) rfl rfl
    ·exact skI 2 (decide_eq_false c0) rfl rfl
    ·exact Op2 2 44 11 53 rfl rfl fun _ _ _ _ hG _ H fin=>kH H (Pf (decide_eq_false c0) rfl fun _ H=>fin H iJ rfl)
    exact opB rfl
   clear H;intro a w G hGm10 H hv;obtain ⟨u54,hu54,hp54⟩:=hv 12 54 (by decide) rfl;obtain rfl:u54=.bool false:=hp54;have H:=H.addS hu54;clear hv;refine kH H (Ra rfl ?_);clear H;intro a H;refine wl_nil ⟨rfl,?_⟩;refine K18 _ _ ?_;clear K18;refine c_cond_f H rfl rfl ?_;refine c_skip ?_;refine ⟨_,by exact (H).sub ⟨rfl,rfl,rfl,rfl,rfl,rfl,trivial⟩,?_⟩
   have q2:¬ (0 < (k:Int)∧l[k].key < pk):=by first|exact fun h=>c3 h.2|exact fun h=>c0 h.1
   rw [if_neg (fun h=>q2 (by
    by_cases h0:0 < k
    ·rw [(hpk h0).2] at h;exact ⟨by omega,of_decide_eq_true h⟩
    rw [prevP_0 (by omega)] at h
    cases h))] at heq
   exact ⟨heq,fun b o h=>hGm10 b o (hGm8 b o (hm25 b o h))⟩
  clear H;intro gh a w hI H;obtain ⟨g2,hgh⟩:∃ x,x=gh:=⟨_,rfl⟩;subst hgh;obtain ⟨heq,hgm2⟩:=hI;replace hrow:=fun j u hj=>gcell_mono hgm2 (hrow j u hj);dsimp only [List.cons_append,List.nil_append,List.append_nil] at H;refine kP H (SR fun _ K19=>Rf fd147_0prc rfl (Ro ty3run 0 rfl rfl (Rf fd147_1prc rfl (Ro ty3run 0 rfl rfl ?_))));clear H;intro a H;refine s_call en100prc H wn rfl (checkValue_spec _ _ H.hp.ro l[k].key l[k].value) rfl ?_;clear H;rintro v59 G59 a w rfl hm59 H;refine kH H (Ra rfl (Kz K19 (SR fun _ K20=>Rm rfl (Rc rfl (Kz K20 ?_)))));clear H K19 K20;intro a H;refine c_cond H rfl ?_ ?_
  ·intro h61
   try have p61:=dT h61
   refine kP H (SR fun _ K21=>Rm rfl (Ra rfl (Kz K21 ?_)));clear H K21;intro a H;refine lr H Tryz.results69 rfl ?_
   first
    | exact H.hp.ret (congrArg vi (by rw [if_neg (by simpa using p61)] at heq;rw [chkPS,if_neg (by omega)];exact heq))
    | exact H.hp.ret (congrArg vi (by rw [if_pos (by simpa using h21)] at heq;rw [chkPS,if_neg (by omega)];exact heq))
    | exact H.hp.ret (congrArg vi (by rw [chkPS,if_neg (by omega)];exact heq))
    | exact H.hp.ret (congrArg vi (by rw [chkPS,if_neg (by omega),← heq,show l.drop k=[] from List.drop_of_length_le (by omega)];rfl))
    | exact H.hp.ret (congrArg vi (by rw [chkPS,if_pos (by omega)]))
  intro h61
  try have p61:=dF h61
  refine kP H (Kc K10 (SC (Rd rfl (Rm rfl ?_))));clear H K10;intro a H;refine wl_nil ?_;refine loop_end ((k+1,G59)) (by exact (H.pickT (Pl:=[_]) (Pl':=[]) [] (by decide) rfl).sub ⟨rfl,rfl,rfl,rfl,rfl,trivial⟩) ?_ ?_
  ·(try dsimp only);exact ⟨by omega,by rw [if_pos (by simpa using p61)] at heq;exact heq,fun b o h=>hm59 b o (hgm2 b o (hgm b o h))⟩
  first|omega|(dsimp only;omega)
 intro h17
 try have p17:=dF h17
 refine c_exit ?_;refine K6 _ _ ?_;clear K6;refine kP H (SR fun _ K22=>Ra rfl (Kz K22 ?_));clear H K22;intro a H;refine lr H Tryz.results69 rfl ?_
 first
  | exact H.hp.ret (congrArg vi (by rw [if_neg (by simpa using p61)] at heq;rw [chkPS,if_neg (by omega)];exact heq))
  | exact H.hp.ret (congrArg vi (by rw [if_pos (by simpa using h21)] at heq;rw [chkPS,if_neg (by omega)];exact heq))
  | exact H.hp.ret (congrArg vi (by rw [chkPS,if_neg (by omega)];exact heq))
  | exact H.hp.ret (congrArg vi (by rw [chkPS,if_neg (by omega),← heq,show l.drop k=[] from List.drop_of_length_le (by omega)];rfl))
  | exact H.hp.ret (congrArg vi (by rw [chkPS,if_pos (by omega)]))
end
section
open Go.RowKit
theorem un127fst:Tryz.prog.underlying 127=some (.slice 46):=by kernel_rfl
theorem en68fst:∀ args w,(callFunc 68 args).run Tryz.prog w=.ok (.enter 68 args) w:=enters Tryz.func68 rfl (by kernel_rfl)
theorem in_spec (G:GH) (w0:World) (hG:Hold G w0) (n l h:Int):Calls Tryz.prog 68 #[vi n,vi l,vi h] w0 (Ret w0 G fun u G'=>u=.bool (decide (l≤n∧n≤h))∧G=G'):=by
 refine eN [(0,_),(1,_),(2,_)] Tryz.func68 rfl Tryz.ntmps68 rfl rfl hG ?_;intro a H;refine kP H (SR fun _ K1=>Ra rfl (Kz K1 (SR fun _ K2=>Rm rfl (Rm rfl (Rc rfl (Rm rfl ?_))))));clear H K1;intro a H;refine s_split H 10 rfl ?_ ?_
 ·intro h10
  try have p10:=dT h10
  refine kH H (YM h10 rfl (YM h10 rfl (YC h10 rfl (Pt h10 rfl (Ra rfl (Kz K2 ?_))))));clear H K2;intro a H;refine lr H Tryz.results68 rfl ?_;exact H.hp.ret ⟨congrArg Value.bool (by first|(simp_all;done)|(simp_all;omega)),rfl⟩
 intro h10
 try have p10:=dF h10
 refine kH H (Ks h10 rfl (Ks h10 rfl (Ks h10 rfl (Pf h10 rfl (Ra rfl (Kz K2 ?_))))));clear H K2;intro a H;refine lr H Tryz.results68 rfl ?_;exact H.hp.ret ⟨congrArg Value.bool (by first|(simp_all;done)|(simp_all;omega)),rfl⟩
def whenE (b:Bool) (e:Int):Int:=if b=true then e else 0
theorem when_spec (G:GH) (w0:World) (hG:Hold G w0) (b:Bool) (e:Int):Calls Tryz.prog 44 #[.bool b,vi e] w0 (Ret w0 G fun u G'=>u=vi (whenE b e)∧G=G'):=by
 refine eN [(0,_),(1,_)] Tryz.func44 rfl Tryz.ntmps44 rfl rfl hG ?_;intro a H;refine kP H (SR fun _ K1=>Ra rfl (Kz K1 (SQ fun _ K2=>SR fun _ K3=>Rm rfl (Kz K3 ?_))));clear H K1 K3;intro a H;refine c_cond H rfl ?_ ?_
 ·intro h5
  try have p5:=dT h5
  refine kP H (SR fun _ K4=>Rm rfl (Ra rfl (Kz K4 ?_)));clear H K4;intro a H;refine lr H Tryz.results44 rfl ?_;exact H.hp.ret ⟨congrArg vi (by simp_all [whenE]),rfl⟩
 intro h5
 try have p5:=dF h5
 refine kP H (Kc K2 (SR fun _ K5=>Ra rfl (Kz K5 ?_)));clear H K2 K5;intro a H;refine lr H Tryz.results44 rfl ?_;exact H.hp.ret ⟨congrArg vi (by simp_all [whenE]),rfl⟩
/-- The first error of a list. -/
def firstE:List Int→Int
 | []=>0
 | e :: r=>if e≠0 then e else firstE r
theorem firstE_at {l:List Int} {k:Nat} (h:k < l.length):firstE (l.drop k)=if l[k]≠0 then l[k] else firstE (l.drop (k+1)):=by
 rw [List.drop_eq_getElem_cons h,firstE]
theorem first_spec1 (G:GH) (w0:World) (hG:Hold G w0) (l:List Int) (v:Value) (hv:RepV G (.sl 1 (l.map fun k=>[li k])) v) :
  Calls Tryz.prog 39 #[v] w0 (Ret w0 G fun u G'=>u=vi (firstE l)∧G=G'):=by
 obtain ⟨A,c,rfl,hc1,hc2,hg⟩:=hv.slice;have hml:maxLen=9223372036854775807:=rfl;rw [List.length_map] at *;refine eN [(0,_)] Tryz.func39 rfl Tryz.ntmps39 rfl rfl hG ?_;intro a H;refine kP H (SR fun _ K1=>Ra rfl (Kz K1 (SQ fun _ K2=>SR fun _ K3=>Rm rfl (Rl un127fst rfl (Rm rfl (Kz K3 (SB ?_)))))));clear H K1 K3;intro a H;skip;refine c_loopS (ι:=Nat) (Tc:=[(5,_),(6,_)]) (Lc:=[]) (fun (gh:Nat)=>[(7,vi gh)]) (fun (gh:Nat)=>[]) (fun (gh:Nat)=>G) (fun (gh:Nat)=>gh≤l.length∧firstE (l.drop gh)=firstE l) (fun (gh:Nat)=>l.length - gh) (0) (by exact (H).sub ⟨rfl,rfl,rfl,trivial⟩) ?_ ?_
 ·exact ⟨Nat.zero_le _,rfl⟩
 clear H;intro gh a w hI H;obtain ⟨k,hgh⟩:∃ x,x=gh:=⟨_,rfl⟩;subst hgh;obtain ⟨hk,he⟩:=hI;dsimp only [List.cons_append,List.nil_append,List.append_nil] at H;refine kP H (SR fun _ K4=>Rc rfl (Kz K4 (SQ fun _ K5=>?_)));clear H K4;intro a H;refine c_cond H rfl ?_ ?_
 ·intro h8
  try have p8:=dT h8
  have hk2:k < l.length:=by omega
  obtain ⟨b,o,cs,rfl,hcl,hrow,hr⟩:=hg k [li l[k]] (by simp [hk2]);obtain ⟨v1,_,rfl,⟨rfl,-⟩,rfl⟩:∃ v vs,cs=v :: vs∧RepV G (li l[k]) v∧RepRow G [] vs:=hr
  have hcell:gcell G b (o+k*1)=some (vi l[k]):=by simpa using hrow 0 _ rfl
  refine kP H (Kc K5 (SQ fun _ K6=>SB (SR fun _ K7=>Ri un127fst ty46idx rfl rfl (Rg ty46idx rfl hcell (Ra rfl (Kz K7 (SR fun _ K8=>Rm rfl (Rc rfl (Kz K8 ?_)))))))));clear H K5 K7 K8;intro a H;refine c_cond H rfl ?_ ?_
  ·intro h12
   try have p12:=dT h12
   refine kP H (SR fun _ K9=>Rm rfl (Ra rfl (Kz K9 ?_)));clear H K9;intro a H;refine lr H Tryz.results39 rfl ?_;exact H.hp.ret ⟨congrArg vi (by rw [firstE_at hk2,if_pos p12] at he;exact he),rfl⟩
  intro h12
  try have p12:=dF h12
  refine kP H (Kc K6 (SC (Rd rfl (Rm rfl ?_))));clear H K6;intro a H;refine wl_nil ?_;refine loop_end ((k+1)) (by exact (H).sub ⟨rfl,rfl,rfl,trivial⟩) ?_ ?_
  ·exact ⟨by omega,by rw [firstE_at hk2,if_neg p12] at he;exact he⟩
  first|omega|(dsimp only;omega)
 intro h8
 try have p8:=dF h8
 refine c_exit ?_;refine K2 _ _ ?_;clear K2;refine kP H (SR fun _ K10=>Ra rfl (Kz K10 ?_));clear H K10;intro a H;refine lr H Tryz.results39 rfl ?_;exact H.hp.ret ⟨congrArg vi (by rw [List.drop_of_length_le (by omega)] at he;exact he),rfl⟩
/-- A function of an index that gives an error. -/
def IxCb (fv:Value) (Gi:GH) (n:Nat) (E:Nat→Int):Prop:=∀ i,i < n→∀ (G1:GH) (w1:World),(∀ b o,Gi b=some o→G1 b=some o)→Hold G1 w1→CallV Tryz.prog fv [vi i] w1 (Ret w1 G1 fun u G'=>u=vi (E i))
theorem IxCb.mono {fv:Value} {G G':GH} {n:Nat} {E:Nat→Int} (h:IxCb fv G n E) (hm:∀ b o,G b=some o→G' b=some o):IxCb fv G' n E:=fun i hi G1 w1 hG1=>h i hi G1 w1 fun b o hb=>hG1 b o (hm b o hb)
def allE (E:Nat→Int) (n:Nat):Int:=firstE ((List.range n).map E)
theorem allE_at {E:Nat→Int} {n k:Nat} (h:k < n):firstE (((List.range n).map E).drop k)=if E k≠0 then E k else firstE (((List.range n).map E).drop (k+1)):=by
 rw [firstE_at (by simpa using h)];simp
theorem all_spec (G:GH) (w0:World) (hG:Hold G w0) (n:Nat) (E:Nat→Int) (fv:Value) (hn:n≤4611686018427387904) (hf:IxCb fv G n E) :
  Calls Tryz.prog 63 #[vi n,fv] w0 (Ret w0 G fun u G'=>u=vi (allE E n)):=by
 refine eN [(0,_),(1,_)] Tryz.func63 rfl Tryz.ntmps63 rfl rfl hG ?_;intro a H;refine kP H (SR fun _ K1=>Ra rfl (Kz K1 (SQ fun _ K2=>SR fun _ K3=>Rm rfl (Rm rfl (Kz K3 (SB ?_))))));clear H K1 K3;intro a H;skip;refine c_loopS (ι:=Nat × GH) (Tc:=[(1,_),(7,_)]) (Lc:=[]) (fun (gh:Nat × GH)=>[(8,vi gh.1)]) (fun (gh:Nat × GH)=>[]) (fun (gh:Nat × GH)=>gh.2) (fun (gh:Nat × GH)=>gh.1≤n∧firstE (((List.range n).map E).drop gh.1)=allE E n∧(∀ b o,G b=some o→gh.2 b=some o)) (fun (gh:Nat × GH)=>n - gh.1) ((0,G)) (by exact (H).sub ⟨rfl,rfl,rfl,trivial⟩) ?_ ?_
 ·exact ⟨Nat.zero_le _,rfl,fun _ _ h=>h⟩
 clear H;intro gh a w hI H;obtain ⟨k,g⟩:=gh;dsimp only at hI H;obtain ⟨hk,he,hgm⟩:=hI;dsimp only [List.cons_append,List.nil_append,List.append_nil] at H;refine kP H (SR fun _ K4=>Rc rfl (Kz K4 (SQ fun _ K5=>?_)));clear H K4;intro a H;refine c_cond H rfl ?_ ?_
 ·intro h9
  try have p9:=dT h9
  have hk2:k < n:=by omega
  refine kP H (Kc K5 (SQ fun _ K6=>SB (SR fun _ K7=>Rm rfl (Ra rfl (Kz K7 (SR fun _ K8=>Rm rfl (Rm rfl ?_)))))));clear H K5 K7;intro a H;refine s_callv0 H wn rfl rfl (hf k hk2 _ _ hgm H.hp.ro) rfl ?_;clear H;rintro v13 G13 a w rfl hm13 H;refine kH H (Ra rfl (Kz K8 (SR fun _ K9=>Rm rfl (Rc rfl (Kz K9 ?_)))));clear H K8 K9;intro a H;refine c_cond H rfl ?_ ?_
  ·intro h15
   try have p15:=dT h15
   refine kP H (SR fun _ K10=>Rm rfl (Ra rfl (Kz K10 ?_)));clear H K10;intro a H;refine lr H Tryz.results63 rfl ?_;exact H.hp.ret (congrArg vi (by rw [allE_at hk2,if_pos p15] at he;exact he))
  intro h15
  try have p15:=dF h15
  refine kP H (Kc K6 (SC (Rd rfl (Rm rfl ?_))));clear H K6;intro a H;refine wl_nil ?_;refine loop_end ((k+1,G13)) (by exact (H).sub ⟨rfl,rfl,rfl,trivial⟩) ?_ ?_
  ·(try dsimp only);exact ⟨by omega,by rw [allE_at hk2,if_neg p15] at he;exact he,fun b o h=>hm13 b o (hgm b o h)⟩
  first|omega|(dsimp only;omega)
 intro h9
 try have p9:=dF h9
 refine c_exit ?_;refine K2 _ _ ?_;clear K2;refine kP H (SR fun _ K11=>Ra rfl (Kz K11 ?_));clear H K11;intro a H;refine lr H Tryz.results63 rfl ?_;exact H.hp.ret (congrArg vi (by rw [List.drop_of_length_le (by simp;omega)] at he;exact he))
/-- The error of the id with an index. -/
def incE (id:Nat→Int) (i:Nat):Int:=if ¬ (1≤id i∧id i≤1073741824) then 18 else if 0 < i∧id i=id (i - 1) then 7 else if 0 < i∧id i < id (i - 1) then 6 else 0
theorem increasing_spec (G:GH) (w0:World) (hG:Hold G w0) (i:Nat) (id:Nat→Int) (fv:Value) (hn:i≤4611686018427387904) (hf:IxCb fv G (i+1) id) :
  Calls Tryz.prog 65 #[vi i,fv] w0 (Ret w0 G fun u G'=>u=vi (incE id i)):=by
 refine eN [(0,_),(1,_)] Tryz.func65 rfl Tryz.ntmps65 rfl rfl hG ?_;intro a H;refine kP H (SR fun _ K1=>Ra rfl (Kz K1 (SQ fun _ K2=>SB (SR fun _ K3=>Rm rfl (Rm rfl ?_)))));clear H K1;intro a H;refine s_callv0 H wn rfl rfl (hf i (Nat.lt_succ_self _) _ _ (fun _ _ h=>h) H.hp.ro) rfl ?_;clear H;rintro v8 G8 a w rfl hm8 H;refine s_call en68fst H wn rfl (in_spec _ _ H.hp.ro (id i) 1 1073741824) rfl ?_;clear H;rintro v9 _ a w ⟨rfl,rfl⟩ - H;refine kH H (Rn rfl (Ra rfl (Kz K3 ?_)));clear H K3;intro a H;refine c_cond H rfl ?_ ?_
 ·intro h5
  try have p5:=dT h5
  refine kP H (SR fun _ K4=>Ra rfl (Kz K4 ?_));clear H K4;intro a H;refine lr H Tryz.results65 rfl ?_
  exact H.hp.ret (congrArg vi (by unfold incE;(repeat' split) <;> first|rfl|(exfalso;simp_all;done)|(exfalso;simp_all;omega)))
 intro h5
 try have p5:=dF h5
 refine kP H (SR fun _ K5=>Rm rfl (Rc rfl (Rm rfl ?_)));clear H;intro a H;refine s_split H 14 rfl ?_ ?_
 ·intro h14
  try have p14:=dT h14
  refine kH H (YM h14 rfl (YM h14 rfl ?_));clear H;intro a H;refine s_callv0 H (wg H rfl rfl h14) rfl rfl (hf i (Nat.lt_succ_self _) _ _ hm8 H.hp.ro) rfl ?_;clear H;rintro v17 G17 a w rfl hm17 H;refine kH H (YM h14 rfl (YM h14 rfl ?_));clear H;intro a H;refine s_sub _ H (wg H rfl rfl h14) rfl rfl rfl (by omega) (by omega) rfl ?_;clear H;intro a H;rw [show ((i:Int) - 1)=((i - 1:Nat):Int) by omega] at H;refine s_callv0 H (wg H rfl rfl h14) rfl rfl (hf (i - 1) (by omega) _ _ (fun b o h=>hm17 b o (hm8 b o h)) H.hp.ro) rfl ?_;clear H;rintro v21 G21 a w rfl hm21 H;refine kH H (YC h14 rfl (Pt h14 rfl (Ra rfl (Kz K5 ?_))));clear H K5;intro a H;refine c_cond H rfl ?_ ?_
  ·intro h11
   try have p11:=dT h11
   refine kP H (SR fun _ K6=>Ra rfl (Kz K6 ?_));clear H K6;intro a H;refine lr H Tryz.results65 rfl ?_
   exact H.hp.ret (congrArg vi (by unfold incE;(repeat' split) <;> first|rfl|(exfalso;simp_all;done)|(exfalso;simp_all;omega)))
  intro h11
  try have p11:=dF h11
  refine kP H (SR fun _ K7=>Rm rfl (Rc rfl (Rm rfl ?_)));clear H;intro a H;refine s_split H 27 rfl ?_ ?_
  ·intro h27
   try have p27:=dT h27
   refine kH H (YM h27 rfl (YM h27 rfl ?_));clear H;intro a H;refine s_callv0 H (wg H rfl rfl h27) rfl rfl (hf i (Nat.lt_succ_self _) _ _ (fun b o h=>by first|exact hm21 b o (hm17 b o (hm8 b o h))|(exfalso;omega)) H.hp.ro) rfl ?_;clear H;rintro v30 G30 a w rfl hm30 H;refine kH H (YM h27 rfl (YM h27 rfl ?_));clear H;intro a H;refine s_sub _ H (wg H rfl rfl h27) rfl rfl rfl (by omega) (by omega) rfl ?_;clear H;intro a H;rw [show ((i:Int) - 1)=((i - 1:Nat):Int) by omega] at H;refine s_callv0 H (wg H rfl rfl h27) rfl rfl (hf (i - 1) (by omega) _ _ (fun b o h=>by first|exact hm30 b o (hm21 b o (hm17 b o (hm8 b o h)))|(exfalso;omega)) H.hp.ro) rfl ?_;clear H;rintro v34 G34 a w rfl hm34 H;refine kH H (YC h27 rfl (Pt h27 rfl (Ra rfl (Kz K7 ?_))));clear H K7;intro a H;refine c_cond H rfl ?_ ?_
   ·intro h24
    try have p24:=dT h24
    refine kP H (SR fun _ K8=>Ra rfl (Kz K8 ?_));clear H K8;intro a H;refine lr H Tryz.results65 rfl ?_
    exact H.hp.ret (congrArg vi (by unfold incE;(repeat' split) <;> first|rfl|(exfalso;simp_all;done)|(exfalso;simp_all;omega)))
   intro h24
   try have p24:=dF h24
   refine kP H (Kc K2 (SR fun _ K9=>Ra rfl (Kz K9 ?_)));clear H K2 K9;intro a H;refine lr H Tryz.results65 rfl ?_
   exact H.hp.ret (congrArg vi (by unfold incE;(repeat' split) <;> first|rfl|(exfalso;simp_all;done)|(exfalso;simp_all;omega)))
  intro h27
  try have p27:=dF h27
  refine kH H (Ks h27 rfl (Ks h27 rfl (Ks h27 rfl (Ks h27 rfl (Ks h27 rfl (Ks h27 rfl (Ks h27 rfl (Ks h27 rfl (Pf h27 rfl (Ra rfl (Kz K7 ?_)))))))))));clear H K7;intro a H;refine c_cond_f H rfl rfl ?_;refine kP H (Kc K2 (SR fun _ K10=>Ra rfl (Kz K10 ?_)));clear H K2 K10;intro a H;refine lr H Tryz.results65 rfl ?_
  exact H.hp.ret (congrArg vi (by unfold incE;(repeat' split) <;> first|rfl|(exfalso;simp_all;done)|(exfalso;simp_all;omega)))
 intro h14
 try have p14:=dF h14
 refine kH H (Ks h14 rfl (Ks h14 rfl (Ks h14 rfl (Ks h14 rfl (Ks h14 rfl (Ks h14 rfl (Ks h14 rfl (Ks h14 rfl (Pf h14 rfl (Ra rfl (Kz K5 ?_)))))))))));clear H K5;intro a H;refine c_cond_f H rfl rfl ?_;refine kP H (SR fun _ K11=>Rm rfl (Rc rfl (Rm rfl ?_)));clear H;intro a H;refine s_split H 27 rfl ?_ ?_
 ·intro h27
  try have p27:=dT h27
  refine kH H (YM h27 rfl (YM h27 rfl ?_));clear H;intro a H;refine s_callv0 H (wg H rfl rfl h27) rfl rfl (hf i (Nat.lt_succ_self _) _ _ (fun b o h=>by first|exact hm21 b o (hm17 b o (hm8 b o h))|(exfalso;omega)) H.hp.ro) rfl ?_;clear H;rintro v30 G30 a w rfl hm30 H;refine kH H (YM h27 rfl (YM h27 rfl ?_));clear H;intro a H;refine s_sub _ H (wg H rfl rfl h27) rfl rfl rfl (by omega) (by omega) rfl ?_;clear H;intro a H;rw [show ((i:Int) - 1)=((i - 1:Nat):Int) by omega] at H;refine s_callv0 H (wg H rfl rfl h27) rfl rfl (hf (i - 1) (by omega) _ _ (fun b o h=>by first|exact hm30 b o (hm21 b o (hm17 b o (hm8 b o h)))|(exfalso;omega)) H.hp.ro) rfl ?_;clear H;rintro v34 G34 a w rfl hm34 H;refine kH H (YC h27 rfl (Pt h27 rfl (Ra rfl (Kz K11 ?_))));clear H K11;intro a H;refine c_cond H rfl ?_ ?_
  ·intro h24
   try have p24:=dT h24
   refine kP H (SR fun _ K12=>Ra rfl (Kz K12 ?_));clear H K12;intro a H;refine lr H Tryz.results65 rfl ?_
   exact H.hp.ret (congrArg vi (by unfold incE;(repeat' split) <;> first|rfl|(exfalso;simp_all;done)|(exfalso;simp_all;omega)))
  intro h24
  try have p24:=dF h24
  refine kP H (Kc K2 (SR fun _ K13=>Ra rfl (Kz K13 ?_)));clear H K2 K13;intro a H;refine lr H Tryz.results65 rfl ?_
  exact H.hp.ret (congrArg vi (by unfold incE;(repeat' split) <;> first|rfl|(exfalso;simp_all;done)|(exfalso;simp_all;omega)))
 intro h27
 try have p27:=dF h27
 refine kH H (Ks h27 rfl (Ks h27 rfl (Ks h27 rfl (Ks h27 rfl (Ks h27 rfl (Ks h27 rfl (Ks h27 rfl (Ks h27 rfl (Pf h27 rfl (Ra rfl (Kz K11 ?_)))))))))));clear H K11;intro a H;refine c_cond_f H rfl rfl ?_;refine kP H (Kc K2 (SR fun _ K14=>Ra rfl (Kz K14 ?_)));clear H K2 K14;intro a H;refine lr H Tryz.results65 rfl ?_
 exact H.hp.ret (congrArg vi (by unfold incE;(repeat' split) <;> first|rfl|(exfalso;simp_all;done)|(exfalso;simp_all;omega)))
end
section
open Go.RowKit
theorem en44nam:∀ args w,(callFunc 44 args).run Tryz.prog w=.ok (.enter 44 args) w:=enters Tryz.func44 rfl (by kernel_rfl)
theorem en39nam:∀ args w,(callFunc 39 args).run Tryz.prog w=.ok (.enter 39 args) w:=enters Tryz.func39 rfl (by kernel_rfl)
def autS (s:ByteArray):Bool:=decide (1≤s.size∧s.size≤40) && validS s
theorem author_spec (G:GH) (w0:World) (hG:Hold G w0) (s:ByteArray) (hs:s.size < 4611686018427387904):Calls Tryz.prog 67 #[.string s] w0 (Ret w0 G fun u G'=>u=.bool (autS s)∧G=G'):=by
 refine eN [(0,_)] Tryz.func67 rfl Tryz.ntmps67 rfl rfl hG ?_;intro a H;refine kP H (SR fun _ K1=>Ra rfl (Kz K1 (SR fun _ K2=>Rm rfl (Rv un9cp rfl (Rc rfl (Rm rfl ?_))))));clear H K1;intro a H;refine s_split H 6 rfl ?_ ?_
 ·intro h6
  try have p6:=dT h6
  refine kH H (YM h6 rfl ?_);clear H;intro a H;refine s_lens un9cp H (wg H rfl rfl h6) rfl rfl ?_;clear H;intro a H;refine kH H (YC h6 rfl (Pt h6 rfl (Rm rfl ?_)));clear H;intro a H;refine s_split H 11 rfl ?_ ?_
  ·intro h11
   try have p11:=dT h11
   refine kH H (YM h11 rfl ?_);clear H;intro a H;refine s_call en85cp H (wg H rfl rfl h11) rfl (valid_spec _ _ H.hp.ro s hs) rfl ?_;clear H;rintro v13 _ a w ⟨rfl,rfl⟩ - H;refine kH H (Pt h11 rfl (Ra rfl (Kz K2 ?_)));clear H K2;intro a H;refine lr H Tryz.results67 rfl ?_;exact H.hp.ret ⟨congrArg Value.bool (by unfold autS;first|(simp_all;done)|(simp_all;omega)),rfl⟩
  intro h11
  try have p11:=dF h11
  refine kH H (Ks h11 rfl (Ks h11 rfl (Pf h11 rfl (Ra rfl (Kz K2 ?_)))));clear H K2;intro a H;refine lr H Tryz.results67 rfl ?_;exact H.hp.ret ⟨congrArg Value.bool (by unfold autS;first|(simp_all;done)|(simp_all;omega)),rfl⟩
 intro h6
 try have p6:=dF h6
 refine kH H (Ks h6 rfl (Ks h6 rfl (Ks h6 rfl (Pf h6 rfl (Rm rfl (Ks rfl rfl (Ks rfl rfl (Pf rfl rfl (Ra rfl (Kz K2 ?_))))))))));clear H K2;intro a H;refine lr H Tryz.results67 rfl ?_;exact H.hp.ret ⟨congrArg Value.bool (by unfold autS;first|(simp_all;done)|(simp_all;omega)),rfl⟩
def txE (s:ByteArray):Int:=firstE [whenE (!validS s) 12,whenE (decide (1024 < (s.size:Int))) 10]
theorem two_rep {G:GH} {b:Nat} {x y:Int} (h:G b=some (.cells #[vi x,vi y] 46 (0,0))):RepV G (.sl 1 ([x,y].map fun k=>[li k])) (.slice (some ⟨b,0,none⟩) 2 2) :=
 RepV.of_row (n:=2) (cap:=2) h rfl (Nat.le_refl _) (show 2≤maxLen by decide) (List.take_of_length_le (Nat.le_refl _)) (ints_cat G [x,y])
theorem text_spec1 (G:GH) (w0:World) (hG:Hold G w0) (s:ByteArray) (hs:s.size < 4611686018427387904):Calls Tryz.prog 96 #[.string s] w0 (Ret w0 G fun u G'=>u=vi (txE s)):=by
 refine eN [(0,_)] Tryz.func96 rfl Tryz.ntmps96 rfl rfl hG ?_;intro a H;refine kP H (SR fun _ K1=>Ra rfl (Kz K1 (SR fun _ K2=>Rm rfl ?_)));clear H K1;intro a H;refine s_call en85cp H wn rfl (valid_spec _ _ H.hp.ro s hs) rfl ?_;clear H;rintro v4 _ a w ⟨rfl,rfl⟩ - H;refine kH H (Rn rfl ?_);clear H;intro a H;refine s_call en44nam H wn rfl (when_spec _ _ H.hp.ro _ 12) rfl ?_;clear H;rintro v6 _ a w ⟨rfl,rfl⟩ - H;refine kH H (Rm rfl (Rv un9cp rfl (Rc rfl ?_)));clear H;intro a H;refine s_call en44nam H wn rfl (when_spec _ _ H.hp.ro _ 10) rfl ?_;clear H;rintro v10 _ a w ⟨rfl,rfl⟩ - H;refine s_buildSlice un127fst ty46idx [_,_] [_,_] H wn rfl rfl rfl rfl rfl (by intro i q h;match i,h with|0,h=>exact h|1,h=>exact h|n+2,h=>simp at h) rfl rfl ?_;clear H;intro b11 a w hb11 H;obtain ⟨G11,hm11,hb11',H⟩:=H.giveBox;refine s_call en39nam H wn rfl (first_spec1 _ _ H.hp.ro _ _ (two_rep hb11')) rfl ?_;clear H;rintro v12 _ a w ⟨rfl,rfl⟩ - H;refine kH H (Ra rfl (Kz K2 ?_));clear H K2;intro a H;refine lr H Tryz.results96 rfl ?_;exact H.hp.ret rfl
/-- Whether a byte is a letter; a digit, a hyphen or an underscore; whether it may stand at a place of a name. -/
def ltrB (c:Int):Bool:=decide (97≤bitI .or .u8 c 32) && decide (bitI .or .u8 c 32≤122)
def othB (c:Int):Bool:=(decide (48≤c) && decide (c≤57)) || decide (c=45) || decide (c=95)
def nmC (s:ByteArray) (k:Nat):Bool:=ltrB (byteAt s k) || (decide (k≠0) && othB (byteAt s k))
def cpNm (s:ByteArray):Bool:=decide (1≤s.size∧s.size≤40) && (List.range s.size).all (nmC s)
theorem cpNm_spec (G:GH) (w0:World) (hG:Hold G w0) (s:ByteArray) (hs:s.size < 4611686018427387904):Calls Tryz.prog 98 #[.string s] w0 (Ret w0 G fun u G'=>u=.bool (cpNm s)∧G=G'):=by
 refine eN [(0,_)] Tryz.func98 rfl Tryz.ntmps98 rfl rfl hG ?_;intro a H;refine kP H (SR fun _ K1=>Ra rfl (Kz K1 (SQ fun _ K2=>SR fun _ K3=>Rm rfl (Rv un9cp rfl (Rc rfl (Rm rfl ?_))))));clear H K1;intro a H;refine s_split H 10 rfl ?_ ?_
 ·intro h10
  try have p10:=dT h10
  refine kH H (Ks h10 rfl (Ks h10 rfl (Ks h10 rfl (Pt h10 rfl (Kz K3 ?_)))));clear H K3;intro a H;refine c_cond_t H rfl rfl ?_;refine kP H (SR fun _ K4=>Ra rfl (Kz K4 ?_));clear H K4;intro a H;refine lr H Tryz.results98 rfl ?_;exact H.hp.ret ⟨congrArg Value.bool (by unfold cpNm;rw [decide_eq_false (by omega)];rfl),rfl⟩
 intro h10
 try have p10:=dF h10
 refine kH H (YM h10 rfl ?_);clear H;intro a H;refine s_lens un9cp H (wg H rfl rfl h10) rfl rfl ?_;clear H;intro a H;refine kH H (YC h10 rfl (Pf h10 rfl (Kz K3 ?_)));clear H K3;intro a H;refine c_cond H rfl ?_ ?_
 ·intro h14
  try have p14:=dT h14
  refine kP H (SR fun _ K5=>Ra rfl (Kz K5 ?_));clear H K5;intro a H;refine lr H Tryz.results98 rfl ?_;exact H.hp.ret ⟨congrArg Value.bool (by unfold cpNm;rw [decide_eq_false (by omega)];rfl),rfl⟩
 intro h14
 try have p14:=dF h14
 refine kP H (Kc K2 (SQ fun _ K6=>SR fun _ K7=>Rm rfl (Rv un9cp rfl (Rm rfl (Kz K7 (SB ?_))))));clear H K2 K7;intro a H;skip;refine c_loopS (ι:=Nat) (Tc:=[(0,_),(16,_)]) (Lc:=[]) (fun (gh:Nat)=>[(17,vi gh)]) (fun (gh:Nat)=>[]) (fun (gh:Nat)=>G) (fun (gh:Nat)=>gh≤s.size∧(List.range gh).all (nmC s)=true) (fun (gh:Nat)=>s.size - gh) (0) (by exact (H).sub ⟨rfl,rfl,rfl,trivial⟩) ?_ ?_
 ·exact ⟨Nat.zero_le _,rfl⟩
 clear H;intro gh a w hI H;obtain ⟨k,hgh⟩:∃ x,x=gh:=⟨_,rfl⟩;subst hgh;obtain ⟨hk,hall⟩:=hI;dsimp only [List.cons_append,List.nil_append,List.append_nil] at H;refine kP H (SR fun _ K8=>Rc rfl (Kz K8 (SQ fun _ K9=>?_)));clear H K8;intro a H;refine c_cond H rfl ?_ ?_
 ·intro h18
  try have p18:=dT h18
  have hk2:k < s.size:=by omega
  refine kP H (Kc K9 (SQ fun _ K10=>SB (SR fun _ K11=>Rm rfl (Ra rfl (Kz K11 (SR fun _ K12=>Rm rfl (Rm rfl ?_)))))));clear H K9 K11;intro a H;refine s_indexs k un9cp H wn rfl rfl rfl (by omega) rfl ?_;clear H;intro a H;rw [← byteAt_lt] at H;refine s_bits rfl H wn rfl rfl rfl ?_;clear H;intro a H;refine kH H (Ra rfl (Kz K12 ?_));clear H K12;intro a H;refine c_seqJ (ι:=Bool) (Tc:=[(0,_),(3,_),(16,_),(17,_)]) (Lc:=[]) (fun (gh:Bool)=>[(5,.bool gh)]) (fun (gh:Bool)=>[]) (fun (gh:Bool)=>G) (fun (gh:Bool)=>gh=ltrB (byteAt s k)) (by exact (H).sub ⟨rfl,rfl,rfl,rfl,trivial⟩) ?_ ?_
  ·skip;refine kP H (SC (Rm rfl (Rc rfl (Rm rfl ?_))));clear H;intro a H;refine s_split H 26 rfl ?_ ?_
   ·intro h26
    try have p26:=dT h26
    refine kH H (YM h26 rfl (YC h26 rfl (Pt h26 rfl (Ra rfl ?_))));clear H;intro a H;refine wl_nil ?_;refine ⟨_,by exact (H).sub ⟨rfl,rfl,rfl,rfl,rfl,trivial⟩,?_⟩
    unfold ltrB;first|(simp_all;done)|(simp_all;omega)
   intro h26
   try have p26:=dF h26
   refine kH H (Ks h26 rfl (Ks h26 rfl (Pf h26 rfl (Ra rfl ?_))));clear H;intro a H;refine wl_nil ?_;refine ⟨_,by exact (H).sub ⟨rfl,rfl,rfl,rfl,rfl,trivial⟩,?_⟩
   unfold ltrB;first|(simp_all;done)|(simp_all;omega)
  clear H;intro gh a w hI H;obtain ⟨lt,hgh⟩:∃ x,x=gh:=⟨_,rfl⟩;subst hgh;have hlt:=hI;dsimp only [List.cons_append,List.nil_append,List.append_nil] at H;refine c_seqJ (ι:=Bool) (Tc:=[(0,_),(3,_),(5,_),(16,_),(17,_)]) (Lc:=[]) (fun (gh:Bool)=>[(6,.bool gh)]) (fun (gh:Bool)=>[]) (fun (gh:Bool)=>G) (fun (gh:Bool)=>gh=othB (byteAt s k)) (by exact (H).sub ⟨rfl,rfl,rfl,rfl,rfl,trivial⟩) ?_ ?_
  ·skip;refine kP H (SC (Rm rfl (Rm rfl ?_)));clear H;intro a H;refine s_indexs k un9cp H wn rfl rfl rfl (by omega) rfl ?_;clear H;intro a H;rw [← byteAt_lt] at H;refine kH H (Rc rfl (Rm rfl ?_));clear H;intro a H;refine s_split H 34 rfl ?_ ?_
   ·intro h34
    try have p34:=dT h34
    refine kH H (YM h34 rfl (YM h34 rfl ?_));clear H;intro a H;refine s_indexs k un9cp H (wg H rfl rfl h34) rfl rfl rfl (by omega) rfl ?_;clear H;intro a H;rw [← byteAt_lt] at H;refine kH H (YC h34 rfl (Pt h34 rfl (Rm rfl ?_)));clear H;intro a H;refine s_split H 40 rfl ?_ ?_
    ·intro h40
     try have p40:=dT h40
     refine kH H (Ks h40 rfl (Ks h40 rfl (Ks h40 rfl (Ks h40 rfl (Pt h40 rfl (Rm rfl (Ks rfl rfl (Ks rfl rfl (Ks rfl rfl (Ks rfl rfl (Pt rfl rfl (Ra rfl ?_))))))))))));clear H;intro a H;refine wl_nil ?_;refine ⟨_,by exact (H).sub ⟨rfl,rfl,rfl,rfl,rfl,rfl,trivial⟩,?_⟩
     unfold othB;first|(simp_all;done)|(simp_all;omega)
    intro h40
    try have p40:=dF h40
    refine kH H (YM h40 rfl (YM h40 rfl ?_));clear H;intro a H;refine s_indexs k un9cp H (wg H rfl rfl h40) rfl rfl rfl (by omega) rfl ?_;clear H;intro a H;rw [← byteAt_lt] at H;refine kH H (YC h40 rfl (Pf h40 rfl (Rm rfl ?_)));clear H;intro a H;refine s_split H 46 rfl ?_ ?_
    ·intro h46
     try have p46:=dT h46
     refine kH H (Ks h46 rfl (Ks h46 rfl (Ks h46 rfl (Ks h46 rfl (Pt h46 rfl (Ra rfl ?_))))));clear H;intro a H;refine wl_nil ?_;refine ⟨_,by exact (H).sub ⟨rfl,rfl,rfl,rfl,rfl,rfl,trivial⟩,?_⟩
     unfold othB;first|(simp_all;done)|(simp_all;omega)
    intro h46
    try have p46:=dF h46
    refine kH H (YM h46 rfl (YM h46 rfl ?_));clear H;intro a H;refine s_indexs k un9cp H (wg H rfl rfl h46) rfl rfl rfl (by omega) rfl ?_;clear H;intro a H;rw [← byteAt_lt] at H;refine kH H (YC h46 rfl (Pf h46 rfl (Ra rfl ?_)));clear H;intro a H;refine wl_nil ?_;refine ⟨_,by exact (H).sub ⟨rfl,rfl,rfl,rfl,rfl,rfl,trivial⟩,?_⟩
    unfold othB;first|(simp_all;done)|(simp_all;omega)
   intro h34
   try have p34:=dF h34
   refine kH H (Ks h34 rfl (Ks h34 rfl (Ks h34 rfl (Ks h34 rfl (Pf h34 rfl (Rm rfl ?_))))));clear H;intro a H;(iterate 2 refine s_move H (wg H rfl rfl rfl) rfl rfl ?_;clear H;intro a H);refine s_indexs k un9cp H (wg H rfl rfl rfl) rfl rfl rfl (by omega) rfl ?_;clear H;intro a H;rw [← byteAt_lt] at H;refine s_cmp H (wg H rfl rfl rfl) rfl rfl rfl rfl ?_;clear H;intro a H;refine kH H (Pf rfl rfl (Rm rfl ?_));clear H;intro a H;refine s_split H 46 rfl ?_ ?_
   ·intro h46
    try have p46:=dT h46
    refine kH H (Ks h46 rfl (Ks h46 rfl (Ks h46 rfl (Ks h46 rfl (Pt h46 rfl (Ra rfl ?_))))));clear H;intro a H;refine wl_nil ?_;refine ⟨_,by exact (H).sub ⟨rfl,rfl,rfl,rfl,rfl,rfl,trivial⟩,?_⟩
    unfold othB;first|(simp_all;done)|(simp_all;omega)
   intro h46
   try have p46:=dF h46
   refine kH H (YM h46 rfl (YM h46 rfl ?_));clear H;intro a H;refine s_indexs k un9cp H (wg H rfl rfl h46) rfl rfl rfl (by omega) rfl ?_;clear H;intro a H;rw [← byteAt_lt] at H;refine kH H (YC h46 rfl (Pf h46 rfl (Ra rfl ?_)));clear H;intro a H;refine wl_nil ?_;refine ⟨_,by exact (H).sub ⟨rfl,rfl,rfl,rfl,rfl,rfl,trivial⟩,?_⟩
   unfold othB;first|(simp_all;done)|(simp_all;omega)
  clear H;intro gh a w hI H;obtain ⟨ot,hgh⟩:∃ x,x=gh:=⟨_,rfl⟩;subst hgh;have hot:=hI;dsimp only [List.cons_append,List.nil_append,List.append_nil] at H;refine kP H (SR fun _ K13=>Rm rfl (Rn rfl (Rm rfl ?_)));clear H;intro a H;refine s_split H 54 rfl ?_ ?_
  ·intro h54
   try have p54:=dT h54
   refine kH H (YM h54 rfl (YC h54 rfl (YM h54 rfl ?_)));clear H;intro a H;refine s_split H 57 rfl ?_ ?_
   ·intro h57
    try have p57:=dT h57
    refine kH H (Ks h57 rfl (Ks h57 rfl (PT h54 h57 rfl (Pt h54 rfl (Kz K13 ?_)))));clear H K13;intro a H;refine c_cond_t H rfl rfl ?_;refine kP H (SR fun _ K14=>Ra rfl (Kz K14 ?_));clear H K14;intro a H;refine lr H Tryz.results98 rfl ?_
    first
     | exact H.hp.ret ⟨congrArg Value.bool (by
       unfold cpNm
       rw [show k=s.size by omega] at hall
       rw [hall,decide_eq_true (by omega)];rfl),rfl⟩
     | exact H.hp.ret ⟨congrArg Value.bool (by
       unfold cpNm
       rw [show (List.range s.size).all (nmC s)=false from List.all_eq_false.2 ⟨k,by simpa using hk2,by unfold nmC;simp_all⟩,Bool.and_false]),rfl⟩
   intro h57
   try have p57:=dF h57
   refine kH H (YM h57 rfl (YN h57 rfl (PF h54 h57 rfl (Pt h54 rfl (Kz K13 ?_)))));clear H K13;intro a H;refine c_cond H rfl ?_ ?_
   ·intro h61
    try have p61:=dT h61
    refine kP H (SR fun _ K15=>Ra rfl (Kz K15 ?_));clear H K15;intro a H;refine lr H Tryz.results98 rfl ?_
    first
     | exact H.hp.ret ⟨congrArg Value.bool (by
       unfold cpNm
       rw [show k=s.size by omega] at hall
       rw [hall,decide_eq_true (by omega)];rfl),rfl⟩
     | exact H.hp.ret ⟨congrArg Value.bool (by
       unfold cpNm
       rw [show (List.range s.size).all (nmC s)=false from List.all_eq_false.2 ⟨k,by simpa using hk2,by unfold nmC;simp_all⟩,Bool.and_false]),rfl⟩
   intro h61
   try have p61:=dF h61
   refine kP H (Kc K10 (SC (Rd rfl (Rm rfl ?_))));clear H K10;intro a H;refine wl_nil ?_;refine loop_end ((k+1)) (by exact (H).sub ⟨rfl,rfl,rfl,trivial⟩) ?_ ?_
   ·exact ⟨by omega,by rw [List.range_succ,List.all_append,hall];simp [nmC];simp_all⟩
   first|omega|(dsimp only;omega)
  intro h54
  try have p54:=dF h54
  refine kH H (Ks h54 rfl (Ks h54 rfl (Ks h54 rfl (Ku rfl (Ku rfl (Ks h54 rfl (Pf h54 rfl (Kz K13 ?_))))))));clear H K13;intro a H;refine c_cond_f H rfl rfl ?_;refine kP H (Kc K10 (SC (Rd rfl (Rm rfl ?_))));clear H K10;intro a H;refine wl_nil ?_;refine loop_end ((k+1)) (by exact (H).sub ⟨rfl,rfl,rfl,trivial⟩) ?_ ?_
  ·exact ⟨by omega,by rw [List.range_succ,List.all_append,hall];simp [nmC];simp_all⟩
  first|omega|(dsimp only;omega)
 intro h18
 try have p18:=dF h18
 refine c_exit ?_;refine K6 _ _ ?_;clear K6;refine kP H (SR fun _ K16=>Ra rfl (Kz K16 ?_));clear H K16;intro a H;refine lr H Tryz.results98 rfl ?_
 first
  | exact H.hp.ret ⟨congrArg Value.bool (by
    unfold cpNm
    rw [show k=s.size by omega] at hall
    rw [hall,decide_eq_true (by omega)];rfl),rfl⟩
  | exact H.hp.ret ⟨congrArg Value.bool (by
    unfold cpNm
    rw [show (List.range s.size).all (nmC s)=false from List.all_eq_false.2 ⟨k,by simpa using hk2,by unfold nmC;simp_all⟩,Bool.and_false]),rfl⟩
end
section
open Go.RowKit
section
variable {N:Nat} {D:List Deferred} {w0:World} {F:Nat→Prop} {G0 G:GH} {L:OL} {T:List (Nat × Value)}
variable {r:Option Nat} {P:Program} {ops:Array Oper} {Q:Exit→Act→World→Prop} {rest:List Oper} {a:Act} {w:World}
variable {d:Nat} {ty:TypeId} {pos:String} {aft:Array Edge} {g:Option (Nat × Bool)}
end
end
section
open Go.RowKit
section
variable {N:Nat} {D:List Deferred} {w0:World} {F:Nat→Prop} {G0 G:GH} {L:OL} {T T':List (Nat × Value)}
variable {r:Option Nat} {P:Program} {Q:Exit→Act→World→Prop} {l:List Oper} {a a':Act} {w w':World} {ε:Type}
/-- What the slots of the operations that are done hold. -/
def Vals (l:List Oper) (pr:ε→Nat→Value→Prop) (T:List (Nat × Value)) (S:Nat→Bool) (E:ε) (T':List (Nat × Value)):Prop :=
 (∀ t v,lk T t=some v→lk T' t=some v)∧∀ i d,S i=true→dstOf l i=some d→∃ v,lk T' d=some v∧pr E i v
theorem Vals.put {pr:ε→Nat→Value→Prop} {S:Nat→Bool} {E E':ε} {i d:Nat} {v:Value} (h:Vals l pr T S E T') (hok:dstOk l T=true) (hi:dstOf l i=some d) (hv:pr E' i v) (hE:∀ j u,j≠i→pr E j u→pr E' j u):Vals l pr T (setT S i) E' ((d,v) :: T'):=by
 have hil:=dstOf_lt hi
 have hok1:=List.all_eq_true.1 hok i (List.mem_range.2 hil)
 rw [dst1,hi] at hok1
 simp only [Bool.and_eq_true,Option.isNone_iff_eq_none,List.all_eq_true,List.mem_range] at hok1
 refine ⟨fun t u ht=>?_,fun j e hj he=>?_⟩
 ·rw [lk_cons_ne (fun e=>by subst e;rw [hok1.1] at ht;cases ht)];exact h.1 t u ht
 ·by_cases hji:j=i
  ·subst hji;rw [hi] at he;cases he;exact ⟨v,lk_cons_self _ _ _,hv⟩
  ·have hSj:S j=true:=by unfold setT at hj;rwa [if_neg hji] at hj
   obtain ⟨u,hu1,hu2⟩:=h.2 j e hSj he
   have hne:d≠e:=by
    intro e';subst e'
    have h2:=hok1.2 j (dstOf_lt he)
    have hb:Nat.beq i j=false:=beq_no (fun h=>hji h.symm)
    rw [hb,he] at h2
    simp at h2
   exact ⟨u,by rw [lk_cons_ne hne];exact hu1,hE j u hji hu2⟩
theorem Vals.add {pr:ε→Nat→Value→Prop} {S:Nat→Bool} {E:ε} (h:Vals l pr T S E T') {t:Nat} {u:Value} (hu:lk T' t=some u):Vals l pr T S E ((t,u) :: T'):=by
 have e:∀ s v,lk T' s=some v→lk ((t,u) :: T') s=some v:=fun s v hs=>by
  by_cases hst:t=s
  ·subst hst;rw [hu] at hs;cases hs;exact lk_cons_self _ _ _
  ·rw [lk_cons_ne hst];exact hs
 exact ⟨fun s v hs=>e s v (h.1 s v hs),fun i d hi hd=>by
  obtain ⟨v,h1,h2⟩:=h.2 i d hi hd
  exact ⟨v,e d v h1,h2⟩⟩
end
end
section
open Go.RowKit
section
variable {N:Nat} {D:List Deferred} {w0:World} {F:Nat→Prop} {G0 G G1 G2:GH} {L L1:OL} {T Xs:List (Nat × Value)}
variable {r:Option Nat} {P:Program} {Q:Exit→Act→World→Prop} {l:List Oper} {a a':Act} {w w':World}
theorem c_drawG {id:Nat} (hm:P.follows .mixedOrders=true) (clo:List (List Nat)) (B:List Nat) (hk:drawOk l clo=true) (hB:tailOk l clo B=true) (X:(Nat→Bool)→Act→World→Prop) (h0:X (fun _=>false) a w.drew)
  (hstep:∀ i o S a w,l[i]?=some o→B.contains i=false→S i=false→(∀ j∈clo.getD i [],S j=true)→(∀ j,j < l.length→i∈clo.getD j []→S j=false)→X S a w→WL r P l.toArray (fun e a' w'=>e=.normal∧X (setT S i) a' w') [o] a w)
  (hend:∀ S a w,(∀ i,i < l.length→B.contains i=false→S i=true)→(∀ i,B.contains i=true→S i=false)→X S a w→WL r P l.toArray (fun e a w=>e=.normal∧Q .normal a w) (opsAt l B) a w):WP r P (.region id l.toArray true) Q a w:=by
 have hB1:∀ p b,B[p]?=some b→b < l.length∧∀ i,i < l.length→(B.contains i=false∨(B.take p).contains i=true)→i∈clo.getD b []:=by
  intro p b hp
  simp only [tailOk,Bool.and_eq_true] at hB
  have h1:=List.all_eq_true.1 hB.1 p (List.mem_range.2 (List.getElem?_eq_some_iff.1 hp).1)
  rw [hp] at h1
  simp only [Bool.and_eq_true,List.all_eq_true,List.mem_range] at h1
  refine ⟨Eq.mp Nat.blt_eq h1.1,fun i hi hor=>?_⟩
  have h2:=h1.2 i hi
  rcases hor with h3|h3
  ·have h4:i∉B:=by simpa using h3
   simpa [h4] using h2
  ·have h4:i∈B.take p:=by simpa using h3
   simpa [h4] using h2
 have hB2:∀ i,i < l.length→B.contains i=false→∀ j∈clo.getD i [],B.contains j=false:=by
  intro i hi hb j hj
  simp only [tailOk,Bool.and_eq_true] at hB
  have h1:=List.all_eq_true.1 hB.2 i (List.mem_range.2 hi)
  rw [hb] at h1
  simp only [Bool.false_or,List.all_eq_true] at h1
  simpa using h1 j hj
 refine c_draw hm clo hk (fun S a w=>((∀ i,B.contains i=true→S i=false)∧X S a w) ∨
   ∃ p,(∀ i,i < l.length→B.contains i=false→S i=true)∧(∀ i,(B.take p).contains i=true→S i=true)∧(∀ q b,B[q]?=some b→p≤q→S b=false)∧WL r P l.toArray (fun e a w=>e=.normal∧Q .normal a w) (opsAt l (B.drop p)) a w)
  (.inl ⟨fun _ _=>rfl,h0⟩) ?_ ?_
 ·intro i o S a w ho hX hSi hclo hdesc
  have hil:i < l.length:=(List.getElem?_eq_some_iff.1 ho).1
  by_cases hbi:B.contains i=true
  ·-- an operation of the tail: all that stands ahead of it is done
   obtain ⟨p0,hp0⟩:=List.getElem?_of_mem (by simpa using hbi:i∈B)
   have hall:∀ j,j < l.length→B.contains j=false→S j=true:=fun j hj hb=>hclo j ((hB1 p0 i hp0).2 j hj (.inl hb))
   have hphase:∃ p,(∀ i,(B.take p).contains i=true→S i=true)∧(∀ q b,B[q]?=some b→p≤q→S b=false)∧WL r P l.toArray (fun e a w=>e=.normal∧Q .normal a w) (opsAt l (B.drop p)) a w:=by
    rcases hX with ⟨h1,hD⟩|⟨p,_,h2,h3,h4⟩
    ·exact ⟨0,by simp,fun q b hq _=>h1 b (by simpa using List.mem_of_getElem? hq),hend S a w hall h1 hD⟩
    ·exact ⟨p,h2,h3,h4⟩
   obtain ⟨p,h2,h3,h4⟩:=hphase
   -- i is the next one
   have hpp:p≤p0:=by
    rcases Nat.lt_or_ge p0 p with hlt|hge
    ·have:(B.take p).contains i=true:=by
      simp only [List.contains_iff_mem]
      exact List.mem_of_getElem? (i:=p0) (by rw [List.getElem?_take,if_pos hlt];exact hp0)
     rw [h2 i this] at hSi;cases hSi
    ·exact hge
   have hplt:p < B.length:=by have:=(List.getElem?_eq_some_iff.1 hp0).1;omega
   have hbp:B[p]?=some B[p]:=List.getElem?_eq_getElem hplt
   have heq:B[p]=i:=by
    rcases Nat.lt_or_ge p p0 with hlt|hge
    ·exfalso
     have hin:B[p]∈clo.getD i []:=(hB1 p0 i hp0).2 _ (hB1 p _ hbp).1 (.inr (by
      simp only [List.contains_iff_mem]
      exact List.mem_of_getElem? (i:=p) (by rw [List.getElem?_take,if_pos hlt];exact hbp)))
     have:=hclo _ hin
     rw [h3 p _ hbp (Nat.le_refl _)] at this;cases this
    ·have:p=p0:=by omega
     subst this
     rw [hbp] at hp0;simpa using hp0
   have hdrop:B.drop p=i :: B.drop (p+1):=by rw [List.drop_eq_getElem_cons hplt,heq]
   have hops:opsAt l (B.drop p)=o :: opsAt l (B.drop (p+1)):=by rw [hdrop];simp [opsAt,ho]
   rw [hops] at h4
   refine wl_split (fun a' w' h5=>.inr ⟨p+1,fun j hj hb=>?_,fun j hj=>?_,fun q b hq hpq=>?_,h5⟩) h4
   ·unfold setT;split
    ·rfl
    ·exact hall j hj hb
   ·unfold setT;split
    ·rfl
    ·rename_i hne
     refine h2 j ?_
     simp only [List.contains_iff_mem] at hj ⊢
     rw [List.take_succ_eq_append_getElem hplt,List.mem_append] at hj
     rcases hj with hj|hj
     ·exact hj
     ·simp only [List.mem_singleton] at hj;exact absurd (hj.trans heq) hne
   ·unfold setT
    rw [if_neg ?_]
    ·exact h3 q b hq (by omega)
    ·rintro rfl
     -- i would stand twice in B: it would come ahead of itself
     have h6:=(hB1 q b hq).2 b (hB1 q b hq).1 (.inr (by
      simp only [List.contains_iff_mem]
      exact List.mem_of_getElem? (i:=p) (by rw [List.getElem?_take,if_pos (by omega)];rw [hbp,heq])))
     rw [hclo _ h6] at hSi;cases hSi
  ·have hbi':B.contains i=false:=by cases h:B.contains i with|false=>rfl|true=>exact absurd h hbi
   rcases hX with ⟨h1,hX⟩|⟨p,h0,_,_,_⟩
   ·refine wl_mono (fun e a' w' ⟨he,hD⟩=>⟨he,.inl ⟨fun j hj=>?_,hD⟩⟩) (hstep i o S a w ho hbi' hSi hclo hdesc hX)
    unfold setT
    rw [if_neg (by rintro rfl;rw [hbi'] at hj;cases hj)]
    exact h1 j hj
   ·rw [h0 i hil hbi'] at hSi;cases hSi
 ·intro S a w hall hX
  rcases hX with ⟨h1,hD⟩|⟨p,_,_,h3,h4⟩
  ·have hnil:B=[]:=by
    cases B with
    | nil=>rfl
    | cons b B=>have h5:=h1 b (by simp);rw [hall b (hB1 0 b rfl).1] at h5;cases h5
   subst hnil
   exact (hend S a w (fun j hj _=>hall j hj) h1 hD).2
  ·have hnil:B.drop p=[]:=by
    cases hd:B.drop p with
    | nil=>rfl
    | cons b B' =>
     have hb:B[p]?=some b:=by
      have:=congrArg (fun x:List Nat=>x[0]?) hd
      simpa using this
     have h5:=h3 p b hb (Nat.le_refl _)
     rw [hall b (hB1 p b hb).1] at h5;cases h5
   rw [hnil] at h4
   exact h4.2
/-- The operation that makes what is owned more. -/
theorem draw_mid {pr:Nat→Value→GH→Prop} {S:Nat→Bool} {i d:Nat} {v:Value} (hok:dst1 l T i=true) (hi:dstOf l i=some d) 
  (HT:St N D w0 F G0 G1 L T a w) (Hb:St N D w0 F G0 G1 L (Xs++full N a) a w) (hG:∀ k o,G k=some o→G1 k=some o) (hv:∀ j d,j≠i→S j=true→dstOf l j=some d→∃ v,a.tmps[d]?=some v∧pr j v G1)
  (hp:pr i v G1) (H:St N D w0 F G0 G1 L1 ((d,v) :: (Xs++full N a)) a' w'):DX N D w0 F G0 G L1 T l pr (setT S i) a' w':=by
 have hil:i < l.length:=dstOf_lt hi
 have hok1:=hok
 rw [dst1,hi] at hok1
 simp only [Bool.and_eq_true,Option.isNone_iff_eq_none,List.all_eq_true,List.mem_range] at hok1
 have hsame:∀ t,t≠d→a'.tmps[t]?=a.tmps[t]?:=by
  intro t ht
  by_cases hlt:t < N
  ·have h1:∃ u,lk (Xs++full N a) t=some u:=by
    rw [lk_append]
    cases lk Xs t with
    | some u=>exact ⟨u,rfl⟩
    | none=>exact ⟨_,lk_full a hlt⟩
   obtain ⟨u,hu⟩:=h1
   rw [Hb.get t u hu,H.get t u (by rw [lk_cons_ne (Ne.symm ht)];exact hu)]
  ·rw [Array.getElem?_eq_none (by rw [H.asz];omega),Array.getElem?_eq_none (by rw [Hb.asz];omega)]
 refine ⟨G1,hG,⟨H.asz,fun t u ht=>?_,H.dfr,H.hp⟩,fun j e hj he=>?_⟩
 ·rw [hsame t (fun e=>by rw [e,hok1.1] at ht;cases ht)]
  exact HT.get t u ht
 ·by_cases hji:j=i
  ·subst hji
   rw [hi] at he
   simp only [Option.some.injEq] at he
   subst he
   exact ⟨v,H.get d v (lk_cons_self _ _ _),hp⟩
  ·have hSj:S j=true:=by unfold setT at hj;rwa [if_neg hji] at hj
   obtain ⟨u,hu1,hu2⟩:=hv j e hji hSj he
   have hne:e≠d:=by
    intro e'
    subst e'
    have h2:=hok1.2 j (dstOf_lt he)
    rw [beq_no (fun h=>hji h.symm),he] at h2
    simp at h2
   exact ⟨u,by rw [hsame e hne];exact hu1,hu2⟩
end
end
section
open Go.RowKit
section
variable {N:Nat} {D:List Deferred} {w0:World} {F:Nat→Prop} {G0 G:GH} {L:OL} {T:List (Nat × Value)}
variable {r:Option Nat} {P:Program} {ops:Array Oper} {Q:Exit→Act→World→Prop} {rest:List Oper} {a:Act} {w:World}
variable {d:Nat} {ty:TypeId} {pos:String} {aft:Array Edge} {g:Option (Nat × Bool)}
theorem s_makeMap {t:TypeId} (H:St N D w0 F G0 G L T a w) (hw:Region.wanted ⟨some d,.makeMap t none,ty,pos,aft,g⟩ (yielded ops a.tmps)=true) (hd:Nat.blt d N=true)
  (k:∀ b a' w',w0.heap.size≤b→St N D w0 F G0 G ((b,.map #[] 0) :: L) ((d,.map (some b)) :: T) a' w'→WL r P ops Q rest a' w'):WL r P ops Q (⟨some d,.makeMap t none,ty,pos,aft,g⟩ :: rest) a w:=by
 refine wl_value (v:=.map (some w.heap.size)) (w':=w.alloc (.map #[] 0)) hw rfl ?_ (k _ _ _ H.hp.size (H.put hd _ (H.hp.alloc _)))
 simp [execOp,Instr.makeMap,newObj,Sem.run,Sem.run_bind]
/-- What a lookup finds. -/
def mapV (an:Option (Nat × Value)) (zv:Value):Value × Bool:=match an with|some (_,v)=>(v,true)|none=>(zv,false)
theorem s_lookup {t kt et:TypeId} {kd:TypeDesc} {x y:Operand} {b i clock:Nat} {es:Array MapEntry} {ky zv:Value} (an:Option (Nat × Value)) (hm:P.underlying t=some (.map kt et)) (hk:P.underlying kt=some kd) (hz:(P.info? et).map (fun i=>i.zero)=some (some zv)) (H:St N D w0 F G0 G L T a w)
  (hw:Region.wanted ⟨some d,.lookup t x y true,ty,pos,aft,g⟩ (yielded ops a.tmps)=true) (hx:ev T x=some (.map (some b))) (hy:ev T y=some ky) (hi:L[i]?=some (b,.map es clock)) (hky:MapKept.IsKey kd ky) (hf:Instr.findNow kd ky es.toList 0=some an) (hd:Nat.blt d N=true)
  (k:∀ a',St N D w0 F G0 G L ((d,.tuple #[(mapV an zv).1,.bool (mapV an zv).2]) :: T) a' w→WL r P ops Q rest a' w):WL r P ops Q (⟨some d,.lookup t x y true,ty,pos,aft,g⟩ :: rest) a w:=by
 have hb:w.heap[b]?=some (.map es clock):=H.hp.own _ (List.mem_of_getElem? hi)
 obtain ⟨inf,hi1,hi2⟩:=Option.map_eq_some_iff.1 hz
 refine wl_value (v:=.tuple #[(mapV an zv).1,.bool (mapV an zv).2]) (w':=w) hw rfl ?_ (k _ (H.put hd _ H.hp))
 have h1:=MapKept.run_checkKey (w:=w) hk hky es.isEmpty 9999
 have h2:=MapKept.run_findKey (w:=w) hk hf
 cases an with
 | none=>simp [execOp,Instr.lookup,H.ev hx,H.ev hy,Sem.run_bind,run_und hm,MapKept.run_getObj_map hb,h1,h2,Result.andThen,zeroValue,run_info hi1,hi2,mapV]
 | some q=>simp [execOp,Instr.lookup,H.ev hx,H.ev hy,Sem.run_bind,run_und hm,MapKept.run_getObj_map hb,h1,h2,Result.andThen,mapV]
theorem upd_map {w:World} {b clock:Nat} {es:Array MapEntry} {o:Obj} (h:w.heap[b]?=some (.map es clock)):Upd b o w { w with heap:=w.heap.setIfInBounds b o }:=by
 have hlt:b < w.heap.size:=(Array.getElem?_eq_some_iff.1 h).1
 refine ⟨rfl,rfl,rfl,by simp,by simp [hlt],fun k hk=>?_⟩
 simp only
 rw [Array.getElem?_setIfInBounds_ne (Ne.symm hk)]
/-- A key that is not there yet. -/
theorem s_mapNew {t kt et:TypeId} {kd:TypeDesc} {x y z:Operand} {b i clock:Nat} {es:Array MapEntry} {ky v:Value} (hm:P.underlying t=some (.map kt et)) (hk:P.underlying kt=some kd) (H:St N D w0 F G0 G L T a w)
  (hw:Region.wanted ⟨none,.mapUpdate t x y z,ty,pos,aft,g⟩ (yielded ops a.tmps)=true) (hx:ev T x=some (.map (some b))) (hy:ev T y=some ky) (hzv:ev T z=some v) (hi:L[i]?=some (b,.map es clock)) (hky:MapKept.IsKey kd ky) (hf:Instr.findNow kd ky es.toList 0=some none)
  (k:∀ w',St N D w0 F G0 G (L.set i (b,.map (es.push ⟨ky,v,clock⟩) (clock+1))) T a w'→WL r P ops Q rest a w'):WL r P ops Q (⟨none,.mapUpdate t x y z,ty,pos,aft,g⟩ :: rest) a w:=by
 have hb:w.heap[b]?=some (.map es clock):=H.hp.own _ (List.mem_of_getElem? hi)
 have h1:=MapKept.run_checkKey (w:=w) hk hky false 9999
 have h2:=MapKept.run_findKey (w:=w) hk hf
 refine wl_unit (w':={ w with heap:=w.heap.setIfInBounds b (.map (es.push ⟨ky,v,clock⟩) (clock+1)) }) hw rfl ?_ (k _ (H.move (H.hp.upd hi (upd_map hb))))
 simp [execOp,Instr.mapUpdate,H.ev hx,H.ev hy,H.ev hzv,Sem.run_bind,run_und hm,MapKept.run_getObj_map hb,h1,h2,MapKept.run_setObj_map _ hb,Result.andThen]
theorem s_neqstr {t yt:TypeId} {x y:Operand} {p q:ByteArray} (H:St N D w0 F G0 G L T a w) (hw:Region.wanted ⟨some d,.binOp .neq t x y yt,ty,pos,aft,g⟩ (yielded ops a.tmps)=true) (hx:ev T x=some (.string p)) (hy:ev T y=some (.string q)) (hd:Nat.blt d N=true)
  (k:∀ a',St N D w0 F G0 G L ((d,.bool (!(p.toList == q.toList))) :: T) a' w→WL r P ops Q rest a' w):WL r P ops Q (⟨some d,.binOp .neq t x y yt,ty,pos,aft,g⟩ :: rest) a w:=by
 refine wl_value (v:=.bool (!(p.toList == q.toList))) (w':=w) hw rfl ?_ (k _ (H.put hd _ H.hp))
 simp [execOp,H.ev hx,H.ev hy,Sem.run_bind,eqGuard,binOp,Op.stringOp]
theorem Hp.mcell (h:Hp w0 F G0 G L w) {b o:Nat} {c:Array Value} {e:TypeId} {fz:Nat × Nat} {v:Value} (hm:(b,Obj.cells c e fz)∈L) (hv:c[o]?=some v):w.cell? ⟨b,o,none⟩=some v:=by
 have:=h.own _ hm
 simp only [World.cell?,this]
 exact hv
end
end
section
open Go.RowKit
section
variable {N:Nat} {D:List Deferred} {w0:World} {F:Nat→Prop} {G0 G G1 G2:GH} {L L1:OL} {T Xs:List (Nat × Value)}
variable {r:Option Nat} {P:Program} {Q:Exit→Act→World→Prop} {l:List Oper} {a a':Act} {w w':World}
end
end
section
open Go.RowKit
section
variable {N:Nat} {D:List Deferred} {w0:World} {F:Nat→Prop} {G0 G G1 G2:GH} {L L1 L2:OL} {T Xs:List (Nat × Value)}
variable {r:Option Nat} {P:Program} {Q:Exit→Act→World→Prop} {l:List Oper} {a a':Act} {w w':World}
end
end
section
open Go.RowKit
theorem liesS:liesAt Tryz.prog Tryz.prog.depth 228 (7 / Tryz.prog.cellsOf 228) 2 226 1=true:=by kernel_rfl
theorem en146lsc:∀ args w,(callFunc 146 args).run Tryz.prog w=.ok (.enter 146 args) w:=enters Tryz.func146 rfl (by kernel_rfl)
theorem ty5lsc:Ty Tryz.prog 5 1 1 [.int .u8 0] false:=⟨by kernel_rfl,by kernel_rfl⟩
/-- A scanner's block. -/
abbrev scB (b:Nat) (s:ByteArray) (i:Int) (p v q:Value) (pl e:Int):Nat × Obj:=(b,.cells #[.string s,vi i,p,v,q,vi pl,vi e] 228 (0,0))
theorem scopyNil (G:GH) (L:OL) (w0:World) (b:Nat) (s:ByteArray) (i:Int) (A:Option Addr) (n c:Nat) (B:Option Addr) (m d:Nat) (pl e:Int) (hO:Owns G (scB b s i (.pointer none) (.slice A n c) (.slice B m d) pl e :: L) w0) :
  Calls Tryz.prog 146 #[.pointer (some ⟨b,2,none⟩)] w0 (RetL w0 G (scB b s i (.pointer none) (.slice A n c) (.slice B m d) pl e :: L) fun u G' L'=>L'=scB b s i (.pointer (some ⟨b,2,none⟩)) (.slice A n c) (.slice B m d) pl e :: L∧G'=G):=by
 refine enterL (N:=20) (T:=[(0,_)]) Tryz.func146 rfl Tryz.ntmps146 rfl rfl hO ?_;intro a H;refine kP H (SR fun _ K1=>Rm rfl (Rk rfl (Rf fd226_0bld rfl (Ro ty224bld 0 rfl rfl ?_))));clear H;intro a H;refine s_eqnilp un224bld H wn rfl rfl ?_;clear H;intro a H;refine K1 _ _ ?_;clear K1;refine c_cond H rfl ?_ ?_
 ·intro h6
  try have p6:=dT h6
  refine kP H (SC (Rm rfl (Rm rfl ?_)));clear H;intro a H;refine s_toUnsafe un224bld un238bld sizB H wn rfl 0 rfl rfl rfl ?_;clear H;intro a H;refine s_noEscape (xs:=[.tmp 9]) (noEsc _) H wn rfl rfl ?_;clear H;intro a H;refine s_fromUnsafe un238bld un224bld sizB H wn rfl 0 rfl liesS rfl ?_;clear H;intro a H;refine kH H (Rk rfl (Rf fd226_0bld rfl ?_));clear H;intro a H;refine s_store ty224bld 0 (vs:=[_]) _ H wn rfl rfl rfl rfl rfl rfl rfl rfl ?_;clear H;intro w H;dsimp only [List.set,setRow] at H;refine wl_nil ?_;refine (leave0 H Tryz.results146 ?_).2;exact H.hp.retL ⟨rfl,rfl⟩
 intro h6
 try have p6:=dF h6
 exact absurd h6 (by decide)
theorem scopySelf (G:GH) (L:OL) (w0:World) (b:Nat) (s:ByteArray) (i:Int) (A:Option Addr) (n c:Nat) (B:Option Addr) (m d:Nat) (pl e:Int) (hO:Owns G (scB b s i (.pointer (some ⟨b,2,none⟩)) (.slice A n c) (.slice B m d) pl e :: L) w0) :
  Calls Tryz.prog 146 #[.pointer (some ⟨b,2,none⟩)] w0 (RetL w0 G (scB b s i (.pointer (some ⟨b,2,none⟩)) (.slice A n c) (.slice B m d) pl e :: L) fun u G' L'=>L'=scB b s i (.pointer (some ⟨b,2,none⟩)) (.slice A n c) (.slice B m d) pl e :: L∧G'=G):=by
 refine enterL (N:=20) (T:=[(0,_)]) Tryz.func146 rfl Tryz.ntmps146 rfl rfl hO ?_;intro a H;refine kP H (SR fun _ K1=>Rm rfl (Rk rfl (Rf fd226_0bld rfl (Ro ty224bld 0 rfl rfl ?_))));clear H;intro a H;refine s_eqnilp un224bld H wn rfl rfl ?_;clear H;intro a H;refine K1 _ _ ?_;clear K1;refine c_cond H rfl ?_ ?_
 ·intro h6
  try have p6:=dT h6
  exact absurd h6 (by simp)
 intro h6
 try have p6:=dF h6
 refine kP H (SR fun _ K2=>Rm rfl (Rk rfl (Rf fd226_0bld rfl (Ro ty224bld 0 rfl rfl (Rm rfl ?_)))));clear H;intro a H;refine s_neqsame un224bld sizB H wn rfl rfl rfl ?_;clear H;intro a H;refine K2 _ _ ?_;clear K2;refine c_cond H rfl ?_ ?_
 ·intro h19
  try have p19:=dT h19
  exact absurd h19 (by decide)
 intro h19
 try have p19:=dF h19
 refine c_skip ?_;refine (leave0 H Tryz.results146 ?_).2;exact H.hp.retL ⟨rfl,rfl⟩
theorem scopy_spec (G:GH) (L:OL) (w0:World) (b:Nat) (s:ByteArray) (i:Int) (p:Value) (A:Option Addr) (n c:Nat) (B:Option Addr) (m d:Nat) (pl e:Int) (hp:p=.pointer none∨p=.pointer (some ⟨b,2,none⟩)) (hO:Owns G (scB b s i p (.slice A n c) (.slice B m d) pl e :: L) w0) :
  Calls Tryz.prog 146 #[.pointer (some ⟨b,2,none⟩)] w0 (RetL w0 G (scB b s i p (.slice A n c) (.slice B m d) pl e :: L) fun u G' L'=>L'=scB b s i (.pointer (some ⟨b,2,none⟩)) (.slice A n c) (.slice B m d) pl e :: L∧G'=G):=by
 rcases hp with rfl|rfl
 ·exact scopyNil G L w0 b s i A n c B m d pl e hO
 exact scopySelf G L w0 b s i A n c B m d pl e hO
theorem wbyte_spec (G:GH) (Lp Lo:OL) (w0:World) (b:Nat) (s:ByteArray) (i:Int) (p v:Value) (B:Option Addr) (m d:Nat) (pl e:Int) (n:Nat) (xs:List Value) (c:Int) (hp:p=.pointer none∨p=.pointer (some ⟨b,2,none⟩)) (hO:Owns G (scB b s i p v (.slice B m d) pl e :: (Lp++Lo)) w0) (hrow:IsRow 5 1 v n xs Lo) (hn:n≤4294967296) :
  Calls Tryz.prog 141 #[.pointer (some ⟨b,2,none⟩),.int .u8 c] w0 (RetL w0 G (scB b s i p v (.slice B m d) pl e :: (Lp++Lo)) fun u G' L'=>∃ v' Lo',L'=scB b s i (.pointer (some ⟨b,2,none⟩)) v' (.slice B m d) pl e :: (Lp++Lo')∧IsRow 5 1 v' (n+1) (xs++[.int .u8 c]) Lo'∧G'=G):=by
 have hml:maxLen=9223372036854775807:=rfl;obtain ⟨A,c0,rfl,-,-⟩:=hrow.shape;obtain ⟨Lt,hLt⟩:∃ x,x=Lp++Lo:=⟨_,rfl⟩;rw [← hLt] at hO ⊢;refine enterL (N:=17) (T:=[(0,_),(1,_)]) Tryz.func141 rfl Tryz.ntmps141 rfl rfl hO ?_;intro a H;refine kP H (SR fun _ K1=>Ra rfl (Kz K1 (SR fun _ K2=>Rm rfl ?_)));clear H K1;intro a H;refine s_callL en146lsc (Li:=[]) (L:=scB b s i p _ (.slice B m d) pl e :: Lt) H wn rfl (scopy_spec _ _ _ b s i p A n c0 B m d pl e hp (Hp.owns (Li:=[]) H.hp)) rfl ?_;clear H;rintro v6 _ L6 a w ⟨rfl,rfl⟩ hm6 H;dsimp only [List.nil_append] at H;refine K2 _ _ ?_;clear K2;refine kP H (SR fun _ K3=>Rm rfl (Rm rfl (Rk rfl (Rf fd226_1bld rfl (Ro ty221bld 0 rfl rfl (Rm rfl ?_))))));clear H;intro a H;refine s_buildSlice un221bld ty5lsc [_] [_] H wn rfl rfl rfl rfl rfl (by intro i q h;match i,h with|0,h=>exact h|n+1,h=>simp at h) rfl rfl ?_;clear H;intro b13 a w hb13 H;subst hLt;have H:=St.un (A:=[_,_]) (B:=Lp) (C:=Lo) H;refine s_append (Li:=[_,_]++Lp) (Lo:=Lo) (news:=[.int .u8 c]) un221bld ty5lsc rfl rfl H wn rfl rfl hrow rfl (H.hp.ocells 0 rfl rfl) rfl (by omega) (by omega) rfl ?_;clear H;intro v14 Lo14 a w hrw14 H;obtain ⟨A14,c14,rfl,-,-⟩:=hrw14.shape;have H:=H.assoc;dsimp only [List.cons_append,List.nil_append] at H;refine kH H (Rk rfl (Rf fd226_1bld rfl ?_));clear H;intro a H;refine s_store ty221bld 1 (vs:=[_]) _ H wn rfl rfl rfl rfl rfl rfl rfl rfl ?_;clear H;intro w H;dsimp only [List.set,setRow] at H;refine K3 _ _ ?_;clear K3;refine kP H (SR fun _ K4=>Ra rfl (Kz K4 ?_));clear H K4;intro a H;refine lr H Tryz.results141 rfl ?_;exact H.hp.retD (L':=scB b s i _ _ _ pl e :: (Lp++Lo14)) (List.sublist_cons_self _ _) ⟨_,_,rfl,hrw14,rfl⟩
theorem slen_spec (G:GH) (L:OL) (w0:World) (b:Nat) (s:ByteArray) (i:Int) (p:Value) (A:Option Addr) (n c:Nat) (B:Option Addr) (m d:Nat) (pl e:Int) (hO:Owns G (scB b s i p (.slice A n c) (.slice B m d) pl e :: L) w0) :
  Calls Tryz.prog 147 #[.pointer (some ⟨b,2,none⟩)] w0 (RetL w0 G (scB b s i p (.slice A n c) (.slice B m d) pl e :: L) fun u G' L'=>u=vi n∧L'=scB b s i p (.slice A n c) (.slice B m d) pl e :: L∧G'=G):=by
 refine enterL (N:=8) (T:=[(0,_)]) Tryz.func147 rfl Tryz.ntmps147 rfl rfl hO ?_;intro a H;refine kP H (SR fun _ K1=>Ra rfl (Kz K1 (SR fun _ K2=>Rm rfl (Rk rfl (Rf fd226_1bld rfl (Ro ty221bld 0 rfl rfl (Rl un221bld rfl (Ra rfl (Kz K2 ?_)))))))));clear H K1 K2;intro a H;refine lr H Tryz.results147 rfl ?_;exact H.hp.retL ⟨rfl,rfl,rfl⟩
theorem sreset_spec (G:GH) (L:OL) (w0:World) (b:Nat) (s:ByteArray) (i:Int) (p:Value) (A:Option Addr) (n c:Nat) (B:Option Addr) (m d:Nat) (pl e:Int) (hO:Owns G (scB b s i p (.slice A n c) (.slice B m d) pl e :: L) w0) :
  Calls Tryz.prog 149 #[.pointer (some ⟨b,2,none⟩)] w0 (RetL w0 G (scB b s i p (.slice A n c) (.slice B m d) pl e :: L) fun u G' L'=>L'=scB b s i (.pointer none) (.slice none 0 0) (.slice B m d) pl e :: L∧G'=G):=by
 refine enterL (N:=8) (T:=[(0,_)]) Tryz.func149 rfl Tryz.ntmps149 rfl rfl hO ?_;intro a H;refine kP H (SR fun _ K1=>Rm rfl (Rk rfl (Rf fd226_0bld rfl ?_)));clear H;intro a H;refine s_store ty224bld 0 (vs:=[_]) _ H wn rfl rfl rfl rfl rfl rfl rfl rfl ?_;clear H;intro w H;dsimp only [List.set,setRow] at H;refine K1 _ _ ?_;clear K1;refine kP H (SC (Rm rfl (Rk rfl (Rf fd226_1bld rfl ?_))));clear H;intro a H;refine s_store ty221bld 0 (vs:=[_]) _ H wn rfl rfl rfl rfl rfl rfl rfl rfl ?_;clear H;intro w H;dsimp only [List.set,setRow] at H;refine wl_nil ?_;refine (leave0 H Tryz.results149 ?_).2;exact H.hp.retL ⟨rfl,rfl⟩
theorem sstr_spec (G:GH) (Lp Lo:OL) (w0:World) (b:Nat) (s:ByteArray) (i:Int) (p v:Value) (B:Option Addr) (m d:Nat) (pl e:Int) (l:List UInt8) (hO:Owns G (scB b s i p v (.slice B m d) pl e :: (Lp++Lo)) w0) (hrow:IsRow 5 1 v l.length (Lib.byteCells l) Lo) (h0:l≠[]) :
  Calls Tryz.prog 148 #[.pointer (some ⟨b,2,none⟩)] w0 (RetL w0 G (scB b s i p v (.slice B m d) pl e :: (Lp++Lo)) fun u G' L'=>u=.string ⟨l.toArray⟩∧L'=scB b s i p v (.slice B m d) pl e :: Lp):=by
 rcases hrow.2 with ⟨-,h,-⟩|⟨b2,cap,cur,rfl,rfl,hc1,hc2,hc3,hc4⟩
 ·exact absurd (List.eq_nil_of_length_eq_zero h) h0
 have hl0:l.length≠0:=fun h=>h0 (List.eq_nil_of_length_eq_zero h);have hml:maxLen=9223372036854775807:=rfl;obtain ⟨Lt,hLt⟩:∃ x,x=Lp++[(b2,Obj.cells cur 5 (0,0))]:=⟨_,rfl⟩;rw [← hLt] at hO ⊢;refine enterL (N:=14) (T:=[(0,_)]) Tryz.func148 rfl Tryz.ntmps148 rfl rfl hO ?_;intro a H;refine kP H (SR fun _ K1=>Ra rfl (Kz K1 (SQ fun _ K2=>?_)));clear H K1;intro a H;have H:=H.sub (T':=[(0,_)]) ⟨rfl,trivial⟩;refine c_drawI (hmx) [[],[0],[0,1],[0,1,2],[0,1,2,3],[],[5],[5,6],[5,6,7],[5,6,7,8],(List.range 10),(List.range 11)] [10,11] (by kernel_rfl) (by kernel_rfl) (fun (ix_:Nat) (v:Value) (G:GH)=>match ix_ with|0=>v=.pointer (some ⟨b,2,none⟩)|1=>v=.pointer (some ⟨b,2,none⟩)|2=>v=.pointer (some ⟨b,3,none⟩)|3=>v=.slice (some ⟨b2,0,none⟩) l.length cap|4=>v=.pointer (some ⟨b2,0,none⟩)|5=>v=.pointer (some ⟨b,2,none⟩)|6=>v=.pointer (some ⟨b,2,none⟩)|7=>v=.pointer (some ⟨b,3,none⟩)|8=>v=.slice (some ⟨b2,0,none⟩) l.length cap|9=>v=vi l.length|_=>True) (fun _ _ _ _ _ h=>h) H ?_ ?_
 ·clear H;refine al4 ?_ ?_ ?_ ?_ (al4 ?_ ?_ ?_ ?_ (al4 ?_ ?_ ?_ ?_ allI_nil))
  ·exact Z0 rfl rfl fun _ _ _ _ _=>Rm rfl
  ·exact Z1 0 3 rfl rfl fun _ _ _ _ _=>Rk rfl
  ·exact Z1 1 4 rfl rfl fun _ _ _ _ _=>Rf fd226_1bld rfl
  ·exact Z1 2 5 rfl rfl fun _ _ _ _ _=>Ro ty221bld 0 rfl rfl
  ·refine Op1 3 6 rfl rfl fun _ a w G1 hG HT H fin=>?_;refine s_sliceData H wn rfl (by omega) rfl ?_;clear H;intro a H;exact fin H iJ rfl
  ·exact Z0 rfl rfl fun _ _ _ _ _=>Rm rfl
  ·exact Z1 5 8 rfl rfl fun _ _ _ _ _=>Rk rfl
  ·exact Z1 6 9 rfl rfl fun _ _ _ _ _=>Rf fd226_1bld rfl
  ·exact Z1 7 10 rfl rfl fun _ _ _ _ _=>Ro ty221bld 0 rfl rfl
  ·exact Z1 8 11 rfl rfl fun _ _ _ _ _=>Rl un221bld rfl
  ·exact opB rfl
  exact opB rfl
 clear H;intro a w G hGm1 H hv;obtain ⟨u7,hu7,hp7⟩:=hv 4 7 (by decide) rfl;obtain rfl:u7=.pointer (some ⟨b2,0,none⟩):=hp7;have H:=H.addS hu7;obtain ⟨u12,hu12,hp12⟩:=hv 9 12 (by decide) rfl;obtain rfl:u12=vi l.length:=hp12;have H:=H.addS hu12;clear hv;subst hLt;have H:=H.perm (List.Perm.cons _ List.perm_append_comm);dsimp only [List.cons_append,List.nil_append] at H;refine s_unsafeString (i:=1) l un240bld cellsU8 h0 (by omega) H wn rfl rfl rfl (by rw [← hc4,Nat.mul_one]) rfl ?_;clear H;intro fz a w H;dsimp only [List.set] at H;refine kH H (Ra rfl ?_);clear H;intro a H;refine wl_nil ⟨rfl,?_⟩;refine K2 _ _ ?_;clear K2;refine lr H Tryz.results148 rfl ?_;exact H.hp.retD (L':=scB b s i _ _ _ pl e :: Lp) (List.Sublist.cons_cons _ (List.sublist_cons_self _ _)) ⟨rfl,rfl⟩
end
section
open Go.RowKit
section
variable {N:Nat} {D:List Deferred} {w0:World} {F:Nat→Prop} {G0 G G1 G2:GH} {L L1 L2:OL} {T Xs:List (Nat × Value)}
variable {r:Option Nat} {P:Program} {Q:Exit→Act→World→Prop} {l:List Oper} {a a':Act} {w w':World}
theorem DX.perm {pr:Nat→Value→GH→Prop} {S:Nat→Bool} (h:DX N D w0 F G0 G L1 T l pr S a w) (hp:L1.Perm L2):DX N D w0 F G0 G L2 T l pr S a w:=by
 obtain ⟨G1,hG,HS,hv⟩:=h
 exact ⟨G1,hG,HS.perm hp,hv⟩
end
end
section
open Go.RowKit
section
variable {N:Nat} {D:List Deferred} {w0:World} {F:Nat→Prop} {G0 G G1 G2:GH} {L L1 L2:OL} {T Xs:List (Nat × Value)}
variable {r:Option Nat} {P:Program} {Q:Exit→Act→World→Prop} {l:List Oper} {a a':Act} {w w':World}
theorem draw_valL {pr:Nat→Value→GH→Prop} {S:Nat→Bool} {i d:Nat} {v:Value} (hok:dst1 l T i=true) (hprm:∀ i v (G G':GH),(∀ k o,G k=some o→G' k=some o)→pr i v G→pr i v G') (hi:dstOf l i=some d)
  (HT:St N D w0 F G0 G1 L T a w) (Hb:St N D w0 F G0 G1 L (Xs++full N a) a w) (hG:∀ k o,G k=some o→G1 k=some o) (hv:∀ j d,j≠i→S j=true→dstOf l j=some d→∃ v,a.tmps[d]?=some v∧pr j v G1)
  (hG2:∀ k o,G1 k=some o→G2 k=some o) (hp:pr i v G2) (H:St N D w0 F G0 G2 L1 ((d,v) :: (Xs++full N a)) a' w'):DX N D w0 F G0 G L1 T l pr (setT S i) a' w':=by
 have hok1:=hok
 rw [dst1,hi] at hok1
 simp only [Bool.and_eq_true,Option.isNone_iff_eq_none,List.all_eq_true,List.mem_range] at hok1
 have hsame:∀ t,t≠d→a'.tmps[t]?=a.tmps[t]?:=by
  intro t ht
  by_cases hlt:t < N
  ·have h1:∃ u,lk (Xs++full N a) t=some u:=by
    rw [lk_append]
    cases lk Xs t with
    | some u=>exact ⟨u,rfl⟩
    | none=>exact ⟨_,lk_full a hlt⟩
   obtain ⟨u,hu⟩:=h1
   rw [Hb.get t u hu,H.get t u (by rw [lk_cons_ne (Ne.symm ht)];exact hu)]
  ·rw [Array.getElem?_eq_none (by rw [H.asz];omega),Array.getElem?_eq_none (by rw [Hb.asz];omega)]
 refine ⟨G2,fun k o hk=>hG2 k o (hG k o hk),⟨H.asz,fun t u ht=>?_,H.dfr,H.hp⟩,fun j e hj he=>?_⟩
 ·rw [hsame t (fun e=>by rw [e,hok1.1] at ht;cases ht)]
  exact HT.get t u ht
 ·by_cases hji:j=i
  ·subst hji
   rw [hi] at he
   simp only [Option.some.injEq] at he
   subst he
   exact ⟨v,H.get d v (lk_cons_self _ _ _),hp⟩
  ·have hSj:S j=true:=by unfold setT at hj;rwa [if_neg hji] at hj
   obtain ⟨u,hu1,hu2⟩:=hv j e hji hSj he
   have hne:e≠d:=by
    intro e'
    subst e'
    have h2:=hok1.2 j (dstOf_lt he)
    rw [beq_no (fun h=>hji h.symm),he] at h2
    simp at h2
   exact ⟨u,by rw [hsame e hne];exact hu1,hprm j u _ _ hG2 hu2⟩
/-- Operation m1 turns L into L2, operation m2 behind it makes a block, operation m3 behind that turns all into L3; the others look into C alone. -/
theorem c_drawLM3 {id:Nat} {κ:Type} (k0:κ) (hm:P.follows .mixedOrders=true) (clo:List (List Nat)) (B:List Nat) (hk:drawOk l clo=true) (hB:tailOk l clo B=true) (m1 m2 m3:Nat) (hmB1:B.contains m1=false) (hmB2:B.contains m2=false) (hmB3:B.contains m3=false) (hne:Nat.beq m1 m2=false) (hne3:Nat.beq m2 m3=false) (hne1:Nat.beq m1 m3=false) (h12:(clo.getD m2 []).contains m1=true) (h13:(clo.getD m3 []).contains m1=true) (h23:(clo.getD m3 []).contains m2=true)
  (C L2:OL) (ob:Obj) (L3:Nat→κ→OL) (hC:∀ x,x∈C→x∈L) (hC2:∀ x,x∈C→x∈L2) (hC3:∀ b k x,x∈C→x∈L3 b k) (pr:Nat→κ→Nat→Value→GH→Prop)
  (hprb:∀ b b' k i v G,Nat.beq i m2=false→(clo.getD i []).contains m2=false→pr b k i v G→pr b' k i v G)
  (hprk:∀ b k k' i v G,Nat.beq i m3=false→(clo.getD i []).contains m3=false→pr b k i v G→pr b k' i v G)
  (H:St N D w0 F G0 G L T a w)
  (hstep:allI (fun i o=>∀ b k L' S a w G1,(∀ x,x∈C→x∈L')→B.contains i=false→Nat.beq i m1=false→Nat.beq i m2=false→Nat.beq i m3=false→S i=false→(∀ j∈clo.getD i [],S j=true)→(∀ k o,G k=some o→G1 k=some o)→St N D w0 F G0 G1 L' T a w→(∀ i d,S i=true→dstOf l i=some d→∃ v,a.tmps[d]?=some v∧pr b k i v G1) →
   WL r P l.toArray (fun e a' w'=>e=.normal∧DX N D w0 F G0 G L' T l (pr b k) (setT S i) a' w') [o] a w) 0 l)
  (hmid1:∀ o b k S a w G1,l[m1]?=some o→S m1=false→(∀ j∈clo.getD m1 [],S j=true)→(∀ k o,G k=some o→G1 k=some o)→St N D w0 F G0 G1 L T a w→(∀ i d,i≠m1→S i=true→dstOf l i=some d→∃ v,a.tmps[d]?=some v∧pr b k i v G1) →
   WL r P l.toArray (fun e a' w'=>e=.normal∧DX N D w0 F G0 G L2 T l (pr b k) (setT S m1) a' w') [o] a w)
  (hmid2:∀ o k S a w G1,l[m2]?=some o→S m2=false→(∀ j∈clo.getD m2 [],S j=true)→(∀ k o,G k=some o→G1 k=some o)→St N D w0 F G0 G1 L2 T a w→(∀ b i d,i≠m2→S i=true→dstOf l i=some d→∃ v,a.tmps[d]?=some v∧pr b k i v G1) →
   WL r P l.toArray (fun e a' w'=>e=.normal∧∃ b,DX N D w0 F G0 G ((b,ob) :: L2) T l (pr b k) (setT S m2) a' w') [o] a w)
  (hmid3:∀ o b S a w G1,l[m3]?=some o→S m3=false→(∀ j∈clo.getD m3 [],S j=true)→(∀ k o,G k=some o→G1 k=some o)→St N D w0 F G0 G1 ((b,ob) :: L2) T a w→(∀ k i d,i≠m3→S i=true→dstOf l i=some d→∃ v,a.tmps[d]?=some v∧pr b k i v G1) →
   WL r P l.toArray (fun e a' w'=>e=.normal∧∃ k,DX N D w0 F G0 G (L3 b k) T l (pr b k) (setT S m3) a' w') [o] a w)
  (hend:∀ b k a w G1,(∀ k o,G k=some o→G1 k=some o)→St N D w0 F G0 G1 (L3 b k) T a w→(∀ i d,B.contains i=false→dstOf l i=some d→∃ v,a.tmps[d]?=some v∧pr b k i v G1)→WL r P l.toArray (fun e a w=>e=.normal∧Q .normal a w) (opsAt l B) a w)
  (hml2:Nat.blt m2 l.length=true) (hml3:Nat.blt m3 l.length=true):WP r P (.region id l.toArray true) Q a w:=by
 have ne12:m1≠m2:=fun e=>by subst e;rw [Nat.beq_refl] at hne;cases hne
 have ne23:m2≠m3:=fun e=>by subst e;rw [Nat.beq_refl] at hne3;cases hne3
 have ne13:m1≠m3:=fun e=>by subst e;rw [Nat.beq_refl] at hne1;cases hne1
 refine c_drawG hm clo B hk hB (fun S a w=>(S m2=true→S m1=true)∧(S m3=true→S m2=true)∧∃ b k L',L'=(bif S m3 then L3 b k else bif S m2 then (b,ob) :: L2 else bif S m1 then L2 else L)∧DX N D w0 F G0 G L' T l (pr b k) S a w)
  ⟨fun h=>h,fun h=>h,0,k0,L,rfl,G,fun _ _ h=>h,H.move H.hp.drew,fun _ _ h=>absurd (show false=true from h) (by decide)⟩ ?_ ?_
 ·rintro i o S a w ho hb hSi hclo hdesc ⟨hord,hord3,b,k,L',hL,G1,hG,HS,hv⟩
  have hsub:∀ x,x∈C→x∈L':=fun x hx=>by
   rw [hL]
   cases S m3 with
   | true=>exact hC3 b k x hx
   | false=>cases S m2 with
    | true=>exact List.mem_cons_of_mem _ (hC2 x hx)
    | false=>cases S m1 with
     | true=>exact hC2 x hx
     | false=>exact hC x hx
  have hno:∀ j,j < l.length→S j=true→(clo.getD j []).contains i=false:=fun j hjl hj=>by
   cases hc:(clo.getD j []).contains i with
   | false=>rfl
   | true =>
    have:=hdesc j hjl (by simpa using hc)
    rw [this] at hj;cases hj
  by_cases h1:i=m1
  ·subst h1
   have hS2:S m2=false:=hdesc m2 (Eq.mp Nat.blt_eq hml2) (by simpa using h12)
   have hS3:S m3=false:=hdesc m3 (Eq.mp Nat.blt_eq hml3) (by simpa using h13)
   rw [hS3,hS2,hSi] at hL
   subst hL
   have h:=hmid1 o b k S a w G1 ho hSi hclo hG HS fun j d hj hSj hd=>hv j d hSj hd
   have e2:setT S i m2=S m2:=if_neg (fun e=>ne12 e.symm)
   have e3:setT S i m3=S m3:=if_neg (fun e=>ne13 e.symm)
   refine wl_mono (fun e a' w' ⟨he,hD⟩=>⟨he,fun _=>if_pos rfl,fun h=>(by rw [e3,hS3] at h;cases h),b,k,_,?_,hD⟩) h
   rw [show setT S i i=true from if_pos rfl,e2,e3,hS2,hS3]
   rfl
  ·by_cases h2:i=m2
   ·subst h2
    have hS1:S m1=true:=hclo m1 (by simpa using h12)
    have hS3:S m3=false:=hdesc m3 (Eq.mp Nat.blt_eq hml3) (by simpa using h23)
    rw [hS3,hSi,hS1] at hL
    subst hL
    have e1:setT S i m1=S m1:=if_neg ne12
    have e3:setT S i m3=S m3:=if_neg (fun e=>ne23 e.symm)
    have h:=hmid2 o k S a w G1 ho hSi hclo hG HS fun b' j d hj hSj hd=>by
     obtain ⟨v,hv1,hv2⟩:=hv j d hSj hd
     exact ⟨v,hv1,hprb b b' k j v _ (beq_no hj) (hno j (dstOf_lt hd) hSj) hv2⟩
    refine wl_mono (fun e a' w' ⟨he,b',hD⟩=>⟨he,fun _=>by rw [e1];exact hS1,fun _=>if_pos rfl,b',k,_,?_,hD⟩) h
    rw [show setT S i i=true from if_pos rfl,e3,hS3];rfl
   ·by_cases h3:i=m3
    ·subst h3
     have hS1:S m1=true:=hclo m1 (by simpa using h13)
     have hS2:S m2=true:=hclo m2 (by simpa using h23)
     rw [hSi,hS2] at hL
     subst hL
     have e1:setT S i m1=S m1:=if_neg ne13
     have e2:setT S i m2=S m2:=if_neg ne23
     have h:=hmid3 o b S a w G1 ho hSi hclo hG HS fun k' j d hj hSj hd=>by
      obtain ⟨v,hv1,hv2⟩:=hv j d hSj hd
      exact ⟨v,hv1,hprk b k k' j v _ (beq_no hj) (hno j (dstOf_lt hd) hSj) hv2⟩
     refine wl_mono (fun e a' w' ⟨he,k',hD⟩=>⟨he,fun _=>by rw [e1];exact hS1,fun _=>by rw [e2];exact hS2,b,k',_,?_,hD⟩) h
     rw [show setT S i i=true from if_pos rfl];rfl
    ·have h:=allI_get hstep i o ho
     rw [Nat.zero_add] at h
     have e1:setT S i m1=S m1:=if_neg (fun e=>h1 e.symm)
     have e2:setT S i m2=S m2:=if_neg (fun e=>h2 e.symm)
     have e3:setT S i m3=S m3:=if_neg (fun e=>h3 e.symm)
     refine wl_mono (fun e a' w' ⟨he,hD⟩=>⟨he,by rw [e1,e2];exact hord,by rw [e2,e3];exact hord3,b,k,L',?_,hD⟩) (h b k L' S a w G1 hsub hb (beq_no h1) (beq_no h2) (beq_no h3) hSi hclo hG HS hv)
     rw [e1,e2,e3];exact hL
 ·rintro S a w hall hnB ⟨_,_,b,k,L',hL,G1,hG,HS,hv⟩
  have hs3:S m3=true:=hall m3 (Eq.mp Nat.blt_eq hml3) hmB3
  rw [hs3] at hL
  subst hL
  exact hend b k a w G1 hG HS fun j d hb hd=>hv j d (hall j (dstOf_lt hd) hb) hd
end
theorem u8_wrap {z:Int} (h1:0≤z) (h2:z < 256):IntKind.u8.wrap z=z:=by
 simp only [IntKind.wrap,IntKind.bits,IntKind.signed,Bool.false_and,Bool.false_eq_true,if_false]
 omega
section
variable {N:Nat} {D:List Deferred} {w0:World} {F:Nat→Prop} {G0 G:GH} {L:OL} {T:List (Nat × Value)}
variable {r:Option Nat} {P:Program} {ops:Array Oper} {Q:Exit→Act→World→Prop} {rest:List Oper} {a:Act} {w:World}
variable {d:Nat} {ty:TypeId} {pos:String} {aft:Array Edge} {g:Option (Nat × Bool)}
theorem s_subu {x y:Operand} {t yt:TypeId} {p q:Int} (H:St N D w0 F G0 G L T a w) (hw:Region.wanted ⟨some d,.binOp .sub t x y yt,ty,pos,aft,g⟩ (yielded ops a.tmps)=true) (hx:ev T x=some (.int .u8 p)) (hy:ev T y=some (.int .u8 q)) (h1:0≤p - q) (h2:p - q < 256) (hd:Nat.blt d N=true)
  (k:∀ a',St N D w0 F G0 G L ((d,.int .u8 (p - q)) :: T) a' w→WL r P ops Q rest a' w):WL r P ops Q (⟨some d,.binOp .sub t x y yt,ty,pos,aft,g⟩ :: rest) a w :=
 wl_value (v:=.int .u8 (p - q)) (w':=w) hw rfl (by simp [execOp,eqGuard,binOp,Op.intArith,H.ev hx,H.ev hy,Sem.run_bind,u8_wrap h1 h2]) (k _ (H.put hd _ H.hp))
end
end
section
open Go.RowKit
theorem en147lfl:∀ args w,(callFunc 147 args).run Tryz.prog w=.ok (.enter 147 args) w:=enters Tryz.func147 rfl (by kernel_rfl)
theorem ty205lfl:Ty Tryz.prog 205 1 24 [.slice none 0 0] false:=⟨by kernel_rfl,by kernel_rfl⟩
theorem en148lfl:∀ args w,(callFunc 148 args).run Tryz.prog w=.ok (.enter 148 args) w:=enters Tryz.func148 rfl (by kernel_rfl)
theorem un205lfl:Tryz.prog.underlying 205=some (.slice 210):=by kernel_rfl
theorem ty210lfl:Ty Tryz.prog 210 3 32 [.string ⟨#[]⟩,.int .i64 0,.bool false] true:=⟨by kernel_rfl,by kernel_rfl⟩
theorem en149lfl:∀ args w,(callFunc 149 args).run Tryz.prog w=.ok (.enter 149 args) w:=enters Tryz.func149 rfl (by kernel_rfl)
theorem fd228_2lfl:Fld Tryz.prog 228 2 2:=⟨by kernel_rfl⟩
theorem fd228_3lfl:Fld Tryz.prog 228 3 4:=⟨by kernel_rfl⟩
theorem sr210lfl:Srt Tryz.prog 210 [(0,1),(1,1),(2,1)] [.string ⟨#[]⟩,.int .i64 0,.bool false]:=⟨by kernel_rfl,by kernel_rfl⟩
theorem en142lfl:∀ args w,(callFunc 142 args).run Tryz.prog w=.ok (.enter 142 args) w:=enters Tryz.func142 rfl (by kernel_rfl)
theorem fd228_4lfl:Fld Tryz.prog 228 4 5:=⟨by kernel_rfl⟩
structure LpD where
 lit:ByteArray
 level:Int
 plain:Bool
def LpD.dat (x:LpD):List Dat:=[.lf (.string x.lit),li x.level,.lf (.bool x.plain)]
abbrev LpD.cells (x:LpD):List Value:=[.string x.lit,vi x.level,.bool x.plain]
theorem lp_row (G:GH) (x:LpD):RepRow G x.dat x.cells:=by
 simp only [LpD.dat,LpD.cells,RepRow]
 exact ⟨_,_,rfl,by simp [RepV,Value.oneCell'],_,_,rfl,by simp [RepV,Value.oneCell'],_,_,rfl,by simp [RepV,Value.oneCell'],rfl⟩
theorem lp_of {G:GH} {x:LpD} {cs:List Value} (h:RepRow G x.dat cs):cs=x.cells:=by
 simp only [LpD.dat,RepRow,RepV] at h
 obtain ⟨_,_,rfl,⟨rfl,_⟩,_,_,rfl,⟨rfl,_⟩,_,_,rfl,⟨rfl,_⟩,rfl⟩:=h
 rfl
def lpC (l:List LpD):List Value:=(l.map LpD.cells).flatten
theorem lpC_snoc (l:List LpD) (x:LpD):lpC (l++[x])=lpC l++x.cells:=by simp [lpC]
/-- What the scanner holds besides its numbers: the literal that was begun, and the parts. -/
structure ScR (b:Nat) (lit:List UInt8) (parts:List LpD) (p v q:Value) (Lp Lo:OL):Prop where
 ptr:p=.pointer none∨p=.pointer (some ⟨b,2,none⟩)
 buf:IsRow 5 1 v lit.length (Lib.byteCells lit) Lo
 prt:IsRow 210 3 q parts.length (lpC parts) Lp
def flS (lit:List UInt8) (parts:List LpD):List LpD:=if lit=[] then parts else parts++[⟨⟨lit.toArray⟩,0,false⟩]
set_option maxHeartbeats 1000000 in
theorem flush_spec (G:GH) (Lp Lo:OL) (w0:World) (b:Nat) (s:ByteArray) (i:Int) (p v q:Value) (pl e:Int) (lit:List UInt8) (parts:List LpD) (hR:ScR b lit parts p v q Lp Lo) (hO:Owns G (scB b s i p v q pl e :: (Lp++Lo)) w0) (hl:lit.length≤4294967296) (hp:parts.length≤4294967296) :
  Calls Tryz.prog 142 #[.pointer (some ⟨b,0,none⟩)] w0 (RetL w0 G (scB b s i p v q pl e :: (Lp++Lo)) fun u G' L'=>∃ p' v' q' Lp' Lo',L'=scB b s i p' v' q' pl e :: (Lp'++Lo')∧ScR b [] (flS lit parts) p' v' q' Lp' Lo'):=by
 obtain ⟨hptr,hbuf,hprt⟩:=hR;have hml:maxLen=9223372036854775807:=rfl;obtain ⟨A,c,rfl,hvc1,hvc2⟩:=hbuf.shape;obtain ⟨B,d,rfl,hqc1,hqc2⟩:=hprt.shape;obtain ⟨Lt,hLt⟩:∃ x,x=Lp++Lo:=⟨_,rfl⟩;rw [← hLt] at hO ⊢;refine enterL (N:=25) (T:=[(0,_)]) Tryz.func142 rfl Tryz.ntmps142 rfl rfl hO ?_;intro a H;refine kP H (SR fun _ K1=>Rm rfl (Rk rfl (Rf fd228_2lfl rfl ?_)));clear H;intro a H;refine s_callL en147lfl (Li:=[]) (L:=scB b s i p (.slice A lit.length c) (.slice B parts.length d) pl e :: Lt) H wn rfl (slen_spec _ _ _ b s i p A lit.length c B parts.length d pl e (Hp.owns (Li:=[]) H.hp)) rfl ?_;clear H;rintro v5 _ L5 a w ⟨rfl,rfl,rfl⟩ hm5 H;dsimp only [List.nil_append] at H;refine kH H (Rc rfl (Kz K1 ?_));clear H K1;intro a H;refine c_cond H rfl ?_ ?_
 ·intro h6
  try have p6:=dT h6
  have hne:lit≠[]:=fun e=>by rw [e] at p6;simp at p6
  subst hLt;refine c_seq (fun _ K2=>?_)
  have hprm1:∀ (bM_:Nat) (kE_:(Option Addr × Nat) × OL) (ix_:Nat) (v:Value) (G G':GH),(∀ k o,G k=some o→G' k=some o)→(fun (bM_:Nat) (kE_:(Option Addr × Nat) × OL) (ix_:Nat) (v:Value) (G:GH)=>match ix_ with|0=>v=.pointer (some ⟨b,0,none⟩)|1=>v=.pointer (some ⟨b,0,none⟩)|2=>v=.pointer (some ⟨b,0,none⟩)|3=>v=.pointer (some ⟨b,4,none⟩)|4=>v=.slice B parts.length d|5=>v=.pointer (some ⟨b,0,none⟩)|6=>v=.pointer (some ⟨b,0,none⟩)|7=>v=.pointer (some ⟨b,2,none⟩)|8=>v=.string ⟨lit.toArray⟩|9=>v=.agg (LpD.cells ⟨⟨lit.toArray⟩,0,false⟩).toArray|10=>v=.slice (some ⟨bM_,0,none⟩) 1 1|11=>v=.slice kE_.1.1 (parts.length+1) kE_.1.2∧IsRow 210 3 v (parts.length+1) (lpC (parts++[⟨⟨lit.toArray⟩,0,false⟩])) kE_.2|_=>True) bM_ kE_ ix_ v G→(fun (bM_:Nat) (kE_:(Option Addr × Nat) × OL) (ix_:Nat) (v:Value) (G:GH)=>match ix_ with|0=>v=.pointer (some ⟨b,0,none⟩)|1=>v=.pointer (some ⟨b,0,none⟩)|2=>v=.pointer (some ⟨b,0,none⟩)|3=>v=.pointer (some ⟨b,4,none⟩)|4=>v=.slice B parts.length d|5=>v=.pointer (some ⟨b,0,none⟩)|6=>v=.pointer (some ⟨b,0,none⟩)|7=>v=.pointer (some ⟨b,2,none⟩)|8=>v=.string ⟨lit.toArray⟩|9=>v=.agg (LpD.cells ⟨⟨lit.toArray⟩,0,false⟩).toArray|10=>v=.slice (some ⟨bM_,0,none⟩) 1 1|11=>v=.slice kE_.1.1 (parts.length+1) kE_.1.2∧IsRow 210 3 v (parts.length+1) (lpC (parts++[⟨⟨lit.toArray⟩,0,false⟩])) kE_.2|_=>True) bM_ kE_ ix_ v G':=by
   intro bM_ kE_ ix_ v G G' hm h
   match ix_,h with
   | 0,h=>exact h
   | 1,h=>exact h
   | 2,h=>exact h
   | 3,h=>exact h
   | 4,h=>exact h
   | 5,h=>exact h
   | 6,h=>exact h
   | 7,h=>exact h
   | 8,h=>exact h
   | 9,h=>exact h
   | 10,h=>exact h
   | 11,h=>exact h
   | 12,h=>exact trivial
   | 13,h=>exact trivial
   | 14,h=>exact trivial
   | _+15,h=>exact trivial
  refine c_drawLM3 (κ:=(Option Addr × Nat) × OL) (((none,0),[])) (hmx) [[],[],[1],[1,2],[1,2,3],[],[5],[5,6],[5,6,7],[5,6,7,8],[5,6,7,8,9],[1,2,3,4,5,6,7,8,9,10],(List.range 12),(List.range 13),(List.range 14)] [12,13,14] (by kernel_rfl) (by kernel_rfl) 8 10 11 (by decide) (by decide) (by decide) (by decide) (by decide) (by decide) (by decide) (by decide) (by decide) [scB b s i p (.slice A lit.length c) (.slice B parts.length d) pl e] (scB b s i p (.slice A lit.length c) (.slice B parts.length d) pl e :: Lp) (.cells (LpD.cells ⟨⟨lit.toArray⟩,0,false⟩).toArray 210 (0,0)) (fun b_ k_=>(b_,.cells (LpD.cells ⟨⟨lit.toArray⟩,0,false⟩).toArray 210 (0,0)) :: scB b s i p (.slice A lit.length c) (.slice B parts.length d) pl e :: k_.2) (fun x hx=>by rw [List.mem_singleton.1 hx];exact List.mem_cons_self) (fun x hx=>by rw [List.mem_singleton.1 hx];exact List.mem_cons_self) (fun _ _ x hx=>by rw [List.mem_singleton.1 hx];exact List.mem_cons_of_mem _ List.mem_cons_self) (fun (bM_:Nat) (kE_:(Option Addr × Nat) × OL) (ix_:Nat) (v:Value) (G:GH)=>match ix_ with|0=>v=.pointer (some ⟨b,0,none⟩)|1=>v=.pointer (some ⟨b,0,none⟩)|2=>v=.pointer (some ⟨b,0,none⟩)|3=>v=.pointer (some ⟨b,4,none⟩)|4=>v=.slice B parts.length d|5=>v=.pointer (some ⟨b,0,none⟩)|6=>v=.pointer (some ⟨b,0,none⟩)|7=>v=.pointer (some ⟨b,2,none⟩)|8=>v=.string ⟨lit.toArray⟩|9=>v=.agg (LpD.cells ⟨⟨lit.toArray⟩,0,false⟩).toArray|10=>v=.slice (some ⟨bM_,0,none⟩) 1 1|11=>v=.slice kE_.1.1 (parts.length+1) kE_.1.2∧IsRow 210 3 v (parts.length+1) (lpC (parts++[⟨⟨lit.toArray⟩,0,false⟩])) kE_.2|_=>True) (fun b b' k i v G hi hc h=>by match i,hi,hc,h with|0,_,_,h=>exact h|1,_,_,h=>exact h|2,_,_,h=>exact h|3,_,_,h=>exact h|4,_,_,h=>exact h|5,_,_,h=>exact h|6,_,_,h=>exact h|7,_,_,h=>exact h|8,_,_,h=>exact h|9,_,_,h=>exact h|10,hi,_,_=>exact absurd hi (by decide)|11,_,hc,_=>exact absurd hc (by decide)|12,_,hc,_=>exact absurd hc (by decide)|13,_,hc,_=>exact absurd hc (by decide)|14,_,hc,_=>exact absurd hc (by decide)|_+15,_,_,_=>exact trivial) (fun b k k' i v G hi hc h=>by match i,hi,hc,h with|0,_,_,h=>exact h|1,_,_,h=>exact h|2,_,_,h=>exact h|3,_,_,h=>exact h|4,_,_,h=>exact h|5,_,_,h=>exact h|6,_,_,h=>exact h|7,_,_,h=>exact h|8,_,_,h=>exact h|9,_,_,h=>exact h|10,_,_,h=>exact h|11,hi,_,_=>exact absurd hi (by decide)|12,_,hc,_=>exact absurd hc (by decide)|13,_,hc,_=>exact absurd hc (by decide)|14,_,hc,_=>exact absurd hc (by decide)|_+15,_,_,_=>exact trivial) H ?_ ?_ ?_ ?_ ?_ (by kernel_rfl) (by kernel_rfl)
  ·clear H;refine al4 ?_ ?_ ?_ ?_ (al4 ?_ ?_ ?_ ?_ (al4 ?_ ?_ ?_ ?_ (allI_cons ?_ (allI_cons ?_ (allI_cons ?_ allI_nil)))))
   ·intro bM_ kE_ Lx_ Sd_ a w G1 hLx_ _ _ _ _ hSi hc hG HT hv;have H:=HT;clear hSi;have Hb:=H.full;have H:=Hb;clear hc;refine kH H (Rm rfl ?_);clear H;intro a H;refine wl_nil ⟨rfl,?_⟩;exact draw_val (by kernel_rfl) (hprm1 bM_ kE_) rfl rfl HT Hb hG hv (fun _ _ h=>h) (rfl) H
   ·intro bM_ kE_ Lx_ Sd_ a w G1 hLx_ _ _ _ _ hSi hc hG HT hv;have H:=HT;clear hSi;have Hb:=H.full;have H:=Hb;clear hc;refine kH H (Rm rfl ?_);clear H;intro a H;refine wl_nil ⟨rfl,?_⟩;exact draw_val (by kernel_rfl) (hprm1 bM_ kE_) rfl rfl HT Hb hG hv (fun _ _ h=>h) (rfl) H
   ·intro bM_ kE_ Lx_ Sd_ a w G1 hLx_ _ _ _ _ hSi hc hG HT hv;have H:=HT;clear hSi;obtain ⟨u8,hu8,hp8⟩:=hv 1 8 (hc 1 (by decide)) rfl;obtain rfl:u8=.pointer (some ⟨b,0,none⟩):=hp8;have H:=H.addS hu8;have Hb:=H.full;have H:=Hb;clear hc;refine kH H (Rk rfl ?_);clear H;intro a H;refine wl_nil ⟨rfl,?_⟩;exact draw_val (by kernel_rfl) (hprm1 bM_ kE_) rfl rfl HT Hb hG hv (fun _ _ h=>h) (rfl) H
   ·intro bM_ kE_ Lx_ Sd_ a w G1 hLx_ _ _ _ _ hSi hc hG HT hv;have H:=HT;clear hSi;obtain ⟨u9,hu9,hp9⟩:=hv 2 9 (hc 2 (by decide)) rfl;obtain rfl:u9=.pointer (some ⟨b,0,none⟩):=hp9;have H:=H.addS hu9;have Hb:=H.full;have H:=Hb;clear hc;refine kH H (Rf fd228_3lfl rfl ?_);clear H;intro a H;refine wl_nil ⟨rfl,?_⟩;exact draw_val (by kernel_rfl) (hprm1 bM_ kE_) rfl rfl HT Hb hG hv (fun _ _ h=>h) (rfl) H
   ·intro bM_ kE_ Lx_ Sd_ a w G1 hLx_ _ _ _ _ hSi hc hG HT hv;have H:=HT;clear hSi;obtain ⟨u10,hu10,hp10⟩:=hv 3 10 (hc 3 (by decide)) rfl;obtain rfl:u10=.pointer (some ⟨b,4,none⟩):=hp10;have H:=H.addS hu10;have Hb:=H.full;have H:=Hb;clear hc;refine s_load ty205lfl H wn rfl (H.hp.mcell (hLx_ _ List.mem_cons_self) rfl) rfl ?_;clear H;intro a H;refine wl_nil ⟨rfl,?_⟩;exact draw_val (by kernel_rfl) (hprm1 bM_ kE_) rfl rfl HT Hb hG hv (fun _ _ h=>h) (rfl) H
   ·intro bM_ kE_ Lx_ Sd_ a w G1 hLx_ _ _ _ _ hSi hc hG HT hv;have H:=HT;clear hSi;have Hb:=H.full;have H:=Hb;clear hc;refine kH H (Rm rfl ?_);clear H;intro a H;refine wl_nil ⟨rfl,?_⟩;exact draw_val (by kernel_rfl) (hprm1 bM_ kE_) rfl rfl HT Hb hG hv (fun _ _ h=>h) (rfl) H
   ·intro bM_ kE_ Lx_ Sd_ a w G1 hLx_ _ _ _ _ hSi hc hG HT hv;have H:=HT;clear hSi;obtain ⟨u12,hu12,hp12⟩:=hv 5 12 (hc 5 (by decide)) rfl;obtain rfl:u12=.pointer (some ⟨b,0,none⟩):=hp12;have H:=H.addS hu12;have Hb:=H.full;have H:=Hb;clear hc;refine kH H (Rk rfl ?_);clear H;intro a H;refine wl_nil ⟨rfl,?_⟩;exact draw_val (by kernel_rfl) (hprm1 bM_ kE_) rfl rfl HT Hb hG hv (fun _ _ h=>h) (rfl) H
   ·intro bM_ kE_ Lx_ Sd_ a w G1 hLx_ _ _ _ _ hSi hc hG HT hv;have H:=HT;clear hSi;obtain ⟨u13,hu13,hp13⟩:=hv 6 13 (hc 6 (by decide)) rfl;obtain rfl:u13=.pointer (some ⟨b,0,none⟩):=hp13;have H:=H.addS hu13;have Hb:=H.full;have H:=Hb;clear hc;refine kH H (Rf fd228_2lfl rfl ?_);clear H;intro a H;refine wl_nil ⟨rfl,?_⟩;exact draw_val (by kernel_rfl) (hprm1 bM_ kE_) rfl rfl HT Hb hG hv (fun _ _ h=>h) (rfl) H
   ·intro _ _ _ _ _ _ _ _ _ hB;exact absurd hB (by decide)
   ·intro bM_ kE_ Lx_ Sd_ a w G1 hLx_ _ _ _ _ hSi hc hG HT hv;have H:=HT;clear hSi;obtain ⟨u15,hu15,hp15⟩:=hv 8 15 (hc 8 (by decide)) rfl;obtain rfl:u15=.string ⟨lit.toArray⟩:=hp15;have H:=H.addS hu15;have Hb:=H.full;have H:=Hb;clear hc;refine s_build sr210lfl [_,_,_] H wn rfl rfl rfl rfl ?_;clear H;intro a H;refine wl_nil ⟨rfl,?_⟩;exact draw_val (by kernel_rfl) (hprm1 bM_ kE_) rfl rfl HT Hb hG hv (fun _ _ h=>h) (rfl) H
   ·intro _ _ _ _ _ _ _ _ _ _ hB;exact absurd hB (by decide)
   ·intro _ _ _ _ _ _ _ _ _ _ _ hB;exact absurd hB (by decide)
   ·intro _ _ _ _ _ _ _ _ hB;exact absurd hB (by decide)
   ·intro _ _ _ _ _ _ _ _ hB;exact absurd hB (by decide)
   intro _ _ _ _ _ _ _ _ hB;exact absurd hB (by decide)
  ·clear H;intro o_ bM_ kE_ Sd_ a w G1 ho_ _ hc hG HT hv;obtain rfl:_=o_:=Option.some.inj ho_;clear ho_;have H:=HT;obtain ⟨u14,hu14,hp14⟩:=hv 7 14 (by decide) (hc 7 (by decide)) rfl;obtain rfl:u14=.pointer (some ⟨b,2,none⟩):=hp14;have H:=H.addS hu14;have Hb:=H.full;have H:=Hb;clear hc;refine s_callL en148lfl (Li:=[]) (L:=scB b s i p (.slice A lit.length c) (.slice B parts.length d) pl e :: (Lp++Lo)) H wn rfl (sstr_spec _ _ _ _ b s i p _ B parts.length d pl e lit (Hp.owns (Li:=[]) H.hp) hbuf hne) rfl ?_;clear H;rintro v15 G15 L15 a w ⟨rfl,rfl⟩ hGm15 H;dsimp only [List.nil_append] at H;refine wl_nil ⟨rfl,?_⟩;exact draw_valL (by kernel_rfl) (hprm1 bM_ kE_) rfl HT Hb hG (fun j e h1 h2 h3=>hv j e h1 h2 h3) hGm15 (rfl) H
  ·clear H;intro o_ kE_ Sd_ a w G1 ho_ _ hc hG HT hv;obtain rfl:_=o_:=Option.some.inj ho_;clear ho_;have H:=HT;obtain ⟨u16,hu16,hp16⟩:=hv 0 9 16 (by decide) (hc 9 (by decide)) rfl;obtain rfl:u16=.agg (LpD.cells ⟨⟨lit.toArray⟩,0,false⟩).toArray:=hp16;have H:=H.addS hu16;have Hb:=H.full;have H:=Hb;clear hc;refine s_buildSlice un205lfl ty210lfl [_,_,_] [_,_,_] H wn rfl rfl rfl rfl rfl (by intro i q h;match i,h with|0,h=>exact h|n+1,h=>simp at h) rfl rfl ?_;clear H;intro b17 a w hb17 H;refine wl_nil ⟨rfl,b17,?_⟩;exact draw_mid (by kernel_rfl) rfl HT Hb hG (fun j e h1 h2 h3=>hv _ j e h1 h2 h3) (rfl) H
  ·clear H;intro o_ bM_ Sd_ a w G1 ho_ _ hc hG HT hv;obtain rfl:_=o_:=Option.some.inj ho_;clear ho_;have H:=HT;obtain ⟨u11,hu11,hp11⟩:=hv (((none,0),[])) 4 11 (by decide) (hc 4 (by decide)) rfl;obtain rfl:u11=.slice B parts.length d:=hp11;have H:=H.addS hu11;obtain ⟨u17,hu17,hp17⟩:=hv (((none,0),[])) 10 17 (by decide) (hc 10 (by decide)) rfl;obtain rfl:u17=.slice (some ⟨bM_,0,none⟩) 1 1:=hp17;have H:=H.addS hu17;have Hb:=H.full;have H:=Hb;clear hc;refine s_append (Li:=[_,_]) (Lo:=Lp) (news:=LpD.cells ⟨⟨lit.toArray⟩,0,false⟩) un205lfl ty210lfl rfl rfl H wn rfl rfl hprt rfl (H.hp.ocells 0 rfl rfl) rfl (by omega) (by omega) rfl ?_;clear H;intro v18 Lp18 a w hrw18 H;obtain ⟨A18,c18,rfl,-,-⟩:=hrw18.shape;rw [← lpC_snoc] at hrw18;refine wl_nil ⟨rfl,((A18,c18),Lp18),?_⟩;exact draw_mid (by kernel_rfl) rfl HT Hb hG (fun j e h1 h2 h3=>hv _ j e h1 h2 h3) (⟨rfl,hrw18⟩) H
  clear H;intro b17 kE_ a w G hGm1 H hv;obtain ⟨u7,hu7,hp7⟩:=hv 0 7 (by decide) rfl;obtain rfl:u7=.pointer (some ⟨b,0,none⟩):=hp7;have H:=H.addS hu7;obtain ⟨u18,hu18,hp18⟩:=hv 11 18 (by decide) rfl;(try dsimp only at hp18);obtain ⟨rfl,hrw18⟩:=hp18;have H:=H.addS hu18;clear hv;refine kH H (Rk rfl (Rf fd228_3lfl rfl ?_));clear H;intro a H;refine s_store ty205lfl 1 (vs:=[_]) _ H wn rfl rfl rfl rfl rfl rfl rfl rfl ?_;clear H;intro w H;dsimp only [List.set,setRow] at H;refine wl_nil ⟨rfl,?_⟩;refine K2 _ _ ?_;clear K2;refine kP H (SC (Rm rfl (Rk rfl (Rf fd228_2lfl rfl ?_))));clear H;intro a H;refine s_callL en149lfl (Li:=[_]) (L:=scB b s i p (.slice A lit.length c) (.slice kE_.1.1 (parts.length+1) kE_.1.2) pl e :: kE_.2) H wn rfl (sreset_spec _ _ _ b s i p A lit.length c kE_.1.1 (parts.length+1) kE_.1.2 pl e (Hp.owns (Li:=[_]) H.hp)) rfl ?_;clear H;rintro v24 _ L24 a w ⟨rfl,rfl⟩ hm24 H;dsimp only [List.cons_append,List.nil_append] at H;refine wl_nil ?_;refine (leave0 H Tryz.results142 ?_).2
  first
   | exact H.hp.retD (L':=scB b s i _ _ _ pl e :: kE_.2) (List.sublist_cons_self _ _) ⟨_,_,_,kE_.2,[],by rw [List.append_nil],⟨.inl rfl,IsRow.nil,by rw [flS,if_neg hne];simpa using hrw18⟩⟩
   | exact H.hp.retL ⟨_,_,_,Lp,Lo,by rw [hLt],by
     have h0:lit=[]:=by
      cases lit with
      | nil=>rfl
      | cons x r=>simp at p6
     subst h0;exact ⟨hptr,hbuf,by rw [flS,if_pos rfl];exact hprt⟩⟩
 intro h6
 try have p6:=dF h6
 refine c_skip ?_;refine (leave0 H Tryz.results142 ?_).2
 first
  | exact H.hp.retD (L':=scB b s i _ _ _ pl e :: kE_.2) (List.sublist_cons_self _ _) ⟨_,_,_,kE_.2,[],by rw [List.append_nil],⟨.inl rfl,IsRow.nil,by rw [flS,if_neg hne];simpa using hrw18⟩⟩
  | exact H.hp.retL ⟨_,_,_,Lp,Lo,by rw [hLt],by
    have h0:lit=[]:=by
     cases lit with
     | nil=>rfl
     | cons x r=>simp at p6
    subst h0;exact ⟨hptr,hbuf,by rw [flS,if_pos rfl];exact hprt⟩⟩
theorem place_spec2 (G:GH) (Lp Lo:OL) (w0:World) (b:Nat) (s:ByteArray) (i:Int) (p v q:Value) (pl e:Int) (lit:List UInt8) (parts:List LpD) (ch:Int) (plain:Bool) (hR:ScR b lit parts p v q Lp Lo) (hO:Owns G (scB b s i p v q pl e :: (Lp++Lo)) w0) (hl:lit.length≤4294967296) (hp:parts.length≤4294967290) (hc:49≤ch∧ch≤57) (hpl:0≤pl∧pl≤4294967296) :
  Calls Tryz.prog 145 #[.pointer (some ⟨b,0,none⟩),.int .u8 ch,.bool plain] w0 (RetL w0 G (scB b s i p v q pl e :: (Lp++Lo)) fun u G' L'=>∃ p' v' q' Lp' Lo',L'=scB b s i p' v' q' (pl+1) e :: (Lp'++Lo')∧ScR b [] (flS lit parts++[⟨⟨#[]⟩,ch - 48,plain⟩]) p' v' q' Lp' Lo'):=by
 have hml:maxLen=9223372036854775807:=rfl
 have hfl:(flS lit parts).length≤parts.length+1:=by unfold flS;split <;> simp
 obtain ⟨A,c,rfl,hvc1,hvc2⟩:=hR.buf.shape;obtain ⟨B,d,rfl,hqc1,hqc2⟩:=hR.prt.shape;obtain ⟨Lt,hLt⟩:∃ x,x=Lp++Lo:=⟨_,rfl⟩;rw [← hLt] at hO ⊢;refine enterL (N:=29) (T:=[(0,_),(1,_),(2,_)]) Tryz.func145 rfl Tryz.ntmps145 rfl rfl hO ?_;intro a H;refine kP H (SR fun _ K1=>Rm rfl ?_);clear H;intro a H;refine s_callL en142lfl (Li:=[]) (L:=scB b s i p (.slice A lit.length c) (.slice B parts.length d) pl e :: Lt) H wn rfl (by subst hLt;exact flush_spec _ Lp Lo _ b s i p _ _ pl e lit parts hR (Hp.owns (Li:=[]) H.hp) hl (by omega)) rfl ?_;clear H;rintro v7 G7 L7 a w ⟨p',v',q',Lp',Lo',rfl,hR7⟩ hm7 H;dsimp only [List.nil_append] at H;obtain ⟨A7,c7,rfl,-,-⟩:=hR7.buf.shape;obtain ⟨B7,d7,rfl,-,-⟩:=hR7.prt.shape;refine K1 _ _ ?_;clear K1;refine kP H (SR fun _ K2=>Rm rfl (Rm rfl (Rk rfl (Rf fd228_3lfl rfl (Ro ty205lfl 0 rfl rfl (Rm rfl ?_))))));clear H;intro a H;refine s_subu H wn rfl rfl (by omega) (by omega) rfl ?_;clear H;intro a H;refine s_conv _ un3cp un5cp H wn rfl rfl rfl ?_;clear H;intro a H;rw [i64_wrap (by omega) (by omega)] at H;refine kH H (Rm rfl ?_);clear H;intro a H;refine s_build sr210lfl [_,_,_] H wn rfl rfl rfl rfl ?_;clear H;intro a H;refine s_buildSlice un205lfl ty210lfl [_,_,_] [_,_,_] H wn rfl rfl rfl rfl rfl (by intro i q h;match i,h with|0,h=>exact h|n+1,h=>simp at h) rfl rfl ?_;clear H;intro b18 a w hb18 H;have H:=(St.cast H (show _=[_,_]++(Lp'++Lo') from rfl)).perm (List.Perm.append_left _ List.perm_append_comm);have H:=St.un H;refine s_append (Li:=[_,_]++Lo') (Lo:=Lp') (news:=LpD.cells ⟨⟨#[]⟩,ch - 48,plain⟩) un205lfl ty210lfl rfl rfl H wn rfl rfl hR7.prt rfl (H.hp.ocells 0 rfl rfl) rfl (by omega) (by omega) rfl ?_;clear H;intro v19 Lp19 a w hrw19 H;obtain ⟨A19,c19,rfl,-,-⟩:=hrw19.shape;rw [← lpC_snoc] at hrw19;have H:=H.assoc.perm (List.Perm.append_left _ List.perm_append_comm);dsimp only [List.cons_append,List.nil_append] at H;refine kH H (Rk rfl (Rf fd228_3lfl rfl ?_));clear H;intro a H;refine s_store ty205lfl 1 (vs:=[_]) _ H wn rfl rfl rfl rfl rfl rfl rfl rfl ?_;clear H;intro w H;dsimp only [List.set,setRow] at H;refine K2 _ _ ?_;clear K2;refine kP H (SC (Rm rfl (Rk rfl (Rf fd228_4lfl rfl (Ro ty3run 1 rfl rfl (Rd rfl (Rk rfl (Rf fd228_4lfl rfl ?_))))))));clear H;intro a H;refine s_store ty3run 1 (vs:=[_]) _ H wn rfl rfl rfl rfl rfl rfl rfl rfl ?_;clear H;intro w H;dsimp only [List.set,setRow] at H;refine wl_nil ?_;refine (leave0 H Tryz.results145 ?_).2;exact H.hp.retD (L':=scB b s i _ _ _ (pl+1) e :: (Lp19++Lo')) (List.sublist_cons_self _ _) ⟨_,_,_,Lp19,Lo',rfl,hR7.ptr,hR7.buf,by simpa using hrw19⟩
end
section
open Go.RowKit
section
variable {N:Nat} {D:List Deferred} {w0:World} {F:Nat→Prop} {G0 G:GH} {L:OL} {T Xs:List (Nat × Value)}
variable {r:Option Nat} {P:Program} {Q:Exit→Act→World→Prop} {l:List Oper} {a a':Act} {w w':World}
/-- A slot, what it holds, the operation on which that hangs, and whether that one is done. -/
abbrev Ent:Type:=Nat × Value × Nat × Bool
def EntOk (ent:List Ent) (S:Nat→Bool) (a:Act):Prop:=∀ e∈ent,S e.2.2.1=e.2.2.2→a.tmps[e.1]?=some e.2.1
theorem EntOk.at {ent:List Ent} {S:Nat→Bool} {a:Act} (h:EntOk ent S a) (k:Nat) {t:Nat} {v:Value} {j:Nat} {b:Bool} (hk:ent[k]?=some (t,v,j,b)) (hS:S j=b):a.tmps[t]?=some v:=h _ (List.mem_of_getElem? hk) hS
/-- The beginning of a string. -/
theorem s_strTo {ops:Array Oper} {rest:List Oper} {d:Nat} {ty:TypeId} {pos:String} {aft:Array Edge} {g:Option (Nat × Bool)} {t:TypeId} {x y:Operand} {s:ByteArray} {ky:IntKind} {p:Int} (hi:Nat) (ht:P.underlying t=some .string) (H:St N D w0 F G0 G L T a w) (hw:Region.wanted ⟨some d,.slice t x none (some y) none,ty,pos,aft,g⟩ (yielded ops a.tmps)=true) (hx:ev T x=some (.string s)) (hy:ev T y=some (.int ky p)) (hp:p=(hi:Int)) (h1:hi≤s.size) (hd:Nat.blt d N=true)
  (k:∀ a',St N D w0 F G0 G L ((d,.string (s.extract 0 hi)) :: T) a' w→WL r P ops Q rest a' w):WL r P ops Q (⟨some d,.slice t x none (some y) none,ty,pos,aft,g⟩ :: rest) a w:=by
 subst hp
 have hr:=run_slice_string_h (P:=P) w t s ht ky (hi:Int) (by omega) (by omega)
 rw [Int.toNat_natCast] at hr
 refine wl_value (v:=.string (s.extract 0 hi)) (w':=w) hw rfl ?_ (k _ (H.put hd _ H.hp))
 simp only [execOp,H.ev hx,Option.map_some,Option.map_none,H.ev hy,Sem.run_bind,run_sliceAt_string w t _ _ _ _ ht,hr,Result.andThen_ok,Sem.run_pure]
end
end
section
open Go.RowKit
theorem en150lpc:∀ args w,(callFunc 150 args).run Tryz.prog w=.ok (.enter 150 args) w:=enters Tryz.func150 rfl (by kernel_rfl)
theorem fd228_0lpc:Fld Tryz.prog 228 0 0:=⟨by kernel_rfl⟩
theorem en141lpc:∀ args w,(callFunc 141 args).run Tryz.prog w=.ok (.enter 141 args) w:=enters Tryz.func141 rfl (by kernel_rfl)
theorem en144lpc:∀ args w,(callFunc 144 args).run Tryz.prog w=.ok (.enter 144 args) w:=enters Tryz.func144 rfl (by kernel_rfl)
theorem en145lpc:∀ args w,(callFunc 145 args).run Tryz.prog w=.ok (.enter 145 args) w:=enters Tryz.func145 rfl (by kernel_rfl)
theorem fd228_1lpc:Fld Tryz.prog 228 1 1:=⟨by kernel_rfl⟩
theorem en143lpc:∀ args w,(callFunc 143 args).run Tryz.prog w=.ok (.enter 143 args) w:=enters Tryz.func143 rfl (by kernel_rfl)
theorem fd228_5lpc:Fld Tryz.prog 228 5 6:=⟨by kernel_rfl⟩
def hasP (s p:ByteArray):Bool:=decide (p.size≤s.size) && ((s.extract 0 p.size).toList == p.toList)
theorem hasPre_spec0 (G:GH) (w0:World) (hG:Hold G w0) (s p:ByteArray) (hs:s.size≤4611686018427387904) (hp:p.size≤4611686018427387904):Calls Tryz.prog 150 #[.string s,.string p] w0 (Ret w0 G fun u G'=>u=.bool (hasP s p)∧G=G'):=by
 refine eN [(0,_),(1,_)] Tryz.func150 rfl Tryz.ntmps150 rfl rfl hG ?_;intro a H;refine kP H (SR fun _ K1=>Ra rfl (Kz K1 (SR fun _ K2=>Rm rfl (Rv un9cp rfl (Rm rfl (Rv un9cp rfl (Rc rfl (Rm rfl ?_))))))));clear H K1;intro a H;refine s_split H 10 rfl ?_ ?_
 ·intro h10
  try have p10:=dT h10
  refine kH H (YM h10 rfl (YM h10 rfl ?_));clear H;intro a H;refine s_lens un9cp H (wg H rfl rfl h10) rfl rfl ?_;clear H;intro a H;refine s_strTo p.size un9cp H (wg H rfl rfl h10) rfl rfl rfl (by omega) rfl ?_;clear H;intro a H;refine kH H (YM h10 rfl ?_);clear H;intro a H;refine s_eqstr H (wg H rfl rfl h10) rfl rfl rfl ?_;clear H;intro a H;refine kH H (Pt h10 rfl (Ra rfl (Kz K2 ?_)));clear H K2;intro a H;refine lr H Tryz.results150 rfl ?_;exact H.hp.ret ⟨congrArg Value.bool (by unfold hasP;first|(simp_all;done)|(simp_all;omega)),rfl⟩
 intro h10
 try have p10:=dF h10
 refine kH H (Ks h10 rfl (Ks h10 rfl (Ks h10 rfl (Ks h10 rfl (Ks h10 rfl (Ks h10 rfl (Pf h10 rfl (Ra rfl (Kz K2 ?_)))))))));clear H K2;intro a H;refine lr H Tryz.results150 rfl ?_;exact H.hp.ret ⟨congrArg Value.bool (by unfold hasP;first|(simp_all;done)|(simp_all;omega)),rfl⟩
theorem hasPre_spec (G:GH) (w0:World) (hG:Hold G w0) (s p:ByteArray) (hs:s.size≤4611686018427387904) (hp:p.size≤4611686018427387904):Calls Tryz.prog 143 #[.string s,.string p] w0 (Ret w0 G fun u G'=>u=.bool (hasP s p)∧G=G'):=by
 refine eN [(0,_),(1,_)] Tryz.func143 rfl Tryz.ntmps143 rfl rfl hG ?_;intro a H;refine kP H (SR fun _ K1=>Ra rfl (Kz K1 (SR fun _ K2=>Rm rfl (Rm rfl ?_))));clear H K1;intro a H;refine s_call en150lpc H wn rfl (hasPre_spec0 _ _ H.hp.ro s p hs hp) rfl ?_;clear H;rintro v7 _ a w ⟨rfl,rfl⟩ - H;refine kH H (Ra rfl (Kz K2 ?_));clear H K2;intro a H;refine lr H Tryz.results143 rfl ?_;exact H.hp.ret ⟨rfl,rfl⟩
/-- Whether a digit from 1 to 9 stands at a place. -/
def digB (s:ByteArray) (k:Nat):Bool:=decide (k < s.size) && decide (49≤byteAt s k) && decide (byteAt s k≤57)
theorem digit_spec (G:GH) (L:OL) (w0:World) (b:Nat) (s:ByteArray) (i:Int) (p v q:Value) (pl e:Int) (k:Nat) (hs:s.size≤4611686018427387904) (hO:Owns G (scB b s i p v q pl e :: L) w0) :
  Calls Tryz.prog 144 #[.pointer (some ⟨b,0,none⟩),vi k] w0 (RetL w0 G (scB b s i p v q pl e :: L) fun u G' L'=>u=.bool (digB s k)∧L'=scB b s i p v q pl e :: L∧G'=G):=by
 refine enterL (N:=30) (T:=[(0,_),(1,_)]) Tryz.func144 rfl Tryz.ntmps144 rfl rfl hO ?_;intro a H;refine kP H (SR fun _ K1=>Ra rfl (Kz K1 (SR fun _ K2=>Rm rfl (Rm rfl (Rk rfl (Rf fd228_0lpc rfl (Ro ty9run 0 rfl rfl (Rv un9cp rfl (Rc rfl (Rm rfl ?_))))))))));clear H K1;intro a H;refine s_split H 12 rfl ?_ ?_
 ·intro h12
  try have p12:=dT h12
  refine kH H (YM h12 rfl ?_);clear H;intro a H;refine s_nilCheck H (wg H rfl rfl h12) rfl rfl ?_;clear H;intro a H;refine kH H (YF fd228_0lpc h12 rfl (YO ty9run 0 h12 rfl rfl (YM h12 rfl ?_)));clear H;intro a H;refine s_indexs k un9cp H (wg H rfl rfl h12) rfl rfl rfl (by omega) rfl ?_;clear H;intro a H;rw [← byteAt_lt] at H;refine kH H (YC h12 rfl (Pt h12 rfl (Rm rfl ?_)));clear H;intro a H;refine s_split H 21 rfl ?_ ?_
  ·intro h21
   try have p21:=dT h21
   refine kH H (YM h21 rfl ?_);clear H;intro a H;refine s_nilCheck H (wg H rfl rfl h21) rfl rfl ?_;clear H;intro a H;refine kH H (YF fd228_0lpc h21 rfl (YO ty9run 0 h21 rfl rfl (YM h21 rfl ?_)));clear H;intro a H;refine s_indexs k un9cp H (wg H rfl rfl h21) rfl rfl rfl (by omega) rfl ?_;clear H;intro a H;rw [← byteAt_lt] at H;refine kH H (YC h21 rfl (Pt h21 rfl (Ra rfl (Kz K2 ?_))));clear H K2;intro a H;refine lr H Tryz.results144 rfl ?_;exact H.hp.retL ⟨congrArg Value.bool (by unfold digB;first|(simp_all;done)|(simp_all;omega)),rfl,rfl⟩
  intro h21
  try have p21:=dF h21
  refine kH H (Ks h21 rfl (Ks h21 rfl (Ks h21 rfl (Ks h21 rfl (Ks h21 rfl (Ks h21 rfl (Ks h21 rfl (Pf h21 rfl (Ra rfl (Kz K2 ?_))))))))));clear H K2;intro a H;refine lr H Tryz.results144 rfl ?_;exact H.hp.retL ⟨congrArg Value.bool (by unfold digB;first|(simp_all;done)|(simp_all;omega)),rfl,rfl⟩
 intro h12
 try have p12:=dF h12
 refine kH H (Ks h12 rfl (Ks h12 rfl (Ks h12 rfl (Ks h12 rfl (Ks h12 rfl (Ks h12 rfl (Ks h12 rfl (Pf h12 rfl (Rm rfl (Ks rfl rfl (Ks rfl rfl (Ks rfl rfl (Ks rfl rfl (Ks rfl rfl (Ks rfl rfl (Ks rfl rfl ?_))))))))))))))));clear H;intro a H;refine kH H (Pf rfl rfl (Ra rfl (Kz K2 ?_)));clear H K2;intro a H;refine lr H Tryz.results144 rfl ?_;exact H.hp.retL ⟨congrArg Value.bool (by unfold digB;first|(simp_all;done)|(simp_all;omega)),rfl,rfl⟩
structure ScS where
 i:Nat
 lit:List UInt8
 parts:List LpD
 pl:Nat
 e:Int
def pctS (s:ByteArray) (x:ScS):ScS :=
 if hasP (s.extract x.i s.size) ⟨#[37,37]⟩=true then ⟨x.i+2,x.lit++[37],x.parts,x.pl,x.e⟩
 else if digB s (x.i+1)=true then ⟨x.i+2,[],flS x.lit x.parts++[⟨⟨#[]⟩,byteAt s (x.i+1) - 48,false⟩],x.pl+1,x.e⟩
 else if hasP (s.extract x.i s.size) ⟨#[37,100]⟩=true∧digB s (x.i+2)=true then ⟨x.i+3,[],flS x.lit x.parts++[⟨⟨#[]⟩,byteAt s (x.i+2) - 48,true⟩],x.pl+1,x.e⟩
 else ⟨x.i,x.lit,x.parts,x.pl,14⟩
abbrev scX (b:Nat) (s:ByteArray) (x:ScS) (p v q:Value):Nat × Obj:=scB b s x.i p v q x.pl x.e
theorem digB_lt {s:ByteArray} {k:Nat} (h:digB s k=true):k < s.size∧49≤byteAt s k∧byteAt s k≤57:=by
 simpa [digB,and_assoc] using h
set_option maxHeartbeats 1000000 in
theorem percent_spec (G:GH) (Lp Lo:OL) (w0:World) (b:Nat) (s:ByteArray) (x:ScS) (p v q:Value) (hR:ScR b x.lit x.parts p v q Lp Lo) (hO:Owns G (scX b s x p v q :: (Lp++Lo)) w0) (hs:s.size≤4294967290) (hi:x.i < s.size) (hl:x.lit.length≤4294967290) (hp:x.parts.length≤4294967290) (hpl:x.pl≤4294967290) :
    Calls Tryz.prog 140 #[.pointer (some ⟨b,0,none⟩)] w0 (RetL w0 G (scX b s x p v q :: (Lp++Lo)) fun u G' L'=>∃ p' v' q' Lp' Lo',L'=scX b s (pctS s x) p' v' q' :: (Lp'++Lo')∧ScR b (pctS s x).lit (pctS s x).parts p' v' q' Lp' Lo'):=by
  obtain ⟨i,lit,parts,pl,e⟩:=x;dsimp only [scX] at *
  have hex:(s.extract i s.size).size≤4611686018427387904:=by rw [ByteArray.size_extract];omega
  obtain ⟨A,c,rfl,hvc1,hvc2⟩:=hR.buf.shape;obtain ⟨B,d,rfl,hqc1,hqc2⟩:=hR.prt.shape;obtain ⟨Lt,hLt⟩:∃ x,x=Lp++Lo:=⟨_,rfl⟩;rw [← hLt] at hO ⊢;refine enterL (N:=93) (T:=[(0,_)]) Tryz.func140 rfl Tryz.ntmps140 rfl rfl hO ?_;intro a H;refine c_block ?_;refine c_seq (fun _ K1=>?_);refine c_drawI (hmx) [[],[0],[0,1],[0,1,2],[],[4],[4,5],[4,5,6],(List.range 8),(List.range 9),(List.range 10)] [] (by kernel_rfl) (by kernel_rfl) (fun (ix_:Nat) (v:Value) (G:GH)=>match ix_ with|0=>v=.pointer (some ⟨b,0,none⟩)|1=>v=.pointer (some ⟨b,0,none⟩)|2=>v=.pointer (some ⟨b,0,none⟩)|3=>v=.string s|4=>v=.pointer (some ⟨b,0,none⟩)|5=>v=.pointer (some ⟨b,0,none⟩)|6=>v=.pointer (some ⟨b,1,none⟩)|7=>v=vi i|8=>v=.string (s.extract i s.size)|9=>v=.bool (hasP (s.extract i s.size) ⟨#[37,37]⟩)|10=>v=.bool (hasP (s.extract i s.size) ⟨#[37,37]⟩)|_=>True) (fun _ _ _ _ _ h=>h) H ?_ ?_
  · clear H;refine al4 ?_ ?_ ?_ ?_ (al4 ?_ ?_ ?_ ?_ (allI_cons ?_ (allI_cons ?_ (allI_cons ?_ allI_nil))))
    · exact Z0 rfl rfl fun _ _ _ _ _=>Rm rfl
    · exact Z1 0 6 rfl rfl fun _ _ _ _ _=>Rk rfl
    · exact Z1 1 7 rfl rfl fun _ _ _ _ _=>Rf fd228_0lpc rfl
    · exact Z1 2 8 rfl rfl fun _ _ _ _ _=>Ro ty9run 0 rfl rfl
    · exact Z0 rfl rfl fun _ _ _ _ _=>Rm rfl
    · exact Z1 4 10 rfl rfl fun _ _ _ _ _=>Rk rfl
    · exact Z1 5 11 rfl rfl fun _ _ _ _ _=>Rf fd228_1lpc rfl
    · exact Z1 6 12 rfl rfl fun _ _ _ _ _=>Ro ty3run 0 rfl rfl
    · refine Op2 3 9 7 13 rfl rfl fun _ a w G1 hG HT H fin=>?_;refine s_strFrom i un9cp H wn rfl rfl rfl (by omega) rfl ?_;clear H;intro a H;exact fin H iJ rfl
    · refine Op1 8 14 rfl rfl fun _ a w G1 hG HT H fin=>?_;refine s_call en143lpc H wn rfl (hasPre_spec _ _ H.hp.ro _ _ hex (by decide)) rfl ?_;clear H;rintro v15 G15 a w ⟨rfl,rfl⟩ hGm15 H;exact fin H hGm15 (rfl)
    exact Op1 9 15 rfl rfl fun _ _ _ _ hG _ H fin=>kH H (Ra rfl fun _ H=>fin H iJ rfl)
  clear H;intro a w G hGm1 H hv;obtain ⟨u5,hu5,hp5⟩:=hv 10 5 (by decide) rfl;obtain rfl:u5=.bool (hasP (s.extract i s.size) ⟨#[37,37]⟩):=hp5;have H:=H.addS hu5;clear hv;refine wl_nil ⟨rfl,?_⟩;refine K1 _ _ ?_;clear K1;refine c_cond H rfl ?_ ?_
  · intro h5
    try have p5:=dT h5
    refine kP H (SR fun _ K2=>Rm rfl (Rk rfl (Rf fd228_2lfl rfl ?_)));clear H;intro a H;refine s_callL en141lpc (Li:=[]) (L:=scB b s i p (.slice A lit.length c) (.slice B parts.length d) pl e :: Lt) H wn rfl (by subst hLt;exact wbyte_spec _ Lp Lo _ b s i p _ B parts.length d pl e lit.length _ 37 hR.ptr (Hp.owns (Li:=[]) H.hp) hR.buf (by omega)) rfl ?_;clear H;rintro v19 _ L19 a w ⟨v19',Lo19,rfl,hrw19,rfl⟩ hm19 H;dsimp only [List.nil_append] at H;obtain ⟨A19,c19,rfl,-,-⟩:=hrw19.shape;refine K2 _ _ ?_;clear K2;refine kP H (SC (Rm rfl (Rk rfl (Rf fd228_1lpc rfl (Ro ty3run 0 rfl rfl (Rd rfl (Rk rfl (Rf fd228_1lpc rfl ?_))))))));clear H;intro a H;refine s_store ty3run 0 (vs:=[_]) _ H wn rfl rfl rfl rfl rfl rfl rfl rfl ?_;clear H;intro w H;dsimp only [List.set,setRow] at H;refine wl_nil ?_;refine (leave0 H Tryz.results140 ?_).2;exact H.hp.retL ⟨_,_,_,Lp,Lo19,by rw [pctS,if_pos h5];rfl,by rw [pctS,if_pos h5];exact ⟨.inr rfl,by simpa [Lib.byteCells] using hrw19,hR.prt⟩⟩
  intro h5
  try have p5:=dF h5
  refine kP H (SR fun _ K3=>Rm rfl (Rm rfl (Rk rfl (Rf fd228_1lpc rfl (Ro ty3run 0 rfl rfl (Rd rfl ?_))))));clear H;intro a H;rw [show ((i:Int)+1)=((i+1:Nat):Int) from rfl] at H;refine s_callL en144lpc (Li:=[]) (L:=scB b s i p (.slice A lit.length c) (.slice B parts.length d) pl e :: Lt) H wn rfl (digit_spec _ Lt _ b s i p _ _ pl e (i+1) (by omega) (Hp.owns (Li:=[]) H.hp)) rfl ?_;clear H;rintro v34 _ L34 a w ⟨rfl,rfl,rfl⟩ hm34 H;dsimp only [List.nil_append] at H;refine kH H (Ra rfl (Kz K3 ?_));clear H K3;intro a H;refine c_cond H rfl ?_ ?_
  · intro h27
    try have p27:=dT h27
    have hd1:=digB_lt h27;refine c_seq (fun _ K4=>?_);refine c_drawI (hmx) [[],[],[1],[1,2],[1,2,3],[],[5],[5,6],[5,6,7],[5,6,7,8],[1,2,3,4,5,6,7,8,9],(List.range 11)] [11] (by kernel_rfl) (by kernel_rfl) (fun (ix_:Nat) (v:Value) (G:GH)=>match ix_ with|0=>v=.pointer (some ⟨b,0,none⟩)|1=>v=.pointer (some ⟨b,0,none⟩)|2=>v=.pointer (some ⟨b,0,none⟩)|3=>v=.pointer (some ⟨b,0,none⟩)|4=>v=.string s|5=>v=.pointer (some ⟨b,0,none⟩)|6=>v=.pointer (some ⟨b,0,none⟩)|7=>v=.pointer (some ⟨b,1,none⟩)|8=>v=vi i|9=>v=vi ((i+1:Nat):Int)|10=>v=.int .u8 (byteAt s (i+1))|_=>True) (fun _ _ _ _ _ h=>h) H ?_ ?_
    · clear H;refine al4 ?_ ?_ ?_ ?_ (al4 ?_ ?_ ?_ ?_ (al4 ?_ ?_ ?_ ?_ allI_nil))
      · exact Z0 rfl rfl fun _ _ _ _ _=>Rm rfl
      · exact Z0 rfl rfl fun _ _ _ _ _=>Rm rfl
      · exact Z1 1 36 rfl rfl fun _ _ _ _ _=>Rk rfl
      · exact Z1 2 37 rfl rfl fun _ _ _ _ _=>Rf fd228_0lpc rfl
      · exact Z1 3 38 rfl rfl fun _ _ _ _ _=>Ro ty9run 0 rfl rfl
      · exact Z0 rfl rfl fun _ _ _ _ _=>Rm rfl
      · exact Z1 5 40 rfl rfl fun _ _ _ _ _=>Rk rfl
      · exact Z1 6 41 rfl rfl fun _ _ _ _ _=>Rf fd228_1lpc rfl
      · exact Z1 7 42 rfl rfl fun _ _ _ _ _=>Ro ty3run 0 rfl rfl
      · exact Z1 8 43 rfl rfl fun _ _ _ _ _=>Rd rfl
      · refine Op2 4 39 9 44 rfl rfl fun _ a w G1 hG HT H fin=>?_;refine s_indexs (i+1) un9cp H wn rfl rfl rfl hd1.1 rfl ?_;clear H;intro a H;rw [← byteAt_lt] at H;exact fin H iJ rfl
      exact opB rfl
    clear H;intro a w G hGm5 H hv;obtain ⟨u35,hu35,hp35⟩:=hv 0 35 (by decide) rfl;obtain rfl:u35=.pointer (some ⟨b,0,none⟩):=hp35;have H:=H.addS hu35;obtain ⟨u45,hu45,hp45⟩:=hv 10 45 (by decide) rfl;obtain rfl:u45=.int .u8 (byteAt s (i+1)):=hp45;have H:=H.addS hu45;clear hv;refine s_callL en145lpc (Li:=[]) (L:=scB b s i p (.slice A lit.length c) (.slice B parts.length d) pl e :: Lt) H wn rfl (by subst hLt;exact place_spec2 _ Lp Lo _ b s i p _ _ pl e lit parts (byteAt s (i+1)) false hR (Hp.owns (Li:=[]) H.hp) (by omega) (by omega) hd1.2 (by omega)) rfl ?_;clear H;rintro v46 G46 L46 a w ⟨p46,v46',q46,Lp46,Lo46,rfl,hR46⟩ hm46 H;dsimp only [List.nil_append] at H;obtain ⟨A46,c46,rfl,-,-⟩:=hR46.buf.shape;obtain ⟨B46,d46,rfl,-,-⟩:=hR46.prt.shape;refine wl_nil ⟨rfl,?_⟩;refine K4 _ _ ?_;clear K4;refine kP H (SC (Rm rfl (Rk rfl (Rf fd228_1lpc rfl (Ro ty3run 0 rfl rfl (Rd rfl (Rk rfl (Rf fd228_1lpc rfl ?_))))))));clear H;intro a H;refine s_store ty3run 0 (vs:=[_]) _ H wn rfl rfl rfl rfl rfl rfl rfl rfl ?_;clear H;intro w H;dsimp only [List.set,setRow] at H;refine wl_nil ?_;refine (leave0 H Tryz.results140 ?_).2;exact H.hp.retL ⟨_,_,_,Lp46,Lo46,by rw [pctS,if_neg (by simp [h5]),if_pos h27];rfl,by rw [pctS,if_neg (by simp [h5]),if_pos h27];exact hR46⟩
  intro h27
  try have p27:=dF h27
  refine c_seq (fun _ K5=>?_)
  by_cases c1:hasP (s.extract i s.size) ⟨#[37,100]⟩=true
  · skip;refine c_drawI (hmx) [[],[0],[0,1],[0,1,2],[],[4],[4,5],[4,5,6],(List.range 8),(List.range 9),(List.range 10),(List.range 11),(List.range 11),(List.range 11++[12]),(List.range 11++[12,13]),(List.range 11++[12,13,14]),(List.range 11++[12,13,14,15]),(List.range 17),(List.range 18),(List.range 19)] [] (by kernel_rfl) (by kernel_rfl) (fun (ix_:Nat) (v:Value) (G:GH)=>match ix_ with|0=>v=.pointer (some ⟨b,0,none⟩)|1=>v=.pointer (some ⟨b,0,none⟩)|2=>v=.pointer (some ⟨b,0,none⟩)|3=>v=.string s|4=>v=.pointer (some ⟨b,0,none⟩)|5=>v=.pointer (some ⟨b,0,none⟩)|6=>v=.pointer (some ⟨b,1,none⟩)|7=>v=vi i|8=>v=.string (s.extract i s.size)|9=>v=.bool (hasP (s.extract i s.size) ⟨#[37,100]⟩)|10=>v=.bool (decide (hasP (s.extract i s.size) ⟨#[37,100]⟩=true))|11=>v=.pointer (some ⟨b,0,none⟩)|12=>v=.pointer (some ⟨b,0,none⟩)|13=>v=.pointer (some ⟨b,0,none⟩)|14=>v=.pointer (some ⟨b,1,none⟩)|15=>v=vi i|16=>v=vi ((i+2:Nat):Int)|17=>v=.bool (digB s (i+2))|18=>v=.bool (digB s (i+2))|19=>v=.bool (digB s (i+2))|_=>True) (fun _ _ _ _ _ h=>h) H ?_ ?_
    · clear H;refine al4 ?_ ?_ ?_ ?_ (al4 ?_ ?_ ?_ ?_ (al4 ?_ ?_ ?_ ?_ (al4 ?_ ?_ ?_ ?_ (al4 ?_ ?_ ?_ ?_ allI_nil))))
      · exact Z0 rfl rfl fun _ _ _ _ _=>Rm rfl
      · exact Z1 0 55 rfl rfl fun _ _ _ _ _=>Rk rfl
      · exact Z1 1 56 rfl rfl fun _ _ _ _ _=>Rf fd228_0lpc rfl
      · exact Z1 2 57 rfl rfl fun _ _ _ _ _=>Ro ty9run 0 rfl rfl
      · exact Z0 rfl rfl fun _ _ _ _ _=>Rm rfl
      · exact Z1 4 59 rfl rfl fun _ _ _ _ _=>Rk rfl
      · exact Z1 5 60 rfl rfl fun _ _ _ _ _=>Rf fd228_1lpc rfl
      · exact Z1 6 61 rfl rfl fun _ _ _ _ _=>Ro ty3run 0 rfl rfl
      · refine Op2 3 58 7 62 rfl rfl fun _ a w G1 hG HT H fin=>?_;refine s_strFrom i un9cp H wn rfl rfl rfl (by omega) rfl ?_;clear H;intro a H;exact fin H iJ rfl
      · refine Op1 8 63 rfl rfl fun _ a w G1 hG HT H fin=>?_;refine s_call en143lpc H wn rfl (hasPre_spec _ _ H.hp.ro _ _ hex (by decide)) rfl ?_;clear H;rintro v64 G64 a w ⟨rfl,rfl⟩ hGm64 H;exact fin H hGm64 (rfl)
      · refine Op1 9 64 rfl rfl fun _ a w G1 hG HT H fin=>?_;refine kH H (Rm rfl ?_);clear H;intro a H;exact fin H iJ (by simp)
      · exact Op1 10 65 rfl rfl fun _ _ _ _ hG _ H fin=>kH H (YM (decide_eq_true c1) rfl fun _ H=>fin H iJ rfl)
      · exact Op1 10 65 rfl rfl fun _ _ _ _ hG _ H fin=>kH H (YM (decide_eq_true c1) rfl fun _ H=>fin H iJ rfl)
      · refine Op2 12 67 10 65 rfl rfl fun _ a w G1 hG HT H fin=>?_;refine s_nilCheck H (wg H rfl rfl (decide_eq_true c1)) rfl rfl ?_;clear H;intro a H;exact fin H iJ rfl
      · exact Op2 13 68 10 65 rfl rfl fun _ _ _ _ hG _ H fin=>kH H (YF fd228_1lpc (decide_eq_true c1) rfl fun _ H=>fin H iJ rfl)
      · exact Op2 14 69 10 65 rfl rfl fun _ _ _ _ hG _ H fin=>kH H (YO ty3run 0 (decide_eq_true c1) rfl rfl fun _ H=>fin H iJ rfl)
      · refine Op2 15 70 10 65 rfl rfl fun _ a w G1 hG HT H fin=>?_;refine s_add _ H (wg H rfl rfl (decide_eq_true c1)) rfl rfl rfl (by omega) (by omega) rfl ?_;clear H;intro a H;exact fin H iJ rfl
      · refine Op3 11 66 16 71 10 65 rfl rfl fun _ a w G1 hG HT H fin=>?_;refine s_callL en144lpc (Li:=[]) (L:=scB b s i p (.slice A lit.length c) (.slice B parts.length d) pl e :: Lt) H (wg H rfl rfl (decide_eq_true c1)) rfl (digit_spec _ Lt _ b s i p _ _ pl e (i+2) (by omega) (Hp.owns (Li:=[]) H.hp)) rfl ?_;clear H;rintro v72 G72 L72 a w ⟨rfl,rfl,rfl⟩ hGm72 H;dsimp only [List.nil_append] at H;exact fin H hGm72 (rfl)
      · exact Op2 10 65 17 72 rfl rfl fun _ _ _ _ hG _ H fin=>kH H (Pt (decide_eq_true c1) rfl fun _ H=>fin H iJ rfl)
      exact Op1 18 73 rfl rfl fun _ _ _ _ hG _ H fin=>kH H (Ra rfl fun _ H=>fin H iJ rfl)
    clear H;intro a w G hGm7 H hv;obtain ⟨u54,hu54,hp54⟩:=hv 19 54 (by decide) rfl;obtain rfl:u54=.bool (digB s (i+2)):=hp54;have H:=H.addS hu54;clear hv;refine wl_nil ⟨rfl,?_⟩;refine K5 _ _ ?_;clear K5;refine c_cond H rfl ?_ ?_
    · intro h54
      try have p54:=dT h54
      have hd2:=digB_lt h54;refine c_seq (fun _ K6=>?_);refine c_drawI (hmx) [[],[],[1],[1,2],[1,2,3],[],[5],[5,6],[5,6,7],[5,6,7,8],[1,2,3,4,5,6,7,8,9],(List.range 11)] [11] (by kernel_rfl) (by kernel_rfl) (fun (ix_:Nat) (v:Value) (G:GH)=>match ix_ with|0=>v=.pointer (some ⟨b,0,none⟩)|1=>v=.pointer (some ⟨b,0,none⟩)|2=>v=.pointer (some ⟨b,0,none⟩)|3=>v=.pointer (some ⟨b,0,none⟩)|4=>v=.string s|5=>v=.pointer (some ⟨b,0,none⟩)|6=>v=.pointer (some ⟨b,0,none⟩)|7=>v=.pointer (some ⟨b,1,none⟩)|8=>v=vi i|9=>v=vi ((i+2:Nat):Int)|10=>v=.int .u8 (byteAt s (i+2))|_=>True) (fun _ _ _ _ _ h=>h) H ?_ ?_
      · clear H;refine al4 ?_ ?_ ?_ ?_ (al4 ?_ ?_ ?_ ?_ (al4 ?_ ?_ ?_ ?_ allI_nil))
        · exact Z0 rfl rfl fun _ _ _ _ _=>Rm rfl
        · exact Z0 rfl rfl fun _ _ _ _ _=>Rm rfl
        · exact Z1 1 75 rfl rfl fun _ _ _ _ _=>Rk rfl
        · exact Z1 2 76 rfl rfl fun _ _ _ _ _=>Rf fd228_0lpc rfl
        · exact Z1 3 77 rfl rfl fun _ _ _ _ _=>Ro ty9run 0 rfl rfl
        · exact Z0 rfl rfl fun _ _ _ _ _=>Rm rfl
        · exact Z1 5 79 rfl rfl fun _ _ _ _ _=>Rk rfl
        · exact Z1 6 80 rfl rfl fun _ _ _ _ _=>Rf fd228_1lpc rfl
        · exact Z1 7 81 rfl rfl fun _ _ _ _ _=>Ro ty3run 0 rfl rfl
        · exact Z1 8 82 rfl rfl fun _ _ _ _ _=>Rd rfl
        · refine Op2 4 78 9 83 rfl rfl fun _ a w G1 hG HT H fin=>?_;refine s_indexs (i+2) un9cp H wn rfl rfl rfl hd2.1 rfl ?_;clear H;intro a H;rw [← byteAt_lt] at H;exact fin H iJ rfl
        exact opB rfl
      clear H;intro a w G hGm8 H hv;obtain ⟨u74,hu74,hp74⟩:=hv 0 74 (by decide) rfl;obtain rfl:u74=.pointer (some ⟨b,0,none⟩):=hp74;have H:=H.addS hu74;obtain ⟨u84,hu84,hp84⟩:=hv 10 84 (by decide) rfl;obtain rfl:u84=.int .u8 (byteAt s (i+2)):=hp84;have H:=H.addS hu84;clear hv;refine s_callL en145lpc (Li:=[]) (L:=scB b s i p (.slice A lit.length c) (.slice B parts.length d) pl e :: Lt) H wn rfl (by subst hLt;exact place_spec2 _ Lp Lo _ b s i p _ _ pl e lit parts (byteAt s (i+2)) true hR (Hp.owns (Li:=[]) H.hp) (by omega) (by omega) hd2.2 (by omega)) rfl ?_;clear H;rintro v85 G85 L85 a w ⟨p46,v46',q46,Lp46,Lo46,rfl,hR46⟩ hm85 H;dsimp only [List.nil_append] at H;obtain ⟨A46,c46,rfl,-,-⟩:=hR46.buf.shape;obtain ⟨B46,d46,rfl,-,-⟩:=hR46.prt.shape;refine wl_nil ⟨rfl,?_⟩;refine K6 _ _ ?_;clear K6;refine kP H (SC (Rm rfl (Rk rfl (Rf fd228_1lpc rfl (Ro ty3run 0 rfl rfl (Rd rfl (Rk rfl (Rf fd228_1lpc rfl ?_))))))));clear H;intro a H;refine s_store ty3run 0 (vs:=[_]) _ H wn rfl rfl rfl rfl rfl rfl rfl rfl ?_;clear H;intro w H;dsimp only [List.set,setRow] at H;refine wl_nil ?_;refine (leave0 H Tryz.results140 ?_).2
      have hn5:¬ hasP (s.extract i s.size) ⟨#[37,37]⟩=true:=by simp [h5]
      have hn27:¬ digB s (i+1)=true:=by simp [h27]
      first
        | exact H.hp.retL ⟨_,_,_,Lp46,Lo46,by rw [pctS,if_neg hn5,if_neg hn27,if_pos ⟨c1,h54⟩];rfl,by rw [pctS,if_neg hn5,if_neg hn27,if_pos ⟨c1,h54⟩];exact hR46⟩
        | (have hn3:¬ (hasP (s.extract i s.size) ⟨#[37,100]⟩=true∧digB s (i+2)=true):=by simp_all
           exact H.hp.retL ⟨_,_,_,Lp,Lo,by rw [pctS,if_neg hn5,if_neg hn27,if_neg hn3,hLt],by rw [pctS,if_neg hn5,if_neg hn27,if_neg hn3];exact hR⟩)
    intro h54
    try have p54:=dF h54
    refine kP H (SC (Rm rfl (Rk rfl (Rf fd228_5lpc rfl ?_))));clear H;intro a H;refine s_store ty46idx 0 (vs:=[_]) _ H wn rfl rfl rfl rfl rfl rfl rfl rfl ?_;clear H;intro w H;dsimp only [List.set,setRow] at H;refine wl_nil ?_;refine (leave0 H Tryz.results140 ?_).2
    have hn5:¬ hasP (s.extract i s.size) ⟨#[37,37]⟩=true:=by simp [h5]
    have hn27:¬ digB s (i+1)=true:=by simp [h27]
    first
      | exact H.hp.retL ⟨_,_,_,Lp46,Lo46,by rw [pctS,if_neg hn5,if_neg hn27,if_pos ⟨c1,h54⟩];rfl,by rw [pctS,if_neg hn5,if_neg hn27,if_pos ⟨c1,h54⟩];exact hR46⟩
      | (have hn3:¬ (hasP (s.extract i s.size) ⟨#[37,100]⟩=true∧digB s (i+2)=true):=by simp_all
         exact H.hp.retL ⟨_,_,_,Lp,Lo,by rw [pctS,if_neg hn5,if_neg hn27,if_neg hn3,hLt],by rw [pctS,if_neg hn5,if_neg hn27,if_neg hn3];exact hR⟩)
  skip;refine c_drawI (hmx) [[],[0],[0,1],[0,1,2],[],[4],[4,5],[4,5,6],(List.range 8),(List.range 9),(List.range 10),(List.range 11),(List.range 11),(List.range 11++[12]),(List.range 11++[12,13]),(List.range 11++[12,13,14]),(List.range 11++[12,13,14,15]),(List.range 17),(List.range 18),(List.range 19)] [] (by kernel_rfl) (by kernel_rfl) (fun (ix_:Nat) (v:Value) (G:GH)=>match ix_ with|0=>v=.pointer (some ⟨b,0,none⟩)|1=>v=.pointer (some ⟨b,0,none⟩)|2=>v=.pointer (some ⟨b,0,none⟩)|3=>v=.string s|4=>v=.pointer (some ⟨b,0,none⟩)|5=>v=.pointer (some ⟨b,0,none⟩)|6=>v=.pointer (some ⟨b,1,none⟩)|7=>v=vi i|8=>v=.string (s.extract i s.size)|9=>v=.bool (hasP (s.extract i s.size) ⟨#[37,100]⟩)|10=>v=.bool (decide (hasP (s.extract i s.size) ⟨#[37,100]⟩=true))|11=>v=undef|12=>v=undef|13=>v=undef|14=>v=undef|15=>v=undef|16=>v=undef|17=>v=undef|18=>v=.bool false|19=>v=.bool false|_=>True) (fun _ _ _ _ _ h=>h) H ?_ ?_
  · clear H;refine al4 ?_ ?_ ?_ ?_ (al4 ?_ ?_ ?_ ?_ (al4 ?_ ?_ ?_ ?_ (al4 ?_ ?_ ?_ ?_ (al4 ?_ ?_ ?_ ?_ allI_nil))))
    · exact Z0 rfl rfl fun _ _ _ _ _=>Rm rfl
    · exact Z1 0 55 rfl rfl fun _ _ _ _ _=>Rk rfl
    · exact Z1 1 56 rfl rfl fun _ _ _ _ _=>Rf fd228_0lpc rfl
    · exact Z1 2 57 rfl rfl fun _ _ _ _ _=>Ro ty9run 0 rfl rfl
    · exact Z0 rfl rfl fun _ _ _ _ _=>Rm rfl
    · exact Z1 4 59 rfl rfl fun _ _ _ _ _=>Rk rfl
    · exact Z1 5 60 rfl rfl fun _ _ _ _ _=>Rf fd228_1lpc rfl
    · exact Z1 6 61 rfl rfl fun _ _ _ _ _=>Ro ty3run 0 rfl rfl
    · refine Op2 3 58 7 62 rfl rfl fun _ a w G1 hG HT H fin=>?_;refine s_strFrom i un9cp H wn rfl rfl rfl (by omega) rfl ?_;clear H;intro a H;exact fin H iJ rfl
    · refine Op1 8 63 rfl rfl fun _ a w G1 hG HT H fin=>?_;refine s_call en143lpc H wn rfl (hasPre_spec _ _ H.hp.ro _ _ hex (by decide)) rfl ?_;clear H;rintro v64 G64 a w ⟨rfl,rfl⟩ hGm64 H;exact fin H hGm64 (rfl)
    · refine Op1 9 64 rfl rfl fun _ a w G1 hG HT H fin=>?_;refine kH H (Rm rfl ?_);clear H;intro a H;exact fin H iJ (by simp)
    · exact skI 10 (decide_eq_false c1) rfl rfl
    · exact skI 10 (decide_eq_false c1) rfl rfl
    · exact skI 10 (decide_eq_false c1) rfl rfl
    · exact skI 10 (decide_eq_false c1) rfl rfl
    · exact skI 10 (decide_eq_false c1) rfl rfl
    · exact skI 10 (decide_eq_false c1) rfl rfl
    · exact skI 10 (decide_eq_false c1) rfl rfl
    · exact Op2 10 65 17 72 rfl rfl fun _ _ _ _ hG _ H fin=>kH H (Pf (decide_eq_false c1) rfl fun _ H=>fin H iJ rfl)
    exact Op1 18 73 rfl rfl fun _ _ _ _ hG _ H fin=>kH H (Ra rfl fun _ H=>fin H iJ rfl)
  clear H;intro a w G hGm7 H hv;obtain ⟨u54,hu54,hp54⟩:=hv 19 54 (by decide) rfl;obtain rfl:u54=.bool false:=hp54;have H:=H.addS hu54;clear hv;refine wl_nil ⟨rfl,?_⟩;refine K5 _ _ ?_;clear K5;refine c_cond_f H rfl rfl ?_;refine kP H (SC (Rm rfl (Rk rfl (Rf fd228_5lpc rfl ?_))));clear H;intro a H;refine s_store ty46idx 0 (vs:=[_]) _ H wn rfl rfl rfl rfl rfl rfl rfl rfl ?_;clear H;intro w H;dsimp only [List.set,setRow] at H;refine wl_nil ?_;refine (leave0 H Tryz.results140 ?_).2
  have hn5:¬ hasP (s.extract i s.size) ⟨#[37,37]⟩=true:=by simp [h5]
  have hn27:¬ digB s (i+1)=true:=by simp [h27]
  first
    | exact H.hp.retL ⟨_,_,_,Lp46,Lo46,by rw [pctS,if_neg hn5,if_neg hn27,if_pos ⟨c1,h54⟩];rfl,by rw [pctS,if_neg hn5,if_neg hn27,if_pos ⟨c1,h54⟩];exact hR46⟩
    | (have hn3:¬ (hasP (s.extract i s.size) ⟨#[37,100]⟩=true∧digB s (i+2)=true):=by simp_all
       exact H.hp.retL ⟨_,_,_,Lp,Lo,by rw [pctS,if_neg hn5,if_neg hn27,if_neg hn3,hLt],by rw [pctS,if_neg hn5,if_neg hn27,if_neg hn3];exact hR⟩)
end
section
open Go.RowKit
theorem en140scn:∀ args w,(callFunc 140 args).run Tryz.prog w=.ok (.enter 140 args) w:=enters Tryz.func140 rfl (by kernel_rfl)
def bAt (s:ByteArray) (i:Nat):UInt8:=if h:i < s.size then s[i] else 0
theorem bAt_eq (s:ByteArray) (i:Nat):byteAt s i=((bAt s i).toNat:Int):=by
 unfold byteAt bAt;split <;> rfl
def stepS (s:ByteArray) (x:ScS):ScS:=if byteAt s x.i=37 then pctS s x else ⟨x.i+1,x.lit++[bAt s x.i],x.parts,x.pl,x.e⟩
/-- What the scanner holds behind its rounds. -/
def scnF (s:ByteArray):Nat→ScS→ScS
 | 0,x=>x
 | f+1,x=>if x.i < s.size∧x.e=0 then scnF s f (stepS s x) else x
def mS (s:ByteArray) (x:ScS):Nat:=if x.e=0 then s.size - x.i else 0
theorem scnF_end {s:ByteArray} {f:Nat} {x:ScS} (h:¬ (x.i < s.size∧x.e=0)):scnF s f x=x:=by
 cases f with
 | zero=>rfl
 | succ f=>rw [scnF,if_neg h]
theorem flS_len (lit:List UInt8) (parts:List LpD):(flS lit parts).length≤parts.length+1:=by unfold flS;split <;> simp
theorem stepS_ok (s:ByteArray) (x:ScS) (h:x.i < s.size∧x.e=0) (h1:x.lit.length≤x.i) (h2:x.parts.length≤2*x.i) (h3:x.pl≤x.i) :
  (stepS s x).i≤x.i+3∧(stepS s x).lit.length≤(stepS s x).i∧(stepS s x).parts.length≤2*(stepS s x).i∧(stepS s x).pl≤(stepS s x).i∧mS s (stepS s x) < mS s x∧mS s x≤s.size:=by
 have hf:=flS_len x.lit x.parts;have hm:mS s x=s.size - x.i:=if_pos h.2
 unfold stepS pctS
 split
 ·split
  ·refine ⟨?_,?_,?_,?_,?_,?_⟩ <;> simp only [mS,List.length_append,List.length_cons,List.length_nil] at*<;> simp only [h.2,if_true] at*<;> omega
  split
  ·refine ⟨?_,?_,?_,?_,?_,?_⟩ <;> simp only [mS,List.length_append,List.length_cons,List.length_nil] at*<;> simp only [h.2,if_true] at*<;> omega
  split
  ·refine ⟨?_,?_,?_,?_,?_,?_⟩ <;> simp only [mS,List.length_append,List.length_cons,List.length_nil] at*<;> simp only [h.2,if_true] at*<;> omega
  refine ⟨?_,?_,?_,?_,?_,?_⟩ <;> simp only [mS,List.length_append,List.length_cons,List.length_nil] at*<;> simp only [h.2,if_true] at*<;> (try omega) <;> (simp;omega)
 refine ⟨?_,?_,?_,?_,?_,?_⟩ <;> simp only [mS,List.length_append,List.length_cons,List.length_nil] at*<;> simp only [h.2,if_true] at*<;> omega
def sc0:ScS:=⟨0,[],[],0,0⟩
def scR (s:ByteArray):ScS:=scnF s s.size sc0
def scE (x:ScS):Int:=if x.e=0∧9 < (x.pl:Int) then 9 else x.e
set_option maxHeartbeats 1000000 in
theorem scan_spec (G:GH) (Lp0 Lo0:OL) (w0:World) (b:Nat) (s:ByteArray) (p0 v0 q0:Value) (hR:ScR b [] [] p0 v0 q0 Lp0 Lo0) (hO:Owns G (scX b s sc0 p0 v0 q0 :: (Lp0++Lo0)) w0) (hs:s.size≤1073741824) :
  Calls Tryz.prog 137 #[.pointer (some ⟨b,0,none⟩)] w0 (RetL w0 G (scX b s sc0 p0 v0 q0 :: (Lp0++Lo0)) fun u G' L'=>∃ p' v' q' Lp' Lo',L'=scB b s (scR s).i p' v' q' (scR s).pl (scE (scR s)) :: (Lp'++Lo')∧ScR b [] (flS (scR s).lit (scR s).parts) p' v' q' Lp' Lo'):=by
 obtain ⟨A0,c0,rfl,-,-⟩:=hR.buf.shape;obtain ⟨B0,d0,rfl,-,-⟩:=hR.prt.shape;refine enterL (N:=68) (T:=[(0,_)]) Tryz.func137 rfl Tryz.ntmps137 rfl rfl hO ?_;intro a H;refine c_seq (fun _ K1=>?_);refine c_block ?_;skip;refine c_loopS (ι:=Nat × ScS × Value × Option Addr × Nat × Option Addr × Nat × OL × OL × GH) (Tc:=[(0,_)]) (Lc:=[]) (fun (gh:Nat × ScS × Value × Option Addr × Nat × Option Addr × Nat × OL × OL × GH)=>[]) (fun (gh:Nat × ScS × Value × Option Addr × Nat × Option Addr × Nat × OL × OL × GH)=>[scX b s gh.2.1 gh.2.2.1 (.slice gh.2.2.2.1 gh.2.1.lit.length gh.2.2.2.2.1) (.slice gh.2.2.2.2.2.1 gh.2.1.parts.length gh.2.2.2.2.2.2.1)]++(gh.2.2.2.2.2.2.2.1++gh.2.2.2.2.2.2.2.2.1)) (fun (gh:Nat × ScS × Value × Option Addr × Nat × Option Addr × Nat × OL × OL × GH)=>gh.2.2.2.2.2.2.2.2.2) (fun (gh:Nat × ScS × Value × Option Addr × Nat × Option Addr × Nat × OL × OL × GH)=>ScR b gh.2.1.lit gh.2.1.parts gh.2.2.1 (.slice gh.2.2.2.1 gh.2.1.lit.length gh.2.2.2.2.1) (.slice gh.2.2.2.2.2.1 gh.2.1.parts.length gh.2.2.2.2.2.2.1) gh.2.2.2.2.2.2.2.1 gh.2.2.2.2.2.2.2.2.1∧scnF s gh.1 gh.2.1=scR s∧mS s gh.2.1≤gh.1∧gh.1≤s.size∧gh.2.1.i≤s.size+3∧gh.2.1.lit.length≤gh.2.1.i∧gh.2.1.parts.length≤2*gh.2.1.i∧gh.2.1.pl≤gh.2.1.i) (fun (gh:Nat × ScS × Value × Option Addr × Nat × Option Addr × Nat × OL × OL × GH)=>gh.1) ((s.size,sc0,p0,A0,c0,B0,d0,Lp0,Lo0,G)) (by exact (H).sub ⟨rfl,trivial⟩) ?_ ?_
 ·exact ⟨hR,rfl,by simp [mS,sc0],Nat.le_refl _,by simp [sc0],by simp [sc0],by simp [sc0],by simp [sc0]⟩
 clear H;intro gh a w hI H;obtain ⟨k,x,p,vA,vc,qA,qc,Lp,Lo,g⟩:=gh;dsimp only at hI H;obtain ⟨hR,hsc,hmk,hks,hxi,hx1,hx2,hx3⟩:=hI;dsimp only [List.cons_append,List.nil_append,List.append_nil] at H;refine c_seq (fun _ K2=>?_);refine c_seq (fun _ K3=>?_)
 by_cases c0:(x.i:Int) < (s.size:Int)
 ·skip
  by_cases c1:x.e=0
  ·skip;refine c_drawI (hmx) [[],[0],[0,1],[0,1,2],[],[4],[4,5],[4,5,6],[4,5,6,7],(List.range 9),(List.range 10),(List.range 11),(List.range 12),(List.range 13),(List.range 14),(List.range 15),(List.range 16)] [] (by kernel_rfl) (by kernel_rfl) (fun (ix_:Nat) (v:Value) (G:GH)=>match ix_ with|0=>v=.pointer (some ⟨b,0,none⟩)|1=>v=.pointer (some ⟨b,0,none⟩)|2=>v=.pointer (some ⟨b,1,none⟩)|3=>v=vi x.i|4=>v=.pointer (some ⟨b,0,none⟩)|5=>v=.pointer (some ⟨b,0,none⟩)|6=>v=.pointer (some ⟨b,0,none⟩)|7=>v=.string s|8=>v=vi s.size|9=>v=.bool (decide ((x.i:Int) < (s.size:Int)))|10=>v=.bool (decide ((x.i:Int) < (s.size:Int)))|11=>v=.pointer (some ⟨b,0,none⟩)|12=>v=.pointer (some ⟨b,0,none⟩)|13=>v=.pointer (some ⟨b,6,none⟩)|14=>v=vi x.e|15=>v=.bool (decide (x.e=0))|16=>v=.bool (decide (x.e=0))|_=>True) (fun _ _ _ _ _ h=>h) H ?_ ?_
   ·clear H;refine al4 ?_ ?_ ?_ ?_ (al4 ?_ ?_ ?_ ?_ (al4 ?_ ?_ ?_ ?_ (al4 ?_ ?_ ?_ ?_ (allI_cons ?_ allI_nil))))
    ·exact Z0 rfl rfl fun _ _ _ _ _=>Rm rfl
    ·exact Z1 0 2 rfl rfl fun _ _ _ _ _=>Rk rfl
    ·exact Z1 1 3 rfl rfl fun _ _ _ _ _=>Rf fd228_1lpc rfl
    ·exact Z1 2 4 rfl rfl fun _ _ _ _ _=>Ro ty3run 0 rfl rfl
    ·exact Z0 rfl rfl fun _ _ _ _ _=>Rm rfl
    ·exact Z1 4 6 rfl rfl fun _ _ _ _ _=>Rk rfl
    ·exact Z1 5 7 rfl rfl fun _ _ _ _ _=>Rf fd228_0lpc rfl
    ·exact Z1 6 8 rfl rfl fun _ _ _ _ _=>Ro ty9run 0 rfl rfl
    ·exact Z1 7 9 rfl rfl fun _ _ _ _ _=>Rv un9cp rfl
    ·exact Z2 3 5 8 10 rfl rfl fun _ _ _ _ _=>Rc rfl
    ·exact Z1 9 11 rfl rfl fun _ _ _ _ _=>Rm rfl
    ·exact Op1 10 12 rfl rfl fun _ _ _ _ hG _ H fin=>kH H (YM (decide_eq_true c0) rfl fun _ H=>fin H iJ rfl)
    ·refine Op2 11 13 10 12 rfl rfl fun _ a w G1 hG HT H fin=>?_;refine s_nilCheck H (wg H rfl rfl (decide_eq_true c0)) rfl rfl ?_;clear H;intro a H;exact fin H iJ rfl
    ·exact Op2 12 14 10 12 rfl rfl fun _ _ _ _ hG _ H fin=>kH H (YF fd228_5lpc (decide_eq_true c0) rfl fun _ H=>fin H iJ rfl)
    ·exact Op2 13 15 10 12 rfl rfl fun _ _ _ _ hG _ H fin=>kH H (YO ty46idx 0 (decide_eq_true c0) rfl rfl fun _ H=>fin H iJ rfl)
    ·exact Op2 14 16 10 12 rfl rfl fun _ _ _ _ hG _ H fin=>kH H (YC (decide_eq_true c0) rfl fun _ H=>fin H iJ rfl)
    exact Op2 10 12 15 17 rfl rfl fun _ _ _ _ hG _ H fin=>kH H (Pt (decide_eq_true c0) rfl fun _ H=>fin H iJ rfl)
   clear H;intro a w G hGm0 H hv;obtain ⟨u18,hu18,hp18⟩:=hv 16 18 (by decide) rfl;obtain rfl:u18=.bool (decide (x.e=0)):=hp18;have H:=H.addS hu18;clear hv;refine wl_nil ⟨rfl,?_⟩;refine K3 _ _ ?_;clear K3;refine c_cond_t H rfl (decide_eq_true c1) ?_;refine kP H (Kc K2 (SB (SQ fun _ K4=>SQ fun _ K5=>?_)));clear H K2;intro a H;refine c_drawI (hmx) [[],[0],[0,1],[0,1,2],[],[4],[4,5],[4,5,6],(List.range 8),(List.range 9)] [] (by kernel_rfl) (by kernel_rfl) (fun (ix_:Nat) (v:Value) (G:GH)=>match ix_ with|0=>v=.pointer (some ⟨b,0,none⟩)|1=>v=.pointer (some ⟨b,0,none⟩)|2=>v=.pointer (some ⟨b,0,none⟩)|3=>v=.string s|4=>v=.pointer (some ⟨b,0,none⟩)|5=>v=.pointer (some ⟨b,0,none⟩)|6=>v=.pointer (some ⟨b,1,none⟩)|7=>v=vi x.i|8=>v=.int .u8 (byteAt s x.i)|9=>v=.bool (decide (byteAt s x.i=37))|_=>True) (fun _ _ _ _ _ h=>h) H ?_ ?_
   ·clear H;refine al4 ?_ ?_ ?_ ?_ (al4 ?_ ?_ ?_ ?_ (allI_cons ?_ (allI_cons ?_ allI_nil)))
    ·exact Z0 rfl rfl fun _ _ _ _ _=>Rm rfl
    ·exact Z1 0 19 rfl rfl fun _ _ _ _ _=>Rk rfl
    ·exact Z1 1 20 rfl rfl fun _ _ _ _ _=>Rf fd228_0lpc rfl
    ·exact Z1 2 21 rfl rfl fun _ _ _ _ _=>Ro ty9run 0 rfl rfl
    ·exact Z0 rfl rfl fun _ _ _ _ _=>Rm rfl
    ·exact Z1 4 23 rfl rfl fun _ _ _ _ _=>Rk rfl
    ·exact Z1 5 24 rfl rfl fun _ _ _ _ _=>Rf fd228_1lpc rfl
    ·exact Z1 6 25 rfl rfl fun _ _ _ _ _=>Ro ty3run 0 rfl rfl
    ·refine Op2 3 22 7 26 rfl rfl fun _ a w G1 hG HT H fin=>?_;refine s_indexs x.i un9cp H wn rfl rfl rfl (by omega) rfl ?_;clear H;intro a H;rw [← byteAt_lt] at H;exact fin H iJ rfl
    exact Op1 8 27 rfl rfl fun _ _ _ _ hG _ H fin=>kH H (Rc rfl fun _ H=>fin H iJ rfl)
   clear H;intro a w G hGm1 H hv;obtain ⟨u28,hu28,hp28⟩:=hv 9 28 (by decide) rfl;obtain rfl:u28=.bool (decide (byteAt s x.i=37)):=hp28;have H:=H.addS hu28;clear hv;refine wl_nil ⟨rfl,?_⟩;refine K5 _ _ ?_;clear K5;refine c_cond H rfl ?_ ?_
   ·intro h28
    try have p28:=dT h28
    refine kP H (SR fun _ K6=>Rm rfl ?_);clear H;intro a H;refine s_callL en140scn (Li:=[]) (L:=scX b s x p (.slice vA x.lit.length vc) (.slice qA x.parts.length qc) :: (Lp++Lo)) H wn rfl (percent_spec _ Lp Lo _ b s x p _ _ hR (Hp.owns (Li:=[]) H.hp) (by omega) (by omega) (by omega) (by omega) (by omega)) rfl ?_;clear H;rintro v30 G30 L30 a w ⟨p',v',q',Lp',Lo',rfl,hR30⟩ hm30 H;dsimp only [List.nil_append] at H;have hst:stepS s x=pctS s x:=if_pos p28;have hok:=stepS_ok s x ⟨by omega,c1⟩ hx1 hx2 hx3
    have hkk:k=(k - 1)+1:=by omega
    have hscn:scnF s (k - 1) (stepS s x)=scR s:=by rw [hkk,scnF,if_pos ⟨by omega,c1⟩] at hsc;exact hsc
    rw [← hst] at H hR30;obtain ⟨A30,c30,rfl,-,-⟩:=hR30.buf.shape;obtain ⟨B30,d30,rfl,-,-⟩:=hR30.prt.shape;refine K6 _ _ ?_;clear K6;refine c_exit ?_;refine loop_end ((k - 1,stepS s x,p',A30,c30,B30,d30,Lp',Lo',G30)) (by exact (H).sub ⟨rfl,trivial⟩) ?_ ?_
    ·(try dsimp only);exact ⟨hR30,hscn,by omega,by omega,by omega,by omega,by omega,by omega⟩
    first|omega|(dsimp only;omega)
   intro h28
   try have p28:=dF h28
   refine c_skip ?_;refine K4 _ _ ?_;clear K4;refine c_seq (fun _ K7=>?_);refine c_drawI (hmx) [[],[0],[0,1],[],[3],[3,4],[3,4,5],[],[7],[7,8],[7,8,9],[3,4,5,6,7,8,9,10],(List.range 12)] [12] (by kernel_rfl) (by kernel_rfl) (fun (ix_:Nat) (v:Value) (G:GH)=>match ix_ with|0=>v=.pointer (some ⟨b,0,none⟩)|1=>v=.pointer (some ⟨b,0,none⟩)|2=>v=.pointer (some ⟨b,2,none⟩)|3=>v=.pointer (some ⟨b,0,none⟩)|4=>v=.pointer (some ⟨b,0,none⟩)|5=>v=.pointer (some ⟨b,0,none⟩)|6=>v=.string s|7=>v=.pointer (some ⟨b,0,none⟩)|8=>v=.pointer (some ⟨b,0,none⟩)|9=>v=.pointer (some ⟨b,1,none⟩)|10=>v=vi x.i|11=>v=.int .u8 (byteAt s x.i)|_=>True) (fun _ _ _ _ _ h=>h) H ?_ ?_
   ·clear H;refine al4 ?_ ?_ ?_ ?_ (al4 ?_ ?_ ?_ ?_ (al4 ?_ ?_ ?_ ?_ (allI_cons ?_ allI_nil)))
    ·exact Z0 rfl rfl fun _ _ _ _ _=>Rm rfl
    ·exact Z1 0 31 rfl rfl fun _ _ _ _ _=>Rk rfl
    ·exact Z1 1 32 rfl rfl fun _ _ _ _ _=>Rf fd228_2lfl rfl
    ·exact Z0 rfl rfl fun _ _ _ _ _=>Rm rfl
    ·exact Z1 3 34 rfl rfl fun _ _ _ _ _=>Rk rfl
    ·exact Z1 4 35 rfl rfl fun _ _ _ _ _=>Rf fd228_0lpc rfl
    ·exact Z1 5 36 rfl rfl fun _ _ _ _ _=>Ro ty9run 0 rfl rfl
    ·exact Z0 rfl rfl fun _ _ _ _ _=>Rm rfl
    ·exact Z1 7 38 rfl rfl fun _ _ _ _ _=>Rk rfl
    ·exact Z1 8 39 rfl rfl fun _ _ _ _ _=>Rf fd228_1lpc rfl
    ·exact Z1 9 40 rfl rfl fun _ _ _ _ _=>Ro ty3run 0 rfl rfl
    ·refine Op2 6 37 10 41 rfl rfl fun _ a w G1 hG HT H fin=>?_;refine s_indexs x.i un9cp H wn rfl rfl rfl (by omega) rfl ?_;clear H;intro a H;rw [← byteAt_lt] at H;exact fin H iJ rfl
    exact opB rfl
   clear H;intro a w G hGm3 H hv;obtain ⟨u33,hu33,hp33⟩:=hv 2 33 (by decide) rfl;obtain rfl:u33=.pointer (some ⟨b,2,none⟩):=hp33;have H:=H.addS hu33;obtain ⟨u42,hu42,hp42⟩:=hv 11 42 (by decide) rfl;obtain rfl:u42=.int .u8 (byteAt s x.i):=hp42;have H:=H.addS hu42;clear hv;refine s_callL en141lpc (Li:=[]) (L:=scX b s x p (.slice vA x.lit.length vc) (.slice qA x.parts.length qc) :: (Lp++Lo)) H wn rfl (wbyte_spec _ Lp Lo _ b s x.i p _ qA x.parts.length qc x.pl x.e x.lit.length _ (byteAt s x.i) hR.ptr (Hp.owns (Li:=[]) H.hp) hR.buf (by omega)) rfl ?_;clear H;rintro v43 _ L43 a w ⟨v43',Lo43,rfl,hrw43,rfl⟩ hm43 H;dsimp only [List.nil_append] at H;obtain ⟨A43,c43,rfl,-,-⟩:=hrw43.shape;have hst:stepS s x=⟨x.i+1,x.lit++[bAt s x.i],x.parts,x.pl,x.e⟩:=if_neg p28;have hok:=stepS_ok s x ⟨by omega,c1⟩ hx1 hx2 hx3
   have hkk:k=(k - 1)+1:=by omega
   have hscn:scnF s (k - 1) (stepS s x)=scR s:=by rw [hkk,scnF,if_pos ⟨by omega,c1⟩] at hsc;exact hsc
   have hR43:ScR b (stepS s x).lit (stepS s x).parts (.pointer (some ⟨b,2,none⟩)) (.slice A43 (stepS s x).lit.length c43) (.slice qA (stepS s x).parts.length qc) Lp Lo43:=by
    rw [hst];exact ⟨.inr rfl,by simpa [Lib.byteCells,bAt_eq] using hrw43,hR.prt⟩
   refine wl_nil ⟨rfl,?_⟩;refine K7 _ _ ?_;clear K7;refine kP H (SC (Rm rfl (Rk rfl (Rf fd228_1lpc rfl (Ro ty3run 0 rfl rfl (Rd rfl (Rk rfl (Rf fd228_1lpc rfl ?_))))))));clear H;intro a H;refine s_store ty3run 0 (vs:=[_]) _ H wn rfl rfl rfl rfl rfl rfl rfl rfl ?_;clear H;intro w H;dsimp only [List.set,setRow] at H;replace H:St _ _ _ _ _ _ (scX b s (stepS s x) (.pointer (some ⟨b,2,none⟩)) (.slice A43 (stepS s x).lit.length c43) (.slice qA (stepS s x).parts.length qc) :: (Lp++Lo43)) _ _ _:=H.cast (by rw [hst];simp [scX,scB]);refine wl_nil ?_;refine loop_end ((k - 1,stepS s x,.pointer (some ⟨b,2,none⟩),A43,c43,qA,qc,Lp,Lo43,_)) (by exact (H).sub ⟨rfl,trivial⟩) ?_ ?_
   ·(try dsimp only);exact ⟨hR43,hscn,by omega,by omega,by omega,by omega,by omega,by omega⟩
   first|omega|(dsimp only;omega)
  skip;refine c_drawI (hmx) [[],[0],[0,1],[0,1,2],[],[4],[4,5],[4,5,6],[4,5,6,7],(List.range 9),(List.range 10),(List.range 11),(List.range 12),(List.range 13),(List.range 14),(List.range 15),(List.range 16)] [] (by kernel_rfl) (by kernel_rfl) (fun (ix_:Nat) (v:Value) (G:GH)=>match ix_ with|0=>v=.pointer (some ⟨b,0,none⟩)|1=>v=.pointer (some ⟨b,0,none⟩)|2=>v=.pointer (some ⟨b,1,none⟩)|3=>v=vi x.i|4=>v=.pointer (some ⟨b,0,none⟩)|5=>v=.pointer (some ⟨b,0,none⟩)|6=>v=.pointer (some ⟨b,0,none⟩)|7=>v=.string s|8=>v=vi s.size|9=>v=.bool (decide ((x.i:Int) < (s.size:Int)))|10=>v=.bool (decide ((x.i:Int) < (s.size:Int)))|11=>v=.pointer (some ⟨b,0,none⟩)|12=>v=.pointer (some ⟨b,0,none⟩)|13=>v=.pointer (some ⟨b,6,none⟩)|14=>v=vi x.e|15=>v=.bool (decide (x.e=0))|16=>v=.bool (decide (x.e=0))|_=>True) (fun _ _ _ _ _ h=>h) H ?_ ?_
  ·clear H;refine al4 ?_ ?_ ?_ ?_ (al4 ?_ ?_ ?_ ?_ (al4 ?_ ?_ ?_ ?_ (al4 ?_ ?_ ?_ ?_ (allI_cons ?_ allI_nil))))
   ·exact Z0 rfl rfl fun _ _ _ _ _=>Rm rfl
   ·exact Z1 0 2 rfl rfl fun _ _ _ _ _=>Rk rfl
   ·exact Z1 1 3 rfl rfl fun _ _ _ _ _=>Rf fd228_1lpc rfl
   ·exact Z1 2 4 rfl rfl fun _ _ _ _ _=>Ro ty3run 0 rfl rfl
   ·exact Z0 rfl rfl fun _ _ _ _ _=>Rm rfl
   ·exact Z1 4 6 rfl rfl fun _ _ _ _ _=>Rk rfl
   ·exact Z1 5 7 rfl rfl fun _ _ _ _ _=>Rf fd228_0lpc rfl
   ·exact Z1 6 8 rfl rfl fun _ _ _ _ _=>Ro ty9run 0 rfl rfl
   ·exact Z1 7 9 rfl rfl fun _ _ _ _ _=>Rv un9cp rfl
   ·exact Z2 3 5 8 10 rfl rfl fun _ _ _ _ _=>Rc rfl
   ·exact Z1 9 11 rfl rfl fun _ _ _ _ _=>Rm rfl
   ·exact Op1 10 12 rfl rfl fun _ _ _ _ hG _ H fin=>kH H (YM (decide_eq_true c0) rfl fun _ H=>fin H iJ rfl)
   ·refine Op2 11 13 10 12 rfl rfl fun _ a w G1 hG HT H fin=>?_;refine s_nilCheck H (wg H rfl rfl (decide_eq_true c0)) rfl rfl ?_;clear H;intro a H;exact fin H iJ rfl
   ·exact Op2 12 14 10 12 rfl rfl fun _ _ _ _ hG _ H fin=>kH H (YF fd228_5lpc (decide_eq_true c0) rfl fun _ H=>fin H iJ rfl)
   ·exact Op2 13 15 10 12 rfl rfl fun _ _ _ _ hG _ H fin=>kH H (YO ty46idx 0 (decide_eq_true c0) rfl rfl fun _ H=>fin H iJ rfl)
   ·exact Op2 14 16 10 12 rfl rfl fun _ _ _ _ hG _ H fin=>kH H (YC (decide_eq_true c0) rfl fun _ H=>fin H iJ rfl)
   exact Op2 10 12 15 17 rfl rfl fun _ _ _ _ hG _ H fin=>kH H (Pt (decide_eq_true c0) rfl fun _ H=>fin H iJ rfl)
  clear H;intro a w G hGm0 H hv;obtain ⟨u18,hu18,hp18⟩:=hv 16 18 (by decide) rfl;obtain rfl:u18=.bool (decide (x.e=0)):=hp18;have H:=H.addS hu18;clear hv;refine wl_nil ⟨rfl,?_⟩;refine K3 _ _ ?_;clear K3;refine c_cond_f H rfl (decide_eq_false c1) ?_;refine c_exit ?_;refine K1 _ _ ?_;clear K1;refine c_seq (fun _ K8=>?_)
  have hxR:x=scR s:=by
   rw [scnF_end (by first|exact fun h=>c0 (by omega)|exact fun h=>c1 h.2)] at hsc;exact hsc
  subst hxR;refine kP H (SC (Rm rfl ?_));clear H;intro a H;refine s_callL en142lfl (Li:=[]) (L:=scX b s (scR s) p (.slice vA (scR s).lit.length vc) (.slice qA (scR s).parts.length qc) :: (Lp++Lo)) H wn rfl (flush_spec _ Lp Lo _ b s (scR s).i p _ _ (scR s).pl (scR s).e (scR s).lit (scR s).parts hR (Hp.owns (Li:=[]) H.hp) (by omega) (by omega)) rfl ?_;clear H;rintro v52 G52 L52 a w ⟨p52,v52',q52,Lp52,Lo52,rfl,hR52⟩ hm52 H;dsimp only [List.nil_append] at H;obtain ⟨A52,c52,rfl,-,-⟩:=hR52.buf.shape;obtain ⟨B52,d52,rfl,-,-⟩:=hR52.prt.shape;refine kH H (Kn K8 (SR fun _ K9=>Rm rfl (Rk rfl (Rf fd228_5lpc rfl (Ro ty46idx 0 rfl rfl (Rc rfl (Rm rfl ?_)))))));clear H K8;intro a H;refine s_split H 58 rfl ?_ ?_
  ·intro h58
   try have p58:=dT h58
   refine kH H (YM h58 rfl ?_);clear H;intro a H;refine s_nilCheck H (wg H rfl rfl h58) rfl rfl ?_;clear H;intro a H;refine kH H (YF fd228_4lfl h58 rfl (YO ty3run 0 h58 rfl rfl (YC h58 rfl (Pt h58 rfl (Kz K9 ?_)))));clear H K9;intro a H;refine c_cond H rfl ?_ ?_
   ·intro h64
    try have p64:=dT h64
    refine kP H (SC (Rm rfl (Rk rfl (Rf fd228_5lpc rfl ?_))));clear H;intro a H;refine s_store ty46idx 0 (vs:=[_]) _ H wn rfl rfl rfl rfl rfl rfl rfl rfl ?_;clear H;intro w H;dsimp only [List.set,setRow] at H;refine wl_nil ?_;refine (leave0 H Tryz.results137 ?_).2
    first
     | exact H.hp.retL ⟨_,_,_,_,_,by rw [scE,if_pos ⟨by assumption,by assumption⟩],hR52⟩
     | exact H.hp.retL ⟨_,_,_,_,_,by rw [scE,if_neg (by first|exact fun h=>p58 h.1|exact fun h=>p64 h.2)],hR52⟩
   intro h64
   try have p64:=dF h64
   refine c_skip ?_;refine (leave0 H Tryz.results137 ?_).2
   first
    | exact H.hp.retL ⟨_,_,_,_,_,by rw [scE,if_pos ⟨by assumption,by assumption⟩],hR52⟩
    | exact H.hp.retL ⟨_,_,_,_,_,by rw [scE,if_neg (by first|exact fun h=>p58 h.1|exact fun h=>p64 h.2)],hR52⟩
  intro h58
  try have p58:=dF h58
  refine kH H (Ks h58 rfl (Ks h58 rfl (Ks h58 rfl (Ks h58 rfl (Ks h58 rfl (Pf h58 rfl (Kz K9 ?_)))))));clear H K9;intro a H;refine c_cond_f H rfl rfl ?_;refine c_skip ?_;refine (leave0 H Tryz.results137 ?_).2
  first
   | exact H.hp.retL ⟨_,_,_,_,_,by rw [scE,if_pos ⟨by assumption,by assumption⟩],hR52⟩
   | exact H.hp.retL ⟨_,_,_,_,_,by rw [scE,if_neg (by first|exact fun h=>p58 h.1|exact fun h=>p64 h.2)],hR52⟩
 skip;refine c_drawI (hmx) [[],[0],[0,1],[0,1,2],[],[4],[4,5],[4,5,6],[4,5,6,7],(List.range 9),(List.range 10),(List.range 11),(List.range 12),(List.range 13),(List.range 14),(List.range 15),(List.range 16)] [] (by kernel_rfl) (by kernel_rfl) (fun (ix_:Nat) (v:Value) (G:GH)=>match ix_ with|0=>v=.pointer (some ⟨b,0,none⟩)|1=>v=.pointer (some ⟨b,0,none⟩)|2=>v=.pointer (some ⟨b,1,none⟩)|3=>v=vi x.i|4=>v=.pointer (some ⟨b,0,none⟩)|5=>v=.pointer (some ⟨b,0,none⟩)|6=>v=.pointer (some ⟨b,0,none⟩)|7=>v=.string s|8=>v=vi s.size|9=>v=.bool (decide ((x.i:Int) < (s.size:Int)))|10=>v=.bool (decide ((x.i:Int) < (s.size:Int)))|11=>v=undef|12=>v=undef|13=>v=undef|14=>v=undef|15=>v=undef|16=>v=.bool false|_=>True) (fun _ _ _ _ _ h=>h) H ?_ ?_
 ·clear H;refine al4 ?_ ?_ ?_ ?_ (al4 ?_ ?_ ?_ ?_ (al4 ?_ ?_ ?_ ?_ (al4 ?_ ?_ ?_ ?_ (allI_cons ?_ allI_nil))))
  ·exact Z0 rfl rfl fun _ _ _ _ _=>Rm rfl
  ·exact Z1 0 2 rfl rfl fun _ _ _ _ _=>Rk rfl
  ·exact Z1 1 3 rfl rfl fun _ _ _ _ _=>Rf fd228_1lpc rfl
  ·exact Z1 2 4 rfl rfl fun _ _ _ _ _=>Ro ty3run 0 rfl rfl
  ·exact Z0 rfl rfl fun _ _ _ _ _=>Rm rfl
  ·exact Z1 4 6 rfl rfl fun _ _ _ _ _=>Rk rfl
  ·exact Z1 5 7 rfl rfl fun _ _ _ _ _=>Rf fd228_0lpc rfl
  ·exact Z1 6 8 rfl rfl fun _ _ _ _ _=>Ro ty9run 0 rfl rfl
  ·exact Z1 7 9 rfl rfl fun _ _ _ _ _=>Rv un9cp rfl
  ·exact Z2 3 5 8 10 rfl rfl fun _ _ _ _ _=>Rc rfl
  ·exact Z1 9 11 rfl rfl fun _ _ _ _ _=>Rm rfl
  ·exact skI 10 (decide_eq_false c0) rfl rfl
  ·exact skI 10 (decide_eq_false c0) rfl rfl
  ·exact skI 10 (decide_eq_false c0) rfl rfl
  ·exact skI 10 (decide_eq_false c0) rfl rfl
  ·exact skI 10 (decide_eq_false c0) rfl rfl
  exact Op2 10 12 15 17 rfl rfl fun _ _ _ _ hG _ H fin=>kH H (Pf (decide_eq_false c0) rfl fun _ H=>fin H iJ rfl)
 clear H;intro a w G hGm0 H hv;obtain ⟨u18,hu18,hp18⟩:=hv 16 18 (by decide) rfl;obtain rfl:u18=.bool false:=hp18;have H:=H.addS hu18;clear hv;refine wl_nil ⟨rfl,?_⟩;refine K3 _ _ ?_;clear K3;refine c_cond_f H rfl rfl ?_;refine c_exit ?_;refine K1 _ _ ?_;clear K1;refine c_seq (fun _ K10=>?_)
 have hxR:x=scR s:=by
  rw [scnF_end (by first|exact fun h=>c0 (by omega)|exact fun h=>c1 h.2)] at hsc;exact hsc
 subst hxR;refine kP H (SC (Rm rfl ?_));clear H;intro a H;refine s_callL en142lfl (Li:=[]) (L:=scX b s (scR s) p (.slice vA (scR s).lit.length vc) (.slice qA (scR s).parts.length qc) :: (Lp++Lo)) H wn rfl (flush_spec _ Lp Lo _ b s (scR s).i p _ _ (scR s).pl (scR s).e (scR s).lit (scR s).parts hR (Hp.owns (Li:=[]) H.hp) (by omega) (by omega)) rfl ?_;clear H;rintro v52 G52 L52 a w ⟨p52,v52',q52,Lp52,Lo52,rfl,hR52⟩ hm52 H;dsimp only [List.nil_append] at H;obtain ⟨A52,c52,rfl,-,-⟩:=hR52.buf.shape;obtain ⟨B52,d52,rfl,-,-⟩:=hR52.prt.shape;refine kH H (Kn K10 (SR fun _ K11=>Rm rfl (Rk rfl (Rf fd228_5lpc rfl (Ro ty46idx 0 rfl rfl (Rc rfl (Rm rfl ?_)))))));clear H K10;intro a H;refine s_split H 58 rfl ?_ ?_
 ·intro h58
  try have p58:=dT h58
  refine kH H (YM h58 rfl ?_);clear H;intro a H;refine s_nilCheck H (wg H rfl rfl h58) rfl rfl ?_;clear H;intro a H;refine kH H (YF fd228_4lfl h58 rfl (YO ty3run 0 h58 rfl rfl (YC h58 rfl (Pt h58 rfl (Kz K11 ?_)))));clear H K11;intro a H;refine c_cond H rfl ?_ ?_
  ·intro h64
   try have p64:=dT h64
   refine kP H (SC (Rm rfl (Rk rfl (Rf fd228_5lpc rfl ?_))));clear H;intro a H;refine s_store ty46idx 0 (vs:=[_]) _ H wn rfl rfl rfl rfl rfl rfl rfl rfl ?_;clear H;intro w H;dsimp only [List.set,setRow] at H;refine wl_nil ?_;refine (leave0 H Tryz.results137 ?_).2
   first
    | exact H.hp.retL ⟨_,_,_,_,_,by rw [scE,if_pos ⟨by assumption,by assumption⟩],hR52⟩
    | exact H.hp.retL ⟨_,_,_,_,_,by rw [scE,if_neg (by first|exact fun h=>p58 h.1|exact fun h=>p64 h.2)],hR52⟩
  intro h64
  try have p64:=dF h64
  refine c_skip ?_;refine (leave0 H Tryz.results137 ?_).2
  first
   | exact H.hp.retL ⟨_,_,_,_,_,by rw [scE,if_pos ⟨by assumption,by assumption⟩],hR52⟩
   | exact H.hp.retL ⟨_,_,_,_,_,by rw [scE,if_neg (by first|exact fun h=>p58 h.1|exact fun h=>p64 h.2)],hR52⟩
 intro h58
 try have p58:=dF h58
 refine kH H (Ks h58 rfl (Ks h58 rfl (Ks h58 rfl (Ks h58 rfl (Ks h58 rfl (Pf h58 rfl (Kz K11 ?_)))))));clear H K11;intro a H;refine c_cond_f H rfl rfl ?_;refine c_skip ?_;refine (leave0 H Tryz.results137 ?_).2
 first
  | exact H.hp.retL ⟨_,_,_,_,_,by rw [scE,if_pos ⟨by assumption,by assumption⟩],hR52⟩
  | exact H.hp.retL ⟨_,_,_,_,_,by rw [scE,if_neg (by first|exact fun h=>p58 h.1|exact fun h=>p64 h.2)],hR52⟩
end
section
open Go.RowKit
def u8Dat (c:Int):List Dat:=[.lf (.int .u8 c)]
theorem u8_of {G:GH} {c:Int} {cs:List Value} (h:RepRow G (u8Dat c) cs):cs=[.int .u8 c]:=by
 simp only [u8Dat,RepRow,RepV] at h
 obtain ⟨_,_,rfl,⟨rfl,_⟩,rfl⟩:=h
 rfl
/-- The bytes of a string. -/
def bytesI (s:ByteArray):List Int:=s.data.toList.map fun b=>(b.toNat:Int)
theorem bytes_cat (G:GH) (l:List Int):RepCat G 1 (l.map u8Dat) (l.map fun c=>Value.int .u8 c):=by
 refine ⟨l.map fun c=>[.int .u8 c],by induction l with|nil=>rfl|cons x r ih=>simp [ih],by simp,fun j r cs hr hc=>?_⟩
 rw [List.getElem?_map] at hr hc
 obtain ⟨x,hx,rfl⟩:=Option.map_eq_some_iff.1 hr
 rw [hx] at hc
 cases hc
 exact ⟨by simp only [u8Dat,RepRow];exact ⟨_,_,rfl,by simp [RepV,Value.oneCell'],rfl⟩,rfl⟩
theorem rep_fz {G:GH} {sz b o n cap:Nat} {cur:Array Value} {e:TypeId} {fz:Nat × Nat} {rows:List (List Dat)} (hb:G b=some (.cells cur e fz)) (h:RepV (fun k=>if k=b then some (.cells cur e (0,0)) else G k) (.sl sz rows) (.slice (some ⟨b,o,none⟩) n cap)) (hr:∀ r∈rows,∃ c,r=u8Dat c):RepV G (.sl sz rows) (.slice (some ⟨b,o,none⟩) n cap):=by
 simp only [RepV] at h ⊢
 obtain ⟨A,c,h1,h2,h3,h4⟩:=h
 refine ⟨A,c,h1,h2,h3,fun hn=>?_⟩
 obtain ⟨b',o',e',hrr⟩:=h4 hn
 injection h1 with e1
 subst e1
 injection e' with e2
 injection e2 with e3 e4
 subst e3;subst e4
 refine ⟨_,_,rfl,RepRows.mk fun k r hk=>?_⟩
 obtain ⟨cs,g1,g2,g3⟩:=hrr.get hk
 refine ⟨cs,g1,fun j u hj=>?_,?_⟩
 ·have:=g2 j u hj
  unfold gcell at this ⊢
  simp only [if_true] at this
  rw [hb];exact this
 ·obtain ⟨c,rfl⟩:=hr r (List.mem_of_getElem? hk)
  have:=u8_of g3
  subst this
  simp only [u8Dat,RepRow];exact ⟨_,_,rfl,by simp [RepV,Value.oneCell'],rfl⟩
section
variable {N:Nat} {D:List Deferred} {w0:World} {F:Nat→Prop} {G0 G:GH} {L:OL} {T:List (Nat × Value)}
variable {r:Option Nat} {P:Program} {ops:Array Oper} {Q:Exit→Act→World→Prop} {rest:List Oper} {a:Act} {w:World}
variable {d:Nat} {ty:TypeId} {pos:String} {aft:Array Edge} {g:Option (Nat × Bool)}
theorem upd_freezeAt {w:World} {b o n:Nat} {c:Array Value} {e:TypeId} {fz:Nat × Nat} (h:w.heap[b]?=some (.cells c e fz)) (hn:n≠0):∃ fz',Upd b (.cells c e fz') w (w.freeze ⟨b,o,none⟩ n):=by
 unfold World.freeze
 rw [if_neg hn]
 refine ⟨if fz.1 == fz.2 then (o,o+n) else (min fz.1 o,max fz.2 (o+n)),rfl,rfl,rfl,by simp,?_,fun k hk=>?_⟩
 ·simp [Array.getElem?_modify,h]
 ·simp [Array.getElem?_modify,Ne.symm hk]
theorem s_bytes {t u e:TypeId} {x:Operand} {s:ByteArray} (ht:P.underlying t=some .string) (hu:P.underlying u=some (.slice e)) (he:P.underlying e=some (.int .u8)) (H:St N D w0 F G0 G L T a w) (hw:Region.wanted ⟨some d,.convert t u x,ty,pos,aft,g⟩ (yielded ops a.tmps)=true) (hx:ev T x=some (.string s)) (hz:s.size≤4294967296) (hd:Nat.blt d N=true)
  (k:∀ v G' a' w',(∀ k o,G k=some o→G' k=some o)→RepV G' (.sl 1 ((bytesI s).map u8Dat)) v→St N D w0 F G0 G' L ((d,v) :: T) a' w'→WL r P ops Q rest a' w'):WL r P ops Q (⟨some d,.convert t u x,ty,pos,aft,g⟩ :: rest) a w:=by
 have hc:=Lib.run_convert_string_bytes (P:=P) w t u e s ht hu he
 have hge:=grownCap_ge w s.size 0 e
 have hml:s.size≤maxLen:=by
  have:maxLen=9223372036854775807:=rfl
  omega
 have hgm:=grownCap_le_maxLen w s.size 0 e hml
 have H1:=H.hp.drew.alloc (.cells (Lib.bytesCells w e s) e)
 have hw1:(w.drew.alloc (.cells (Lib.bytesCells w e s) e)).heap[w.drew.heap.size]?=some (.cells (Lib.bytesCells w e s) e (0,0)):=H1.own _ List.mem_cons_self
 obtain ⟨fz,hu2⟩:=upd_freezeAt (o:=(Lib.bytesCells w e s).size) (n:=1) hw1 (by decide)
 have H2:=H1.upd (i:=0) rfl hu2
 have H3:St N D w0 F G0 G ((w.heap.size,.cells (Lib.bytesCells w e s) e fz) :: L) ((d,.slice (some ⟨w.heap.size,0,none⟩) s.size (grownCap w s.size 0 e)) :: T) (a.put (some d) (.slice (some ⟨w.heap.size,0,none⟩) s.size (grownCap w s.size 0 e))) (Lib.bytesWorld w e s):=H.put hd _ H2
 obtain ⟨G',hm,hb,H4⟩:=H3.giveBox
 have hlen:(bytesI s).length=s.size:=by rw [bytesI,List.length_map,Array.length_toList];rfl
 have hrep:RepV G' (.sl 1 ((bytesI s).map u8Dat)) (.slice (some ⟨w.heap.size,0,none⟩) s.size (grownCap w s.size 0 e)):=by
  refine rep_fz hb ?_ (fun r hr=>by obtain ⟨c,-,rfl⟩:=List.mem_map.1 hr;exact ⟨c,rfl⟩)
  refine RepV.of_row (cur:=Lib.bytesCells w e s) (e:=e) (n:=s.size) (cap:=grownCap w s.size 0 e) (by simp) (by rw [List.length_map,hlen]) hge hgm ?_ (bytes_cat _ _)
  rw [Lib.bytesCells,Array.toList_append,Nat.mul_one,List.take_left' (by rw [Array.toList_map,List.length_map,Array.length_toList];rfl)]
  simp [bytesI]
 have k2:=k _ _ _ _ hm hrep H4
 refine wl_value (v:=.slice (some ⟨w.heap.size,0,none⟩) s.size (grownCap w s.size 0 e)) (w':=Lib.bytesWorld w e s) hw rfl ?_ k2
 simp only [execOp,H.ev hx,Sem.run_bind,hc,Result.andThen_ok,Sem.run_pure]
theorem s_lssstr {t yt:TypeId} {x y:Operand} {p q:ByteArray} (H:St N D w0 F G0 G L T a w) (hw:Region.wanted ⟨some d,.binOp .lss t x y yt,ty,pos,aft,g⟩ (yielded ops a.tmps)=true) (hx:ev T x=some (.string p)) (hy:ev T y=some (.string q)) (hd:Nat.blt d N=true)
  (k:∀ a',St N D w0 F G0 G L ((d,.bool (Op.bytesLess p.toList q.toList)) :: T) a' w→WL r P ops Q rest a' w):WL r P ops Q (⟨some d,.binOp .lss t x y yt,ty,pos,aft,g⟩ :: rest) a w:=by
 refine wl_value (v:=.bool (Op.bytesLess p.toList q.toList)) (w':=w) hw rfl ?_ (k _ (H.put hd _ H.hp))
 simp [execOp,H.ev hx,H.ev hy,Sem.run_bind,eqGuard,binOp,Op.stringOp]
end
end
section
open Go.RowKit
theorem en139lps:∀ args w,(callFunc 139 args).run Tryz.prog w=.ok (.enter 139 args) w:=enters Tryz.func139 rfl (by kernel_rfl)
theorem en137lps:∀ args w,(callFunc 137 args).run Tryz.prog w=.ok (.enter 137 args) w:=enters Tryz.func137 rfl (by kernel_rfl)
theorem en135lps:∀ args w,(callFunc 135 args).run Tryz.prog w=.ok (.enter 135 args) w:=enters Tryz.func135 rfl (by kernel_rfl)
theorem sr228lps:Srt Tryz.prog 228 [(0,1),(1,1),(2,2),(4,1),(5,1),(6,1)] [.string ⟨#[]⟩,.int .i64 0,.pointer none,.slice none 0 0,.slice none 0 0,.int .i64 0,.int .i64 0]:=⟨by kernel_rfl,by kernel_rfl⟩
theorem en138lps:∀ args w,(callFunc 138 args).run Tryz.prog w=.ok (.enter 138 args) w:=enters Tryz.func138 rfl (by kernel_rfl)
theorem fd210_1lps:Fld Tryz.prog 210 1 1:=⟨by kernel_rfl⟩
theorem en127lps:∀ args w,(callFunc 127 args).run Tryz.prog w=.ok (.enter 127 args) w:=enters Tryz.func127 rfl (by kernel_rfl)
theorem en128lps:∀ args w,(callFunc 128 args).run Tryz.prog w=.ok (.enter 128 args) w:=enters Tryz.func128 rfl (by kernel_rfl)
theorem en136lps:∀ args w,(callFunc 136 args).run Tryz.prog w=.ok (.enter 136 args) w:=enters Tryz.func136 rfl (by kernel_rfl)
theorem en129lps:∀ args w,(callFunc 129 args).run Tryz.prog w=.ok (.enter 129 args) w:=enters Tryz.func129 rfl (by kernel_rfl)
/-- What a test of bytes owes. -/
def TestU (fv:Value) (G:GH) (c:Int) (b:Bool):Prop:=∀ (G1:GH) (w1:World),(∀ b o,G b=some o→G1 b=some o)→Hold G1 w1→CallV Tryz.prog fv [.int .u8 c] w1 (Ret w1 G1 fun u G'=>u=.bool b)
theorem indexU_spec (G:GH) (w0:World) (hG:Hold G w0) (l:List Int) (p:Int→Bool) (v fv:Value) (hv:RepV G (.sl 1 (l.map u8Dat)) v) (hf:∀ c∈l,TestU fv G c (p c)) :
  Calls Tryz.prog 139 #[v,fv] w0 (Ret w0 G fun u G'=>u=vi (ixI (l.findIdx? p))):=by
 obtain ⟨A,c,rfl,hc1,hc2,hg⟩:=hv.slice;have hml:maxLen=9223372036854775807:=rfl;rw [List.length_map] at *;refine eN [(0,_),(1,_)] Tryz.func139 rfl Tryz.ntmps139 rfl rfl hG ?_;intro a H;refine kP H (SR fun _ K1=>Ra rfl (Kz K1 (SQ fun _ K2=>SR fun _ K3=>Rm rfl (Rl un221bld rfl (Rm rfl (Kz K3 (SB ?_)))))));clear H K1 K3;intro a H;skip;refine c_loopS (ι:=Nat × GH) (Tc:=[(0,_),(1,_),(7,_)]) (Lc:=[]) (fun (gh:Nat × GH)=>[(8,vi gh.1)]) (fun (gh:Nat × GH)=>[]) (fun (gh:Nat × GH)=>gh.2) (fun (gh:Nat × GH)=>gh.1≤l.length∧(l.take gh.1).findIdx? p=none∧(∀ b o,G b=some o→gh.2 b=some o)) (fun (gh:Nat × GH)=>l.length - gh.1) ((0,G)) (by exact (H).sub ⟨rfl,rfl,rfl,rfl,trivial⟩) ?_ ?_
 ·exact ⟨by omega,rfl,fun _ _ h=>h⟩
 clear H;intro gh a w hI H;obtain ⟨k,g⟩:=gh;dsimp only at hI H;obtain ⟨hk,hno,hgm⟩:=hI;dsimp only [List.cons_append,List.nil_append,List.append_nil] at H;refine kP H (SR fun _ K4=>Rc rfl (Kz K4 (SQ fun _ K5=>?_)));clear H K4;intro a H;refine c_cond H rfl ?_ ?_
 ·intro h9
  try have p9:=dT h9
  have hk2:k < l.length:=by omega
  obtain ⟨b,o,cs,rfl,hcl,hrow,hr⟩:=hg k (u8Dat l[k]) (by simp [hk2]);obtain rfl:=u8_of hr
  have hcell:gcell G b (o+k*1)=some (.int .u8 l[k]):=by simpa using hrow 0 _ rfl
  refine kP H (Kc K5 (SQ fun _ K6=>SB (SR fun _ K7=>Rm rfl (Ra rfl (Kz K7 (SR fun _ K8=>Rm rfl (Rm rfl (Rm rfl (Ri un221bld ty5lsc rfl rfl (Rg ty5lsc rfl (gcell_mono hgm hcell) ?_))))))))));clear H K5 K7;intro a H;refine s_callv0 H wn rfl rfl (hf _ (List.getElem_mem hk2) _ _ hgm H.hp.ro) rfl ?_;clear H;rintro v16 G16 a w rfl hm16 H;refine K8 _ _ ?_;clear K8;refine c_cond H rfl ?_ ?_
  ·intro h16
   try have p16:=dT h16
   refine kP H (SR fun _ K9=>Rm rfl (Ra rfl (Kz K9 ?_)));clear H K9;intro a H;refine lr H Tryz.results139 rfl ?_
   first
    | exact H.hp.ret (by rw [idx_stop hk2 hno h16];rfl)
    | exact H.hp.ret (by rw [show l.take k=l from List.take_of_length_le (by omega)] at hno;rw [hno];rfl)
  intro h16
  try have p16:=dF h16
  refine kP H (Kc K6 (SC (Rd rfl (Rm rfl ?_))));clear H K6;intro a H;refine wl_nil ?_;refine loop_end ((k+1,G16)) (by exact (H).sub ⟨rfl,rfl,rfl,rfl,trivial⟩) ?_ ?_
  ·(try dsimp only);exact ⟨by omega,idx_next hk2 hno h16,fun b o h=>hm16 b o (hgm b o h)⟩
  first|omega|(dsimp only;omega)
 intro h9
 try have p9:=dF h9
 refine c_exit ?_;refine K2 _ _ ?_;clear K2;refine kP H (SR fun _ K10=>Ra rfl (Kz K10 ?_));clear H K10;intro a H;refine lr H Tryz.results139 rfl ?_
 first
  | exact H.hp.ret (by rw [idx_stop hk2 hno h16];rfl)
  | exact H.hp.ret (by rw [show l.take k=l from List.take_of_length_le (by omega)] at hno;rw [hno];rfl)
theorem ixI_some (o:Option Nat):decide (0≤ixI o)=o.isSome:=by cases o <;> simp [ixI]
theorem containsU_spec (G:GH) (w0:World) (hG:Hold G w0) (l:List Int) (p:Int→Bool) (v fv:Value) (hv:RepV G (.sl 1 (l.map u8Dat)) v) (hf:∀ c∈l,TestU fv G c (p c)) :
  Calls Tryz.prog 135 #[v,fv] w0 (Ret w0 G fun u G'=>u=.bool (l.findIdx? p).isSome):=by
 obtain ⟨A,c,rfl,hc1,hc2,-⟩:=hv.slice;rw [List.length_map] at *;refine eN [(0,_),(1,_)] Tryz.func135 rfl Tryz.ntmps135 rfl rfl hG ?_;intro a H;refine kP H (SR fun _ K1=>Ra rfl (Kz K1 (SR fun _ K2=>Rm rfl (Rm rfl ?_))));clear H K1;intro a H;refine s_call en139lps H wn rfl (indexU_spec _ _ H.hp.ro l p _ _ hv hf) rfl ?_;clear H;rintro v7 G7 a w rfl hm7 H;refine kH H (Rc rfl (Ra rfl (Kz K2 ?_)));clear H K2;intro a H;refine lr H Tryz.results135 rfl ?_;exact H.hp.ret (congrArg Value.bool (ixI_some _))
def ctlB (c:Int):Bool:=decide (c < 32) || decide (c=127)
theorem ctl_test (G:GH) (c:Int):TestU (.func (.func 136) #[] #[]) G c (ctlB c):=by
 intro G1 w0 hm hG;refine callV_func (caps:=[]) en136lps ?_;refine eN [(0,_)] Tryz.func136 rfl Tryz.ntmps136 rfl rfl hG ?_;intro a H;refine kP H (SR fun _ K1=>Ra rfl (Kz K1 (SR fun _ K2=>Rm rfl (Rc rfl (Rm rfl ?_)))));clear H K1;intro a H;refine s_split H 5 rfl ?_ ?_
 ·intro h5
  try have p5:=dT h5
  refine kH H (Ks h5 rfl (Ks h5 rfl (Pt h5 rfl (Ra rfl (Kz K2 ?_)))));clear H K2;intro a H;refine lr H Tryz.results136 rfl ?_;exact H.hp.ret (congrArg Value.bool (by unfold ctlB;first|(simp_all;done)|(simp_all;omega)))
 intro h5
 try have p5:=dF h5
 refine kH H (YM h5 rfl (YC h5 rfl (Pf h5 rfl (Ra rfl (Kz K2 ?_)))));clear H K2;intro a H;refine lr H Tryz.results136 rfl ?_;exact H.hp.ret (congrArg Value.bool (by unfold ctlB;first|(simp_all;done)|(simp_all;omega)))
/-- What Parse gives: the parts, and the error. -/
def prsE (t:ByteArray):Int:=if 64 < t.size then 10 else if validS t=false then 12 else if ((bytesI t).findIdx? ctlB).isSome=true then 5 else scE (scR t)
def prsS (t:ByteArray):List LpD:=if prsE t=0 then flS (scR t).lit (scR t).parts else []
theorem lp_cat (G:GH) (l:List LpD):RepCat G 3 (l.map LpD.dat) (lpC l):=by
 refine ⟨l.map LpD.cells,rfl,by simp,fun j r cs hr hc=>?_⟩;rw [List.getElem?_map] at hr hc;obtain ⟨x,hx,rfl⟩:=Option.map_eq_some_iff.1 hr;rw [hx] at hc
 cases hc
 exact ⟨lp_row G x,rfl⟩
theorem parse_spec (G:GH) (w0:World) (hG:Hold G w0) (t:ByteArray) (ht:t.size < 4611686018427387904) :
  Calls Tryz.prog 127 #[.string t] w0 (Ret w0 G fun u G'=>∃ x,u=.tuple #[x,vi (prsE t)]∧RepV G' (.sl 3 ((prsS t).map LpD.dat)) x):=by
 refine eN [(0,_)] Tryz.func127 rfl Tryz.ntmps127 rfl rfl hG ?_;intro a H;refine kP H (SR fun _ K1=>Ra rfl (Ra rfl (Kz K1 (SQ fun _ K2=>SB (SR fun _ K3=>Rm rfl (Rv un9cp rfl (Rc rfl (Ra rfl (Kz K3 ?_)))))))));clear H K1 K3;intro a H;refine c_cond H rfl ?_ ?_
 ·intro h5
  try have p5:=dT h5
  refine c_seq (fun _ K4=>?_)
  have he:prsE t=10:=by rw [prsE,if_pos (by omega)]
  refine kP H (SC (Ra rfl (Ra rfl (Kn K4 ?_))));clear H K4;intro a H;refine c_ret ?_;refine (leaveT H Tryz.results127 (.cons (rv_tmp H rfl) (.cons (rv_tmp H rfl) .nil)) ?_).1
  first
   | exact H.hp.ret ⟨_,by rw [he0],by rw [prsS,if_pos he0];exact hrep⟩
   | exact H.hp.ret ⟨_,by rw [he],by rw [prsS,if_neg (by rw [he];first|decide|assumption)];exact RepV.nil_ rfl (by decide)⟩
 intro h5
 try have p5:=dF h5
 refine kP H (SR fun _ K5=>Rm rfl ?_);clear H;intro a H;refine s_call en85cp H wn rfl (valid_spec _ _ H.hp.ro t ht) rfl ?_;clear H;rintro v11 _ a w ⟨rfl,rfl⟩ - H;refine kH H (Rn rfl (Ra rfl (Kz K5 ?_)));clear H K5;intro a H;refine c_cond H rfl ?_ ?_
 ·intro h9
  try have p9:=dT h9
  refine c_seq (fun _ K6=>?_)
  have he:prsE t=12:=by rw [prsE,if_neg (by omega),if_pos (by simpa using h9)]
  refine kP H (SC (Ra rfl (Ra rfl (Kn K6 ?_))));clear H K6;intro a H;refine c_ret ?_;refine (leaveT H Tryz.results127 (.cons (rv_tmp H rfl) (.cons (rv_tmp H rfl) .nil)) ?_).1
  first
   | exact H.hp.ret ⟨_,by rw [he0],by rw [prsS,if_pos he0];exact hrep⟩
   | exact H.hp.ret ⟨_,by rw [he],by rw [prsS,if_neg (by rw [he];first|decide|assumption)];exact RepV.nil_ rfl (by decide)⟩
 intro h9
 try have p9:=dF h9
 refine kP H (SR fun _ K7=>Rm rfl ?_);clear H;intro a H;refine s_bytes un9cp un221bld un5cp H wn rfl (by omega) rfl ?_;clear H;intro v15 G15 a w hm15 hv15 H;obtain ⟨A15,c15,rfl,-,-,-⟩:=hv15.slice;refine s_call en135lps H wn rfl (containsU_spec _ _ H.hp.ro _ ctlB _ _ hv15 (fun c _=>ctl_test _ c)) rfl ?_;clear H;rintro v16 G16 a w rfl hm16 H;refine kH H (Ra rfl (Kz K7 ?_));clear H K7;intro a H;refine c_cond H rfl ?_ ?_
 ·intro h13
  try have p13:=dT h13
  refine c_seq (fun _ K8=>?_)
  have he:prsE t=5:=by rw [prsE,if_neg (by omega),if_neg (by simpa using h9),if_pos h13]
  refine kP H (SC (Ra rfl (Ra rfl (Kn K8 ?_))));clear H K8;intro a H;refine c_ret ?_;refine (leaveT H Tryz.results127 (.cons (rv_tmp H rfl) (.cons (rv_tmp H rfl) .nil)) ?_).1
  first
   | exact H.hp.ret ⟨_,by rw [he0],by rw [prsS,if_pos he0];exact hrep⟩
   | exact H.hp.ret ⟨_,by rw [he],by rw [prsS,if_neg (by rw [he];first|decide|assumption)];exact RepV.nil_ rfl (by decide)⟩
 intro h13
 try have p13:=dF h13
 refine kP H (Kc K2 (SR fun _ K9=>Rm rfl ?_));clear H K2;intro a H;refine s_build sr228lps [_,_,_,_,_,_,_] H wn rfl rfl rfl rfl ?_;clear H;intro a H;refine s_box (cs:=[_,_,_,_,_,_,_]) H wn rfl rfl rfl ?_;clear H;intro b19 a w hb19 H;refine kH H (Ra rfl (Kz K9 (SQ fun _ K10=>SR fun _ K11=>Rm rfl ?_)));clear H K9;intro a H;refine s_callL en137lps (Li:=[]) (L:=[scX b19 t sc0 (.pointer none) (.slice none 0 0) (.slice none 0 0)]) H wn rfl (scan_spec _ [] [] _ b19 t _ _ _ ⟨.inl rfl,IsRow.nil,IsRow.nil⟩ (Hp.owns (Li:=[]) H.hp) (by omega)) rfl ?_;clear H;rintro v21 G21 L21 a w ⟨p',v',q',Lp',Lo',rfl,hR21⟩ hm21 H;dsimp only [List.nil_append] at H;obtain ⟨A21,c21,rfl,-,-⟩:=hR21.buf.shape;obtain ⟨B21,d21,rfl,-,-⟩:=hR21.prt.shape;refine K11 _ _ ?_;clear K11;refine c_seq (fun _ K12=>?_)
 have he:prsE t=scE (scR t):=by rw [prsE,if_neg (by omega),if_neg (by simpa using h9),if_neg (by simp [h13])]
 refine kP H (SC (Rm rfl (Rk rfl (Rf fd228_5lpc rfl (Ro ty46idx 0 rfl rfl (Rc rfl (Kn K12 ?_)))))));clear H K12;intro a H;refine c_cond H rfl ?_ ?_
 ·intro h26
  try have p26:=dT h26
  refine c_seq (fun _ K13=>?_);have H:=H.sub (T':=[(4,_)]) ⟨rfl,trivial⟩;refine c_drawI (hmx) [[],[0],[0,1],[0,1,2],[],[0,1,2,3,4]] [] (by kernel_rfl) (by kernel_rfl) (fun (ix_:Nat) (v:Value) (G:GH)=>match ix_ with|0=>v=.pointer (some ⟨b19,0,none⟩)|1=>v=.pointer (some ⟨b19,0,none⟩)|2=>v=.pointer (some ⟨b19,6,none⟩)|3=>v=vi (scE (scR t))|4=>v=.slice none 0 0|5=>v=vi (scE (scR t))|_=>True) (fun _ _ _ _ _ h=>h) H ?_ ?_
  ·clear H;refine al4 ?_ ?_ ?_ ?_ (allI_cons ?_ (allI_cons ?_ allI_nil))
   ·exact Z0 rfl rfl fun _ _ _ _ _=>Rm rfl
   ·exact Z1 0 27 rfl rfl fun _ _ _ _ _=>Rk rfl
   ·exact Z1 1 28 rfl rfl fun _ _ _ _ _=>Rf fd228_5lpc rfl
   ·exact Z1 2 29 rfl rfl fun _ _ _ _ _=>Ro ty46idx 0 rfl rfl
   ·exact Z0 rfl rfl fun _ _ _ _ _=>Ra rfl
   exact Op1 3 30 rfl rfl fun _ _ _ _ hG _ H fin=>kH H (Ra rfl fun _ H=>fin H iJ rfl)
  clear H;intro a w G hGm10 H hv;obtain ⟨u2,hu2,hp2⟩:=hv 4 2 (by decide) rfl;obtain rfl:u2=.slice none 0 0:=hp2;have H:=H.addS hu2;obtain ⟨u3,hu3,hp3⟩:=hv 5 3 (by decide) rfl;obtain rfl:u3=vi (scE (scR t)):=hp3;have H:=H.addS hu3;clear hv;refine wl_nil ⟨rfl,?_⟩;refine K13 _ _ ?_;clear K13;refine c_ret ?_;refine (leaveT H Tryz.results127 (.cons (rv_tmp H rfl) (.cons (rv_tmp H rfl) .nil)) ?_).1
  first
   | exact H.hp.ret ⟨_,by rw [he0],by rw [prsS,if_pos he0];exact hrep⟩
   | exact H.hp.ret ⟨_,by rw [he],by rw [prsS,if_neg (by rw [he];first|decide|assumption)];exact RepV.nil_ rfl (by decide)⟩
 intro h26
 try have p26:=dF h26
 refine c_skip ?_;refine K10 _ _ ?_;clear K10;refine c_seq (fun _ K14=>?_)
 have he0:prsE t=0:=by rw [he];omega
 have H:=(St.cast H (show _=[_]++(Lp'++Lo') from rfl)).perm (List.Perm.append_left _ List.perm_append_comm);have H:=St.un H;obtain ⟨Gr,hmr,hrep,H⟩:=St.giveRow (Li:=[_]++Lo') (Lo:=Lp') H hR21.prt (rows:=(flS (scR t).lit (scR t).parts).map LpD.dat) (by simp) (lp_cat _ _);dsimp only [List.cons_append,List.nil_append] at H;refine kP H (SC (Rm rfl (Rk rfl (Rf fd228_3lfl rfl (Ro ty205lfl 0 rfl rfl (Ra rfl (Ra rfl (Kn K14 ?_))))))));clear H K14;intro a H;refine c_ret ?_;refine (leaveT H Tryz.results127 (.cons (rv_tmp H rfl) (.cons (rv_tmp H rfl) .nil)) ?_).1
 first
  | exact H.hp.ret ⟨_,by rw [he0],by rw [prsS,if_pos he0];exact hrep⟩
  | exact H.hp.ret ⟨_,by rw [he],by rw [prsS,if_neg (by rw [he];first|decide|assumption)];exact RepV.nil_ rfl (by decide)⟩
structure LvD where
 fmt:Int
 start:Int
 tmpl:ByteArray
 restart:Int
def LvD.dat (x:LvD):List Dat:=[li x.fmt,li x.start,.lf (.string x.tmpl),li x.restart]
abbrev LvD.cells (x:LvD):List Value:=[vi x.fmt,vi x.start,.string x.tmpl,vi x.restart]
theorem lv_of {G:GH} {x:LvD} {cs:List Value} (h:RepRow G x.dat cs):cs=x.cells:=by
 simp only [LvD.dat,RepRow,RepV] at h
 obtain ⟨_,_,rfl,⟨rfl,_⟩,_,_,rfl,⟨rfl,_⟩,_,_,rfl,⟨rfl,_⟩,_,_,rfl,⟨rfl,_⟩,rfl⟩:=h
 rfl
theorem indexLp_spec (G:GH) (w0:World) (hG:Hold G w0) (l:List LpD) (p:LpD→Bool) (v fv:Value) (hv:RepV G (.sl 3 (l.map LpD.dat)) v) (hf:∀ x∈l,Tester fv G x.dat (p x)) :
  Calls Tryz.prog 138 #[v,fv] w0 (Ret w0 G fun u G'=>u=vi (ixI (l.findIdx? p))):=by
 obtain ⟨A,c,rfl,hc1,hc2,hg⟩:=hv.slice;have hml:maxLen=9223372036854775807:=rfl;rw [List.length_map] at *;refine eN [(0,_),(1,_)] Tryz.func138 rfl Tryz.ntmps138 rfl rfl hG ?_;intro a H;refine kP H (SR fun _ K1=>Ra rfl (Kz K1 (SQ fun _ K2=>SR fun _ K3=>Rm rfl (Rl un205lfl rfl (Rm rfl (Kz K3 (SB ?_)))))));clear H K1 K3;intro a H;skip;refine c_loopS (ι:=Nat × GH) (Tc:=[(0,_),(1,_),(7,_)]) (Lc:=[]) (fun (gh:Nat × GH)=>[(8,vi gh.1)]) (fun (gh:Nat × GH)=>[]) (fun (gh:Nat × GH)=>gh.2) (fun (gh:Nat × GH)=>gh.1≤l.length∧(l.take gh.1).findIdx? p=none∧(∀ b o,G b=some o→gh.2 b=some o)) (fun (gh:Nat × GH)=>l.length - gh.1) ((0,G)) (by exact (H).sub ⟨rfl,rfl,rfl,rfl,trivial⟩) ?_ ?_
 ·exact ⟨by omega,rfl,fun _ _ h=>h⟩
 clear H;intro gh a w hI H;obtain ⟨k,g⟩:=gh;dsimp only at hI H;obtain ⟨hk,hno,hgm⟩:=hI;dsimp only [List.cons_append,List.nil_append,List.append_nil] at H;refine kP H (SR fun _ K4=>Rc rfl (Kz K4 (SQ fun _ K5=>?_)));clear H K4;intro a H;refine c_cond H rfl ?_ ?_
 ·intro h9
  try have p9:=dT h9
  have hk2:k < l.length:=by omega
  obtain ⟨b,o,cs,rfl,hcl,hrow,hr⟩:=hg k l[k].dat (by simp [hk2]);obtain rfl:=lp_of hr;refine kP H (Kc K5 (SQ fun _ K6=>SB (SR fun _ K7=>Rm rfl (Ra rfl (Kz K7 (SR fun _ K8=>Rm rfl (Rm rfl (Rm rfl (Ri un205lfl ty210lfl rfl rfl ?_)))))))));clear H K5 K7;intro a H;refine s_loada ty210lfl (cs:=l[k].cells) H wn rfl rfl (fun j v hj=>H.hp.gcell (gcell_mono hgm (hrow j v hj))) rfl ?_;clear H;intro a H;refine s_callv0 H wn rfl rfl (hf _ (List.getElem_mem hk2) _ _ _ hgm H.hp.ro (lp_row _ l[k])) rfl ?_;clear H;rintro v16 G16 a w rfl hm16 H;refine K8 _ _ ?_;clear K8;refine c_cond H rfl ?_ ?_
  ·intro h16
   try have p16:=dT h16
   refine kP H (SR fun _ K9=>Rm rfl (Ra rfl (Kz K9 ?_)));clear H K9;intro a H;refine lr H Tryz.results138 rfl ?_
   first
    | exact H.hp.ret (by rw [idx_stop hk2 hno h16];rfl)
    | exact H.hp.ret (by rw [show l.take k=l from List.take_of_length_le (by omega)] at hno;rw [hno];rfl)
  intro h16
  try have p16:=dF h16
  refine kP H (Kc K6 (SC (Rd rfl (Rm rfl ?_))));clear H K6;intro a H;refine wl_nil ?_;refine loop_end ((k+1,G16)) (by exact (H).sub ⟨rfl,rfl,rfl,rfl,trivial⟩) ?_ ?_
  ·(try dsimp only);exact ⟨by omega,idx_next hk2 hno h16,fun b o h=>hm16 b o (hgm b o h)⟩
  first|omega|(dsimp only;omega)
 intro h9
 try have p9:=dF h9
 refine c_exit ?_;refine K2 _ _ ?_;clear K2;refine kP H (SR fun _ K10=>Ra rfl (Kz K10 ?_));clear H K10;intro a H;refine lr H Tryz.results138 rfl ?_
 first
  | exact H.hp.ret (by rw [idx_stop hk2 hno h16];rfl)
  | exact H.hp.ret (by rw [show l.take k=l from List.take_of_length_le (by omega)] at hno;rw [hno];rfl)
theorem containsLp_spec (G:GH) (w0:World) (hG:Hold G w0) (l:List LpD) (p:LpD→Bool) (v fv:Value) (hv:RepV G (.sl 3 (l.map LpD.dat)) v) (hf:∀ x∈l,Tester fv G x.dat (p x)) :
  Calls Tryz.prog 128 #[v,fv] w0 (Ret w0 G fun u G'=>u=.bool (l.findIdx? p).isSome):=by
 obtain ⟨A,c,rfl,hc1,hc2,-⟩:=hv.slice;rw [List.length_map] at *;refine eN [(0,_),(1,_)] Tryz.func128 rfl Tryz.ntmps128 rfl rfl hG ?_;intro a H;refine kP H (SR fun _ K1=>Ra rfl (Kz K1 (SR fun _ K2=>Rm rfl (Rm rfl ?_))));clear H K1;intro a H;refine s_call en138lps H wn rfl (indexLp_spec _ _ H.hp.ro l p _ _ hv hf) rfl ?_;clear H;rintro v7 G7 a w rfl hm7 H;refine kH H (Rc rfl (Ra rfl (Kz K2 ?_)));clear H K2;intro a H;refine lr H Tryz.results128 rfl ?_;exact H.hp.ret (congrArg Value.bool (ixI_some _))
theorem lvl_test {G:GH} {bl:Nat} {k:Int} (hb:gcell G bl 0=some (vi k)) (x:LpD):Tester (.func (.func 129) #[] #[.pointer (some ⟨bl,0,none⟩)]) G x.dat (decide (k < x.level)):=by
 intro G1 w0 cs hm hG hr;refine callV_func (caps:=[.pointer (some ⟨bl,0,none⟩)]) en129lps ?_;obtain rfl:=lp_of hr;replace hb:=gcell_mono hm hb;refine eN [(0,_),(1,_)] Tryz.func129 rfl Tryz.ntmps129 rfl rfl hG ?_;intro a H;refine c_seqR (fun _ K1=>?_);refine s_box (cs:=[_,_,_]) H wn rfl rfl rfl ?_;clear H;intro b2 a w hb2 H;refine kH H (Ra rfl (Kz K1 (SR fun _ K2=>Rf fd210_1lps rfl (Ro ty3run 0 rfl rfl (Rg ty3run rfl (by assumption) ?_)))));clear H K1;intro a H;refine kH H (Rc rfl (Ra rfl (Kz K2 ?_)));clear H K2;intro a H;refine lr H Tryz.results129 rfl ?_;exact H.hp.ret rfl
/-- The error of a template for a level. -/
def ltE (t:ByteArray) (k:Int):Int:=if k < 1∨9 < k then 2 else if prsE t=0∧((prsS t).findIdx? fun x=>decide (k < x.level)).isSome=true then 6 else prsE t
theorem ltCheck_spec (G:GH) (w0:World) (hG:Hold G w0) (t:ByteArray) (k:Int) (ht:t.size < 4611686018427387904) :
  Calls Tryz.prog 118 #[.string t,vi k] w0 (Ret w0 G fun u G'=>u=vi (ltE t k)):=by
 refine eN [(0,_),(1,_)] Tryz.func118 rfl Tryz.ntmps118 rfl rfl hG ?_;intro a H;refine c_seqR (fun _ K1=>?_);refine s_box (cs:=[_]) H wn rfl rfl rfl ?_;clear H;intro b3 a w hb3 H;refine kH H (Ra rfl (Kz K1 (SQ fun _ K2=>SR fun _ K3=>Ro ty3run 0 rfl rfl (Rc rfl (Rm rfl ?_)))));clear H K1;intro a H;refine s_split H 9 rfl ?_ ?_
 ·intro h9
  try have p9:=dT h9
  refine kH H (Ks h9 rfl (Ks h9 rfl (Pt h9 rfl (Kz K3 ?_))));clear H K3;intro a H;refine c_cond_t H rfl rfl ?_;refine kP H (SR fun _ K4=>Ra rfl (Kz K4 ?_));clear H K4;intro a H;refine lr H Tryz.results118 rfl ?_
  exact H.hp.ret (congrArg vi (by unfold ltE;(repeat' split) <;> first|rfl|(exfalso;simp_all;done)|(exfalso;simp_all;omega)|(simp_all;done)))
 intro h9
 try have p9:=dF h9
 refine kH H (YO ty3run 0 h9 rfl rfl (YC h9 rfl (Pf h9 rfl (Kz K3 ?_))));clear H K3;intro a H;refine c_cond H rfl ?_ ?_
 ·intro h12
  try have p12:=dT h12
  refine kP H (SR fun _ K5=>Ra rfl (Kz K5 ?_));clear H K5;intro a H;refine lr H Tryz.results118 rfl ?_
  exact H.hp.ret (congrArg vi (by unfold ltE;(repeat' split) <;> first|rfl|(exfalso;simp_all;done)|(exfalso;simp_all;omega)|(simp_all;done)))
 intro h12
 try have p12:=dF h12
 refine c_skip ?_;refine K2 _ _ ?_;clear K2;refine c_seq (fun _ K6=>?_);obtain ⟨Ga,hma,hb3',H⟩:=H.giveBox
 have hbk:gcell Ga b3 0=some (vi k):=by unfold gcell;rw [hb3'];rfl
 refine kP H (SC (Rm rfl ?_));clear H;intro a H;refine s_call en127lps H wn rfl (parse_spec _ _ H.hp.ro t ht) rfl ?_;clear H;rintro v15 G15 a w ⟨x15,rfl,hx15⟩ hm15 H;obtain ⟨A15,c15,rfl,-,-,-⟩:=hx15.slice;replace hbk:=gcell_mono hm15 hbk;refine kH H (Rm rfl ?_);clear H;intro a H;(iterate 2 refine s_extract H wn rfl rfl rfl ?_;clear H;intro a H);refine kH H (Ra rfl (Ra rfl (Kn K6 (SQ fun _ K7=>SR fun _ K8=>Rm rfl (Rc rfl (Rm rfl ?_))))));clear H K6;intro a H;refine s_split H 20 rfl ?_ ?_
 ·intro h20
  try have p20:=dT h20
  refine kH H (YM h20 rfl ?_);clear H;intro a H;refine s_makeFunc H (wg H rfl rfl h20) rfl rfl ?_;clear H;intro a H;refine s_call en128lps H (wg H rfl rfl h20) rfl (containsLp_spec _ _ H.hp.ro _ (fun x=>decide (k < x.level)) _ _ hx15 (fun x _=>lvl_test hbk x)) rfl ?_;clear H;rintro v23 G23 a w rfl hm23 H;refine kH H (Pt h20 rfl (Kz K8 ?_));clear H K8;intro a H;refine c_cond H rfl ?_ ?_
  ·intro h24
   try have p24:=dT h24
   refine kP H (SC (Ra rfl (Kn K7 (SR fun _ K9=>Rm rfl (Ra rfl (Kz K9 ?_))))));clear H K7 K9;intro a H;refine lr H Tryz.results118 rfl ?_
   exact H.hp.ret (congrArg vi (by unfold ltE;(repeat' split) <;> first|rfl|(exfalso;simp_all;done)|(exfalso;simp_all;omega)|(simp_all;done)))
  intro h24
  try have p24:=dF h24
  refine kP H (Kc K7 (SR fun _ K10=>Rm rfl (Ra rfl (Kz K10 ?_))));clear H K7 K10;intro a H;refine lr H Tryz.results118 rfl ?_
  exact H.hp.ret (congrArg vi (by unfold ltE;(repeat' split) <;> first|rfl|(exfalso;simp_all;done)|(exfalso;simp_all;omega)|(simp_all;done)))
 intro h20
 try have p20:=dF h20
 refine kH H (Ks h20 rfl (Ks h20 rfl (Ks h20 rfl (Pf h20 rfl (Kz K8 ?_)))));clear H K8;intro a H;refine c_cond_f H rfl rfl ?_;refine kP H (Kc K7 (SR fun _ K11=>Rm rfl (Ra rfl (Kz K11 ?_))));clear H K7 K11;intro a H;refine lr H Tryz.results118 rfl ?_
 exact H.hp.ret (congrArg vi (by unfold ltE;(repeat' split) <;> first|rfl|(exfalso;simp_all;done)|(exfalso;simp_all;omega)|(simp_all;done)))
end
section
open Go.RowKit
theorem ty193lcl:Ty Tryz.prog 193 4 40 [.int .i64 0,.int .i64 0,.string ⟨#[]⟩,.int .i64 0] true:=⟨by kernel_rfl,by kernel_rfl⟩
theorem un142lcl:Tryz.prog.underlying 142=some (.slice 193):=by kernel_rfl
theorem fd193_0lcl:Fld Tryz.prog 193 0 0:=⟨by kernel_rfl⟩
theorem fd193_1lcl:Fld Tryz.prog 193 1 1:=⟨by kernel_rfl⟩
theorem fd193_2lcl:Fld Tryz.prog 193 2 2:=⟨by kernel_rfl⟩
theorem en118lcl:∀ args w,(callFunc 118 args).run Tryz.prog w=.ok (.enter 118 args) w:=enters Tryz.func118 rfl (by kernel_rfl)
theorem fd193_3lcl:Fld Tryz.prog 193 3 3:=⟨by kernel_rfl⟩
def clvF:Nat→List LvD→Int
 | _,[]=>0
 | i,x :: r=>if x.fmt < 1∨7 < x.fmt then 3 else if x.start < 0∨32767 < x.start then 2 else if ltE x.tmpl ((i+1:Nat):Int)≠0 then ltE x.tmpl ((i+1:Nat):Int) else if x.restart < 0∨(i:Int) < x.restart then 5 else clvF (i+1) r
/-- The error of the levels of a list. -/
def clvE (l:List LvD):Int:=if l.length=0 then 11 else if 9 < l.length then 9 else clvF 0 l
theorem clvF_at {l:List LvD} {k:Nat} (h:k < l.length):clvF k (l.drop k)=if l[k].fmt < 1∨7 < l[k].fmt then 3 else if l[k].start < 0∨32767 < l[k].start then 2 else if ltE l[k].tmpl ((k+1:Nat):Int)≠0 then ltE l[k].tmpl ((k+1:Nat):Int) else if l[k].restart < 0∨(k:Int) < l[k].restart then 5 else clvF (k+1) (l.drop (k+1)):=by
 rw [List.drop_eq_getElem_cons h,clvF]
theorem checkLevels_spec (G:GH) (w0:World) (hG:Hold G w0) (l:List LvD) (v:Value) (hv:RepV G (.sl 4 (l.map LvD.dat)) v) (ht:∀ x∈l,x.tmpl.size < 4611686018427387904) :
  Calls Tryz.prog 91 #[v] w0 (Ret w0 G fun u G'=>u=vi (clvE l)):=by
 obtain ⟨A,c,rfl,hc1,hc2,hg⟩:=hv.slice;have hml:maxLen=9223372036854775807:=rfl;rw [List.length_map] at *;refine eN [(0,_)] Tryz.func91 rfl Tryz.ntmps91 rfl rfl hG ?_;intro a H;refine kP H (SR fun _ K1=>Ra rfl (Kz K1 (SQ fun _ K2=>SB (SR fun _ K3=>Rm rfl (Rl un142lcl rfl (Rc rfl (Ra rfl (Kz K3 ?_))))))));clear H K1 K3;intro a H;refine c_cond H rfl ?_ ?_
 ·intro h6
  try have p6:=dT h6
  refine kP H (SR fun _ K4=>Ra rfl (Kz K4 ?_));clear H K4;intro a H;refine lr H Tryz.results91 rfl ?_
  first
   | exact H.hp.ret (congrArg vi (by rw [clvE,if_pos (by omega)]))
   | exact H.hp.ret (congrArg vi (by rw [clvE,if_neg (by omega),if_pos (by omega)]))
   | exact H.hp.ret (congrArg vi (by rw [clvE,if_neg (by omega),if_neg (by omega),← he,clvF_at hk2,if_pos (by omega)]))
   | exact H.hp.ret (congrArg vi (by rw [clvE,if_neg (by omega),if_neg (by omega),← he,clvF_at hk2,if_neg (by omega),if_pos (by omega)]))
   | exact H.hp.ret (congrArg vi (by rw [clvE,if_neg (by omega),if_neg (by omega),← he,clvF_at hk2,if_neg (by omega),if_neg (by omega),if_pos p45]))
   | exact H.hp.ret (congrArg vi (by rw [clvE,if_neg (by omega),if_neg (by omega),← he,clvF_at hk2,if_neg (by omega),if_neg (by omega),if_neg p45,if_pos (by omega)]))
   | exact H.hp.ret (congrArg vi (by rw [clvE,if_neg (by omega),if_neg (by omega),← he,List.drop_of_length_le (by omega)];rfl))
 intro h6
 try have p6:=dF h6
 refine kP H (SR fun _ K5=>Rm rfl (Rl un142lcl rfl (Rc rfl (Ra rfl (Kz K5 ?_)))));clear H K5;intro a H;refine c_cond H rfl ?_ ?_
 ·intro h10
  try have p10:=dT h10
  refine kP H (SR fun _ K6=>Ra rfl (Kz K6 ?_));clear H K6;intro a H;refine lr H Tryz.results91 rfl ?_
  first
   | exact H.hp.ret (congrArg vi (by rw [clvE,if_pos (by omega)]))
   | exact H.hp.ret (congrArg vi (by rw [clvE,if_neg (by omega),if_pos (by omega)]))
   | exact H.hp.ret (congrArg vi (by rw [clvE,if_neg (by omega),if_neg (by omega),← he,clvF_at hk2,if_pos (by omega)]))
   | exact H.hp.ret (congrArg vi (by rw [clvE,if_neg (by omega),if_neg (by omega),← he,clvF_at hk2,if_neg (by omega),if_pos (by omega)]))
   | exact H.hp.ret (congrArg vi (by rw [clvE,if_neg (by omega),if_neg (by omega),← he,clvF_at hk2,if_neg (by omega),if_neg (by omega),if_pos p45]))
   | exact H.hp.ret (congrArg vi (by rw [clvE,if_neg (by omega),if_neg (by omega),← he,clvF_at hk2,if_neg (by omega),if_neg (by omega),if_neg p45,if_pos (by omega)]))
   | exact H.hp.ret (congrArg vi (by rw [clvE,if_neg (by omega),if_neg (by omega),← he,List.drop_of_length_le (by omega)];rfl))
 intro h10
 try have p10:=dF h10
 refine kP H (Kc K2 (SQ fun _ K7=>SR fun _ K8=>Rm rfl (Rl un142lcl rfl (Rm rfl (Kz K8 (SB ?_))))));clear H K2 K8;intro a H;skip;refine c_loopS (ι:=Nat × GH) (Tc:=[(14,_),(15,_)]) (Lc:=[]) (fun (gh:Nat × GH)=>[(16,vi gh.1)]) (fun (gh:Nat × GH)=>[]) (fun (gh:Nat × GH)=>gh.2) (fun (gh:Nat × GH)=>gh.1≤l.length∧clvF gh.1 (l.drop gh.1)=clvF 0 l∧(∀ b o,G b=some o→gh.2 b=some o)) (fun (gh:Nat × GH)=>l.length - gh.1) ((0,G)) (by exact (H).sub ⟨rfl,rfl,rfl,trivial⟩) ?_ ?_
 ·exact ⟨Nat.zero_le _,rfl,fun _ _ h=>h⟩
 clear H;intro gh a w hI H;obtain ⟨k,g⟩:=gh;dsimp only at hI H;obtain ⟨hk,he,hgm⟩:=hI;dsimp only [List.cons_append,List.nil_append,List.append_nil] at H;refine kP H (SR fun _ K9=>Rc rfl (Kz K9 (SQ fun _ K10=>?_)));clear H K9;intro a H;refine c_cond H rfl ?_ ?_
 ·intro h17
  try have p17:=dT h17
  have hk2:k < l.length:=by omega
  obtain ⟨b,o,cs,rfl,hcl,hrow,hr⟩:=hg k l[k].dat (by simp [hk2]);obtain rfl:=lv_of hr;refine kP H (Kc K10 (SQ fun _ K11=>SB (SR fun _ K12=>Rm rfl (Ri un142lcl ty193lcl rfl rfl ?_))));clear H K10;intro a H;refine s_loada ty193lcl (cs:=l[k].cells) H wn rfl rfl (fun j v hj=>H.hp.gcell (gcell_mono hgm (hrow j v hj))) rfl ?_;clear H;intro a H;refine s_alloc ty193lcl H wn rfl ?_;clear H;intro b4 a w hb4 H;refine kH H (Ra rfl ?_);clear H;intro a H;refine s_store ty193lcl 0 (vs:=[_,_,_,_]) _ H wn rfl rfl rfl rfl rfl rfl rfl rfl ?_;clear H;intro w H;dsimp only [List.set,setRow] at H;refine K12 _ _ ?_;clear K12;refine kP H (SQ fun _ K13=>SB (SR fun _ K14=>Rf fd193_0lcl rfl (Ro ty3run 0 rfl rfl (Rc rfl (Rm rfl ?_)))));clear H;intro a H;refine s_split H 25 rfl ?_ ?_
  ·intro h25
   try have p25:=dT h25
   refine kH H (Ks h25 rfl (Ks h25 rfl (Ks h25 rfl (Pt h25 rfl (Ra rfl (Kz K14 ?_))))));clear H K14;intro a H;refine c_cond_t H rfl rfl ?_;refine kP H (SR fun _ K15=>Ra rfl (Kz K15 ?_));clear H K15;intro a H;refine lr H Tryz.results91 rfl ?_
   first
    | exact H.hp.ret (congrArg vi (by rw [clvE,if_pos (by omega)]))
    | exact H.hp.ret (congrArg vi (by rw [clvE,if_neg (by omega),if_pos (by omega)]))
    | exact H.hp.ret (congrArg vi (by rw [clvE,if_neg (by omega),if_neg (by omega),← he,clvF_at hk2,if_pos (by omega)]))
    | exact H.hp.ret (congrArg vi (by rw [clvE,if_neg (by omega),if_neg (by omega),← he,clvF_at hk2,if_neg (by omega),if_pos (by omega)]))
    | exact H.hp.ret (congrArg vi (by rw [clvE,if_neg (by omega),if_neg (by omega),← he,clvF_at hk2,if_neg (by omega),if_neg (by omega),if_pos p45]))
    | exact H.hp.ret (congrArg vi (by rw [clvE,if_neg (by omega),if_neg (by omega),← he,clvF_at hk2,if_neg (by omega),if_neg (by omega),if_neg p45,if_pos (by omega)]))
    | exact H.hp.ret (congrArg vi (by rw [clvE,if_neg (by omega),if_neg (by omega),← he,List.drop_of_length_le (by omega)];rfl))
  intro h25
  try have p25:=dF h25
  refine kH H (YF fd193_0lcl h25 rfl (YO ty3run 0 h25 rfl rfl (YC h25 rfl (Pf h25 rfl (Ra rfl (Kz K14 ?_))))));clear H K14;intro a H;refine c_cond H rfl ?_ ?_
  ·intro h21
   try have p21:=dT h21
   refine kP H (SR fun _ K16=>Ra rfl (Kz K16 ?_));clear H K16;intro a H;refine lr H Tryz.results91 rfl ?_
   first
    | exact H.hp.ret (congrArg vi (by rw [clvE,if_pos (by omega)]))
    | exact H.hp.ret (congrArg vi (by rw [clvE,if_neg (by omega),if_pos (by omega)]))
    | exact H.hp.ret (congrArg vi (by rw [clvE,if_neg (by omega),if_neg (by omega),← he,clvF_at hk2,if_pos (by omega)]))
    | exact H.hp.ret (congrArg vi (by rw [clvE,if_neg (by omega),if_neg (by omega),← he,clvF_at hk2,if_neg (by omega),if_pos (by omega)]))
    | exact H.hp.ret (congrArg vi (by rw [clvE,if_neg (by omega),if_neg (by omega),← he,clvF_at hk2,if_neg (by omega),if_neg (by omega),if_pos p45]))
    | exact H.hp.ret (congrArg vi (by rw [clvE,if_neg (by omega),if_neg (by omega),← he,clvF_at hk2,if_neg (by omega),if_neg (by omega),if_neg p45,if_pos (by omega)]))
    | exact H.hp.ret (congrArg vi (by rw [clvE,if_neg (by omega),if_neg (by omega),← he,List.drop_of_length_le (by omega)];rfl))
  intro h21
  try have p21:=dF h21
  refine kP H (SR fun _ K17=>Rf fd193_1lcl rfl (Ro ty3run 0 rfl rfl (Rc rfl (Rm rfl ?_))));clear H;intro a H;refine s_split H 34 rfl ?_ ?_
  ·intro h34
   try have p34:=dT h34
   refine kH H (Ks h34 rfl (Ks h34 rfl (Ks h34 rfl (Pt h34 rfl (Ra rfl (Kz K17 ?_))))));clear H K17;intro a H;refine c_cond_t H rfl rfl ?_;refine kP H (SR fun _ K18=>Ra rfl (Kz K18 ?_));clear H K18;intro a H;refine lr H Tryz.results91 rfl ?_
   first
    | exact H.hp.ret (congrArg vi (by rw [clvE,if_pos (by omega)]))
    | exact H.hp.ret (congrArg vi (by rw [clvE,if_neg (by omega),if_pos (by omega)]))
    | exact H.hp.ret (congrArg vi (by rw [clvE,if_neg (by omega),if_neg (by omega),← he,clvF_at hk2,if_pos (by omega)]))
    | exact H.hp.ret (congrArg vi (by rw [clvE,if_neg (by omega),if_neg (by omega),← he,clvF_at hk2,if_neg (by omega),if_pos (by omega)]))
    | exact H.hp.ret (congrArg vi (by rw [clvE,if_neg (by omega),if_neg (by omega),← he,clvF_at hk2,if_neg (by omega),if_neg (by omega),if_pos p45]))
    | exact H.hp.ret (congrArg vi (by rw [clvE,if_neg (by omega),if_neg (by omega),← he,clvF_at hk2,if_neg (by omega),if_neg (by omega),if_neg p45,if_pos (by omega)]))
    | exact H.hp.ret (congrArg vi (by rw [clvE,if_neg (by omega),if_neg (by omega),← he,List.drop_of_length_le (by omega)];rfl))
  intro h34
  try have p34:=dF h34
  refine kH H (YF fd193_1lcl h34 rfl (YO ty3run 0 h34 rfl rfl (YC h34 rfl (Pf h34 rfl (Ra rfl (Kz K17 ?_))))));clear H K17;intro a H;refine c_cond H rfl ?_ ?_
  ·intro h30
   try have p30:=dT h30
   refine kP H (SR fun _ K19=>Ra rfl (Kz K19 ?_));clear H K19;intro a H;refine lr H Tryz.results91 rfl ?_
   first
    | exact H.hp.ret (congrArg vi (by rw [clvE,if_pos (by omega)]))
    | exact H.hp.ret (congrArg vi (by rw [clvE,if_neg (by omega),if_pos (by omega)]))
    | exact H.hp.ret (congrArg vi (by rw [clvE,if_neg (by omega),if_neg (by omega),← he,clvF_at hk2,if_pos (by omega)]))
    | exact H.hp.ret (congrArg vi (by rw [clvE,if_neg (by omega),if_neg (by omega),← he,clvF_at hk2,if_neg (by omega),if_pos (by omega)]))
    | exact H.hp.ret (congrArg vi (by rw [clvE,if_neg (by omega),if_neg (by omega),← he,clvF_at hk2,if_neg (by omega),if_neg (by omega),if_pos p45]))
    | exact H.hp.ret (congrArg vi (by rw [clvE,if_neg (by omega),if_neg (by omega),← he,clvF_at hk2,if_neg (by omega),if_neg (by omega),if_neg p45,if_pos (by omega)]))
    | exact H.hp.ret (congrArg vi (by rw [clvE,if_neg (by omega),if_neg (by omega),← he,List.drop_of_length_le (by omega)];rfl))
  intro h30
  try have p30:=dF h30
  refine kP H (Kc K13 (SQ fun _ K20=>SR fun _ K21=>Rf fd193_2lcl rfl (Ro ty9run 0 rfl rfl (Rm rfl (Rd rfl ?_)))));clear H K13;intro a H;rw [show ((k:Int)+1)=((k+1:Nat):Int) from rfl] at H;refine s_call en118lcl H wn rfl (ltCheck_spec _ _ H.hp.ro l[k].tmpl ((k+1:Nat):Int) (ht _ (List.getElem_mem hk2))) rfl ?_;clear H;rintro v43 G43 a w rfl hm43 H;refine kH H (Ra rfl (Kz K21 (SR fun _ K22=>Rm rfl (Rc rfl (Kz K22 ?_)))));clear H K21 K22;intro a H;refine c_cond H rfl ?_ ?_
  ·intro h45
   try have p45:=dT h45
   refine kP H (SR fun _ K23=>Rm rfl (Ra rfl (Kz K23 ?_)));clear H K23;intro a H;refine lr H Tryz.results91 rfl ?_
   first
    | exact H.hp.ret (congrArg vi (by rw [clvE,if_pos (by omega)]))
    | exact H.hp.ret (congrArg vi (by rw [clvE,if_neg (by omega),if_pos (by omega)]))
    | exact H.hp.ret (congrArg vi (by rw [clvE,if_neg (by omega),if_neg (by omega),← he,clvF_at hk2,if_pos (by omega)]))
    | exact H.hp.ret (congrArg vi (by rw [clvE,if_neg (by omega),if_neg (by omega),← he,clvF_at hk2,if_neg (by omega),if_pos (by omega)]))
    | exact H.hp.ret (congrArg vi (by rw [clvE,if_neg (by omega),if_neg (by omega),← he,clvF_at hk2,if_neg (by omega),if_neg (by omega),if_pos p45]))
    | exact H.hp.ret (congrArg vi (by rw [clvE,if_neg (by omega),if_neg (by omega),← he,clvF_at hk2,if_neg (by omega),if_neg (by omega),if_neg p45,if_pos (by omega)]))
    | exact H.hp.ret (congrArg vi (by rw [clvE,if_neg (by omega),if_neg (by omega),← he,List.drop_of_length_le (by omega)];rfl))
  intro h45
  try have p45:=dF h45
  refine kP H (Kc K20 (SR fun _ K24=>Rf fd193_3lcl rfl (Ro ty3run 0 rfl rfl (Rc rfl (Rm rfl ?_)))));clear H K20;intro a H;refine s_split H 50 rfl ?_ ?_
  ·intro h50
   try have p50:=dT h50
   refine kH H (Ks h50 rfl (Ks h50 rfl (Ks h50 rfl (Ks h50 rfl (Pt h50 rfl (Kz K24 ?_))))));clear H K24;intro a H;refine c_cond_t H rfl rfl ?_;refine kP H (SR fun _ K25=>Ra rfl (Kz K25 ?_));clear H K25;intro a H;refine lr H Tryz.results91 rfl ?_
   first
    | exact H.hp.ret (congrArg vi (by rw [clvE,if_pos (by omega)]))
    | exact H.hp.ret (congrArg vi (by rw [clvE,if_neg (by omega),if_pos (by omega)]))
    | exact H.hp.ret (congrArg vi (by rw [clvE,if_neg (by omega),if_neg (by omega),← he,clvF_at hk2,if_pos (by omega)]))
    | exact H.hp.ret (congrArg vi (by rw [clvE,if_neg (by omega),if_neg (by omega),← he,clvF_at hk2,if_neg (by omega),if_pos (by omega)]))
    | exact H.hp.ret (congrArg vi (by rw [clvE,if_neg (by omega),if_neg (by omega),← he,clvF_at hk2,if_neg (by omega),if_neg (by omega),if_pos p45]))
    | exact H.hp.ret (congrArg vi (by rw [clvE,if_neg (by omega),if_neg (by omega),← he,clvF_at hk2,if_neg (by omega),if_neg (by omega),if_neg p45,if_pos (by omega)]))
    | exact H.hp.ret (congrArg vi (by rw [clvE,if_neg (by omega),if_neg (by omega),← he,List.drop_of_length_le (by omega)];rfl))
  intro h50
  try have p50:=dF h50
  refine kH H (YF fd193_3lcl h50 rfl (YO ty3run 0 h50 rfl rfl (YM h50 rfl (YC h50 rfl (Pf h50 rfl (Kz K24 ?_))))));clear H K24;intro a H;refine c_cond H rfl ?_ ?_
  ·intro h55
   try have p55:=dT h55
   refine kP H (SR fun _ K26=>Ra rfl (Kz K26 ?_));clear H K26;intro a H;refine lr H Tryz.results91 rfl ?_
   first
    | exact H.hp.ret (congrArg vi (by rw [clvE,if_pos (by omega)]))
    | exact H.hp.ret (congrArg vi (by rw [clvE,if_neg (by omega),if_pos (by omega)]))
    | exact H.hp.ret (congrArg vi (by rw [clvE,if_neg (by omega),if_neg (by omega),← he,clvF_at hk2,if_pos (by omega)]))
    | exact H.hp.ret (congrArg vi (by rw [clvE,if_neg (by omega),if_neg (by omega),← he,clvF_at hk2,if_neg (by omega),if_pos (by omega)]))
    | exact H.hp.ret (congrArg vi (by rw [clvE,if_neg (by omega),if_neg (by omega),← he,clvF_at hk2,if_neg (by omega),if_neg (by omega),if_pos p45]))
    | exact H.hp.ret (congrArg vi (by rw [clvE,if_neg (by omega),if_neg (by omega),← he,clvF_at hk2,if_neg (by omega),if_neg (by omega),if_neg p45,if_pos (by omega)]))
    | exact H.hp.ret (congrArg vi (by rw [clvE,if_neg (by omega),if_neg (by omega),← he,List.drop_of_length_le (by omega)];rfl))
  intro h55
  try have p55:=dF h55
  refine kP H (Kc K11 (SC (Rd rfl (Rm rfl ?_))));clear H K11;intro a H;refine wl_nil ?_;refine loop_end ((k+1,G43)) (by exact (H.pickT (Pl:=[_]) (Pl':=[]) [] (by decide) rfl).sub ⟨rfl,rfl,rfl,trivial⟩) ?_ ?_
  ·(try dsimp only);exact ⟨by omega,by rw [clvF_at hk2,if_neg (by omega),if_neg (by omega),if_neg p45,if_neg (by omega)] at he;exact he,fun b o h=>hm43 b o (hgm b o h)⟩
  first|omega|(dsimp only;omega)
 intro h17
 try have p17:=dF h17
 refine c_exit ?_;refine K7 _ _ ?_;clear K7;refine kP H (SR fun _ K27=>Ra rfl (Kz K27 ?_));clear H K27;intro a H;refine lr H Tryz.results91 rfl ?_
 first
  | exact H.hp.ret (congrArg vi (by rw [clvE,if_pos (by omega)]))
  | exact H.hp.ret (congrArg vi (by rw [clvE,if_neg (by omega),if_pos (by omega)]))
  | exact H.hp.ret (congrArg vi (by rw [clvE,if_neg (by omega),if_neg (by omega),← he,clvF_at hk2,if_pos (by omega)]))
  | exact H.hp.ret (congrArg vi (by rw [clvE,if_neg (by omega),if_neg (by omega),← he,clvF_at hk2,if_neg (by omega),if_pos (by omega)]))
  | exact H.hp.ret (congrArg vi (by rw [clvE,if_neg (by omega),if_neg (by omega),← he,clvF_at hk2,if_neg (by omega),if_neg (by omega),if_pos p45]))
  | exact H.hp.ret (congrArg vi (by rw [clvE,if_neg (by omega),if_neg (by omega),← he,clvF_at hk2,if_neg (by omega),if_neg (by omega),if_neg p45,if_pos (by omega)]))
  | exact H.hp.ret (congrArg vi (by rw [clvE,if_neg (by omega),if_neg (by omega),← he,List.drop_of_length_le (by omega)];rfl))
end
section
open Go.RowKit
theorem ty32dst:Ty Tryz.prog 32 1 24 [.slice none 0 0] false:=⟨by kernel_rfl,by kernel_rfl⟩
theorem un32dst:Tryz.prog.underlying 32=some (.slice 144):=by kernel_rfl
theorem ty144dst:Ty Tryz.prog 144 2 32 [.int .i64 0,.slice none 0 0] true:=⟨by kernel_rfl,by kernel_rfl⟩
theorem fd144_0dst:Fld Tryz.prog 144 0 0:=⟨by kernel_rfl⟩
theorem ty142dst:Ty Tryz.prog 142 1 24 [.slice none 0 0] false:=⟨by kernel_rfl,by kernel_rfl⟩
theorem en65dst:∀ args w,(callFunc 65 args).run Tryz.prog w=.ok (.enter 65 args) w:=enters Tryz.func65 rfl (by kernel_rfl)
theorem fd144_1dst:Fld Tryz.prog 144 1 1:=⟨by kernel_rfl⟩
theorem en91dst:∀ args w,(callFunc 91 args).run Tryz.prog w=.ok (.enter 91 args) w:=enters Tryz.func91 rfl (by kernel_rfl)
theorem en63dst:∀ args w,(callFunc 63 args).run Tryz.prog w=.ok (.enter 63 args) w:=enters Tryz.func63 rfl (by kernel_rfl)
theorem en90dst:∀ args w,(callFunc 90 args).run Tryz.prog w=.ok (.enter 90 args) w:=enters Tryz.func90 rfl (by kernel_rfl)
theorem en89dst:∀ args w,(callFunc 89 args).run Tryz.prog w=.ok (.enter 89 args) w:=enters Tryz.func89 rfl (by kernel_rfl)
structure LiD where
 id:Int
 levels:List LvD
def LiD.dat (x:LiD):List Dat:=[li x.id,.sl 4 (x.levels.map LvD.dat)]
structure CmD where
 id:Int
 parent:Int
 author:ByteArray
 time:Int
 text:ByteArray
 done:Bool
def CmD.dat (x:CmD):List Dat:=[li x.id,li x.parent,.lf (.string x.author),li x.time,.lf (.string x.text),.lf (.bool x.done)]
abbrev CmD.cells (x:CmD):List Value:=[vi x.id,vi x.parent,.string x.author,vi x.time,.string x.text,.bool x.done]
structure VaD where
 name:ByteArray
 value:ByteArray
def VaD.dat (x:VaD):List Dat:=[.lf (.string x.name),.lf (.string x.value)]
abbrev VaD.cells (x:VaD):List Value:=[.string x.name,.string x.value]
theorem cm_of {G:GH} {x:CmD} {cs:List Value} (h:RepRow G x.dat cs):cs=x.cells:=by
 simp only [CmD.dat,RepRow,RepV] at h
 obtain ⟨_,_,rfl,⟨rfl,_⟩,_,_,rfl,⟨rfl,_⟩,_,_,rfl,⟨rfl,_⟩,_,_,rfl,⟨rfl,_⟩,_,_,rfl,⟨rfl,_⟩,_,_,rfl,⟨rfl,_⟩,rfl⟩:=h
 rfl
theorem va_of {G:GH} {x:VaD} {cs:List Value} (h:RepRow G x.dat cs):cs=x.cells:=by
 simp only [VaD.dat,RepRow,RepV] at h
 obtain ⟨_,_,rfl,⟨rfl,_⟩,_,_,rfl,⟨rfl,_⟩,rfl⟩:=h
 rfl
theorem li_at {G:GH} {l:List LiD} {A:Option Addr} {n c k:Nat} (hv:RepV G (.sl 2 (l.map LiD.dat)) (.slice A n c)) (hk:k < l.length):∃ b o B d,A=some ⟨b,o,none⟩∧(∀ j u,[vi l[k].id,.slice B l[k].levels.length d][j]?=some u→gcell G b (o+k*2+j)=some u)∧RepV G (.sl 4 (l[k].levels.map LvD.dat)) (.slice B l[k].levels.length d):=by
 obtain ⟨A',c',he,_,_,hg⟩:=hv.slice
 injection he with e1 e2 e3
 subst e1;obtain ⟨b,o,cs,h1,h2,h3,h4⟩:=hg k l[k].dat (by simp [hk])
 simp only [LiD.dat,RepRow] at h4
 obtain ⟨v1,_,rfl,⟨rfl,-⟩,v2,_,rfl,hl,rfl⟩:∃ v vs,cs=v :: vs∧RepV G (li l[k].id) v∧∃ v2 vs2,vs=v2 :: vs2∧RepV G (.sl 4 (l[k].levels.map LvD.dat)) v2∧vs2=[]:=h4;obtain ⟨B,d,rfl,-,-,-⟩:=hl.slice;rw [List.length_map] at *;exact ⟨b,o,B,d,h1,h3,hl⟩
theorem lid_cb {G:GH} {bl:Nat} {l:List LiD} {A:Option Addr} {n c:Nat} (hb:gcell G bl 0=some (.slice A n c)) (hv:RepV G (.sl 2 (l.map LiD.dat)) (.slice A n c)):IxCb (.func (.func 90) #[] #[.pointer (some ⟨bl,0,none⟩)]) G l.length fun k=>(l[k]?.map LiD.id).getD 0:=by
 intro k hk G1 w0 hm hG;refine callV_func (caps:=[.pointer (some ⟨bl,0,none⟩)]) en90dst ?_;replace hb:=gcell_mono hm hb
 obtain rfl:n=l.length:=by have:=hv.len;simpa using this
 obtain ⟨b,o,B,d,rfl,hrow,-⟩:=li_at (hv.mono hm) hk;have hq:=hrow 0 _ rfl;refine eN [(0,_),(1,_)] Tryz.func90 rfl Tryz.ntmps90 rfl rfl hG ?_;intro a H;refine kP H (SR fun _ K1=>Ra rfl (Kz K1 (SR fun _ K2=>Rg ty32dst rfl (by assumption) ?_)));clear H K1;intro a H;refine kH H (Rm rfl (Ri un32dst ty144dst rfl rfl (Rf fd144_0dst rfl (Rg ty3run rfl (by assumption) ?_))));clear H;intro a H;refine kH H (Ra rfl (Kz K2 ?_));clear H K2;intro a H;refine lr H Tryz.results90 rfl ?_;exact H.hp.ret (by dsimp only;rw [List.getElem?_eq_getElem hk];rfl)
def lisE (l:List LiD) (i:Nat):Int:=firstE [incE (fun k=>(l[k]?.map LiD.id).getD 0) i,clvE ((l[i]?.map LiD.levels).getD [])]
theorem lis_cb {G:GH} {bl:Nat} {l:List LiD} {A:Option Addr} {n c:Nat} (hb:gcell G bl 0=some (.slice A n c)) (hv:RepV G (.sl 2 (l.map LiD.dat)) (.slice A n c)) (hl:l.length≤4294967296) (ht:∀ x∈l,∀ y∈x.levels,y.tmpl.size < 4611686018427387904):IxCb (.func (.func 89) #[] #[.pointer (some ⟨bl,0,none⟩)]) G l.length (lisE l):=by
 intro k hk G1 w0 hm hG;refine callV_func (caps:=[.pointer (some ⟨bl,0,none⟩)]) en89dst ?_;replace hb:=gcell_mono hm hb;replace hv:=hv.mono hm;have hcb:=lid_cb hb hv
 obtain rfl:n=l.length:=by have:=hv.len;simpa using this
 obtain ⟨b,o,B,d,rfl,hrow,hlv⟩:=li_at hv hk;have hq:=hrow 1 _ rfl
 have he:lisE l k=firstE [incE (fun k=>(l[k]?.map LiD.id).getD 0) k,clvE l[k].levels]:=by unfold lisE;rw [List.getElem?_eq_getElem hk];rfl
 refine eN [(0,_),(1,_)] Tryz.func89 rfl Tryz.ntmps89 rfl rfl hG ?_;intro a H;refine kP H (SR fun _ K1=>Ra rfl (Kz K1 (SQ fun _ K2=>?_)));clear H K1;intro a H;have H:=H.sub (T':=[(0,_),(1,_)]) ⟨rfl,rfl,trivial⟩;refine c_drawI (hmx) [[],[],[0,1],[],[],[3,4],[3,4,5],[3,4,5,6],(List.range 8),(List.range 9),(List.range 10),(List.range 11)] [9,10,11] (by kernel_rfl) (by kernel_rfl) (fun (ix_:Nat) (v:Value) (G:GH)=>match ix_ with|0=>v=vi k|1=>v=.func (.func 90) #[] #[.pointer (some ⟨bl,0,none⟩)]|2=>v=vi (incE (fun k=>(l[k]?.map LiD.id).getD 0) k)|3=>v=.slice (some ⟨b,o,none⟩) l.length c|4=>v=vi k|5=>v=.pointer (some ⟨b,o+k*2,none⟩)|6=>v=.pointer (some ⟨b,o+k*2+1,none⟩)|7=>v=.slice B l[k].levels.length d|8=>v=vi (clvE l[k].levels)|_=>True) (fun _ _ _ _ _ h=>h) H ?_ ?_
 ·clear H;refine al4 ?_ ?_ ?_ ?_ (al4 ?_ ?_ ?_ ?_ (al4 ?_ ?_ ?_ ?_ allI_nil))
  ·exact Z0 rfl rfl fun _ _ _ _ _=>Rm rfl
  ·refine Op0 rfl fun _ a w G1 hG HT H fin=>?_;refine s_makeFunc H wn rfl rfl ?_;clear H;intro a H;exact fin H iJ rfl
  ·refine Op2 0 4 1 5 rfl rfl fun _ a w G1 hG HT H fin=>?_;refine s_call en65dst H wn rfl (increasing_spec _ _ H.hp.ro k _ _ (by omega) (fun i hi=>(hcb.mono hG) i (by omega))) rfl ?_;clear H;rintro v6 G6 a w rfl hGm6 H;exact fin H hGm6 (rfl)
  ·exact Op0 rfl fun _ _ _ _ hG _ H fin=>kH H (Rg ty32dst rfl (gcell_mono hG hb) fun _ H=>fin H iJ rfl)
  ·exact Z0 rfl rfl fun _ _ _ _ _=>Rm rfl
  ·exact Z2 3 7 4 8 rfl rfl fun _ _ _ _ _=>Ri un32dst ty144dst rfl rfl
  ·exact Z1 5 9 rfl rfl fun _ _ _ _ _=>Rf fd144_1dst rfl
  ·exact Op1 6 10 rfl rfl fun _ _ _ _ hG _ H fin=>kH H (Rg ty142dst rfl (gcell_mono hG hq) fun _ H=>fin H iJ rfl)
  ·refine Op1 7 11 rfl rfl fun _ a w G1 hG HT H fin=>?_;refine s_call en91dst H wn rfl (checkLevels_spec _ _ H.hp.ro _ _ (hlv.mono hG) (ht _ (List.getElem_mem hk))) rfl ?_;clear H;rintro v12 G12 a w rfl hGm12 H;exact fin H hGm12 (rfl)
  ·exact opB rfl
  ·exact opB rfl
  exact opB rfl
 clear H;intro a w G hGm1 H hv;obtain ⟨u6,hu6,hp6⟩:=hv 2 6 (by decide) rfl;obtain rfl:u6=vi (incE (fun k=>(l[k]?.map LiD.id).getD 0) k):=hp6;have H:=H.addS hu6;obtain ⟨u12,hu12,hp12⟩:=hv 8 12 (by decide) rfl;obtain rfl:u12=vi (clvE l[k].levels):=hp12;have H:=H.addS hu12;clear hv;refine s_buildSlice un127fst ty46idx [_,_] [_,_] H wn rfl rfl rfl rfl rfl (by intro i q h;match i,h with|0,h=>exact h|1,h=>exact h|n+2,h=>simp at h) rfl rfl ?_;clear H;intro b13 a w hb13 H;obtain ⟨G13,hm13,hb13',H⟩:=H.giveBox;refine s_call en39nam H wn rfl (first_spec1 _ _ H.hp.ro _ _ (two_rep hb13')) rfl ?_;clear H;rintro v14 _ a w ⟨rfl,rfl⟩ - H;refine kH H (Ra rfl ?_);clear H;intro a H;refine wl_nil ⟨rfl,?_⟩;refine K2 _ _ ?_;clear K2;refine lr H Tryz.results89 rfl ?_;exact H.hp.ret (by rw [he])
def chkLis (l:List LiD):Int:=firstE [whenE (decide (64 < (l.length:Int))) 9,allE (lisE l) (min l.length 64)]
theorem IxCb.le {fv:Value} {G:GH} {n m:Nat} {E:Nat→Int} (h:IxCb fv G n E) (hm:m≤n):IxCb fv G m E:=fun i hi=>h i (by omega)
theorem checkLists_spec (G:GH) (w0:World) (hG:Hold G w0) (l:List LiD) (v:Value) (hv:RepV G (.sl 2 (l.map LiD.dat)) v) (hl:l.length≤4294967296) (ht:∀ x∈l,∀ y∈x.levels,y.tmpl.size < 4611686018427387904) :
  Calls Tryz.prog 60 #[v] w0 (Ret w0 G fun u G'=>u=vi (chkLis l)):=by
 obtain ⟨A,c,rfl,hc1,hc2,-⟩:=hv.slice;rw [List.length_map] at *;refine eN [(0,_)] Tryz.func60 rfl Tryz.ntmps60 rfl rfl hG ?_;intro a H;refine c_seqR (fun _ K1=>?_);refine s_box (cs:=[_]) H wn rfl rfl rfl ?_;clear H;intro b1 a w hb1 H;refine kH H (Ra rfl (Kz K1 (SQ fun _ K2=>?_)));clear H K1;intro a H;have H:=H.sub (T':=[(1,_)]) ⟨rfl,trivial⟩;obtain ⟨Ga,hma,hb1',H⟩:=H.giveBox
 have hbl:gcell Ga b1 0=some (.slice A l.length c):=by unfold gcell;rw [hb1'];rfl
 have hcb:=lis_cb hbl (hv.mono hma) hl ht;refine c_drawI (hmx) [[],[0],[0,1],[0,1,2],[],[4],[4,5],[],(List.range 8),(List.range 9),(List.range 10),(List.range 11)] [9,10,11] (by kernel_rfl) (by kernel_rfl) (fun (ix_:Nat) (v:Value) (G:GH)=>match ix_ with|0=>v=.slice A l.length c|1=>v=vi l.length|2=>v=.bool (decide (64 < (l.length:Int)))|3=>v=vi (whenE (decide (64 < (l.length:Int))) 9)|4=>v=.slice A l.length c|5=>v=vi l.length|6=>v=vi ((min l.length 64:Nat):Int)|7=>v=.func (.func 89) #[] #[.pointer (some ⟨b1,0,none⟩)]|8=>v=vi (allE (lisE l) (min l.length 64))|_=>True) (fun _ _ _ _ _ h=>h) H ?_ ?_
 ·clear H;refine al4 ?_ ?_ ?_ ?_ (al4 ?_ ?_ ?_ ?_ (al4 ?_ ?_ ?_ ?_ allI_nil))
  ·exact Op0 rfl fun _ _ _ _ hG _ H fin=>kH H (Rg ty32dst rfl (gcell_mono hG hbl) fun _ H=>fin H iJ rfl)
  ·exact Z1 0 3 rfl rfl fun _ _ _ _ _=>Rl un32dst rfl
  ·exact Z1 1 4 rfl rfl fun _ _ _ _ _=>Rc rfl
  ·refine Op1 2 5 rfl rfl fun _ a w G1 hG HT H fin=>?_;refine s_call en44nam H wn rfl (when_spec _ _ H.hp.ro _ 9) rfl ?_;clear H;rintro v6 G6 a w ⟨rfl,-⟩ hGm6 H;exact fin H hGm6 (rfl)
  ·exact Op0 rfl fun _ _ _ _ hG _ H fin=>kH H (Rg ty32dst rfl (gcell_mono hG hbl) fun _ H=>fin H iJ rfl)
  ·exact Z1 4 7 rfl rfl fun _ _ _ _ _=>Rl un32dst rfl
  ·refine Op1 5 8 rfl rfl fun _ a w G1 hG HT H fin=>?_;refine s_min H wn rfl rfl rfl ?_;clear H;intro a H;exact fin H iJ (congrArg vi (by omega))
  ·refine Op0 rfl fun _ a w G1 hG HT H fin=>?_;refine s_makeFunc H wn rfl rfl ?_;clear H;intro a H;exact fin H iJ rfl
  ·refine Op2 6 9 7 10 rfl rfl fun _ a w G1 hG HT H fin=>?_;refine s_call en63dst H wn rfl (all_spec _ _ H.hp.ro (min l.length 64) (lisE l) _ (by omega) ((hcb.mono hG).le (Nat.min_le_left _ _))) rfl ?_;clear H;rintro v11 G11 a w rfl hGm11 H;exact fin H hGm11 (rfl)
  ·exact opB rfl
  ·exact opB rfl
  exact opB rfl
 clear H;intro a w G hGm1 H hv;obtain ⟨u6,hu6,hp6⟩:=hv 3 6 (by decide) rfl;obtain rfl:u6=vi (whenE (decide (64 < (l.length:Int))) 9):=hp6;have H:=H.addS hu6;obtain ⟨u11,hu11,hp11⟩:=hv 8 11 (by decide) rfl;obtain rfl:u11=vi (allE (lisE l) (min l.length 64)):=hp11;have H:=H.addS hu11;clear hv;refine s_buildSlice un127fst ty46idx [_,_] [_,_] H wn rfl rfl rfl rfl rfl (by intro i q h;match i,h with|0,h=>exact h|1,h=>exact h|n+2,h=>simp at h) rfl rfl ?_;clear H;intro b12 a w hb12 H;obtain ⟨G12,hm12,hb12',H⟩:=H.giveBox;refine s_call en39nam H wn rfl (first_spec1 _ _ H.hp.ro _ _ (two_rep hb12')) rfl ?_;clear H;rintro v13 _ a w ⟨rfl,rfl⟩ - H;refine kH H (Ra rfl ?_);clear H;intro a H;refine wl_nil ⟨rfl,?_⟩;refine K2 _ _ ?_;clear K2;refine lr H Tryz.results60 rfl ?_;exact H.hp.ret rfl
end
end Go.Proofs.YthichnnlceeofaaGreat
