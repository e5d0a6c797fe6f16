/-
  What the claim stands on, part 6: The examples of layer 15 hold. The law of positions: what Count, Of and Index give. The law of positions: the errors. Package position: Compare, near, Follow, Precede. The law of positions: their order. From what the form reads to documents in memory. From what the form reads to settings and documents in memory.
-/
import Derived.Test.YthichnnlceeofaaGreatWde
import Derived.ProofKit
import Derived.Deep.Slices
import Derived.Laws.StructEq
namespace Go.Proofs.YthichnnlceeofaaGreat
section
open Go.RowKit
theorem en25kn:∀ args w,(callFunc 25 args).run Tryz.prog w=.ok (.enter 25 args) w:=enters Tryz.func25 rfl (by kernel_rfl)
theorem en13kn:∀ args w,(callFunc 13 args).run Tryz.prog w=.ok (.enter 13 args) w:=enters Tryz.func13 rfl (by kernel_rfl)
theorem en12kn:∀ args w,(callFunc 12 args).run Tryz.prog w=.ok (.enter 12 args) w:=enters Tryz.func12 rfl (by kernel_rfl)
theorem en19kn:∀ args w,(callFunc 19 args).run Tryz.prog w=.ok (.enter 19 args) w:=enters Tryz.func19 rfl (by kernel_rfl)
theorem en11kn:∀ args w,(callFunc 11 args).run Tryz.prog w=.ok (.enter 11 args) w:=enters Tryz.func11 rfl (by kernel_rfl)
theorem known15 (G:GH) (w0:World) (hG:Hold G w0):Calls Tryz.prog 8 #[] w0 (Ret w0 G fun u G'=>u=.bool true):=by
 refine eN [] Tryz.func8 rfl Tryz.ntmps8 rfl rfl hG ?_;intro a H;refine kP H (SR fun _ K1=>Ra rfl (Kz K1 (SR fun _ K2=>?_)));clear H K1;intro a H;refine s_call en25kn H wn rfl (example_spec _ _ H.hp.ro) rfl ?_;clear H;rintro v10 G10 a w ⟨D,rfl,hv⟩ hm10 H;refine s_alloc ty38pq H wn rfl ?_;clear H;intro b1 a w hb1 H;refine s_store ty38pq 0 (vs:=[_,_,_,_,_,_,_,_,_,_,_]) _ H wn rfl rfl rfl rfl rfl rfl rfl rfl ?_;clear H;intro w H;dsimp only [List.set,setRow] at H;refine K2 _ _ ?_;clear K2;refine c_seqR (fun _ K3=>?_);refine s_loada ty38pq (cs:=[_,_,_,_,_,_,_,_,_,_,_]) H wn rfl rfl (H.hp.ocells 0 rfl rfl) rfl ?_;clear H;intro a H;refine s_build sr45pos [_,_] H wn rfl rfl rfl rfl ?_;clear H;intro a H;refine s_call en13kn H wn rfl (index_spec _ _ H.hp.ro D exL 4 1 hv exZ) rfl ?_;clear H;rintro v14 G14 a w rfl hm14 H;rw [exIx] at H;replace hv:=hv.mono hm14;refine kH H (Rm rfl ?_);clear H;intro a H;(iterate 2 refine s_extract H wn rfl rfl rfl ?_;clear H;intro a H);refine kH H (Ra rfl (Ra rfl (Kz K3 (SR fun _ K4=>?_))));clear H K3;intro a H;refine s_loada ty38pq (cs:=[_,_,_,_,_,_,_,_,_,_,_]) H wn rfl rfl (H.hp.ocells 0 rfl rfl) rfl ?_;clear H;intro a H;refine s_call en12kn H wn rfl (of_pos _ _ H.hp.ro D exL 5 hv exZ) rfl ?_;clear H;rintro v19 G19 a w rfl hm19 H;rw [exOf] at H;replace hv:=hv.mono hm19;refine kH H (Rm rfl ?_);clear H;intro a H;(iterate 2 refine s_extract H wn rfl rfl rfl ?_;clear H;intro a H);refine s_alloc ty45pq H wn rfl ?_;clear H;intro b4 a w hb4 H;refine s_store ty45pq 0 (vs:=[_,_]) _ H wn rfl rfl rfl rfl rfl rfl rfl rfl ?_;clear H;intro w H;dsimp only [List.set,setRow] at H;refine kH H (Ra rfl (Kz K4 (SR fun _ K5=>?_)));clear H K4;intro a H;refine s_loada ty38pq (cs:=[_,_,_,_,_,_,_,_,_,_,_]) H wn rfl rfl (H.hp.ocells 1 rfl rfl) rfl ?_;clear H;intro a H;refine s_call en18pth H wn rfl (path_spec _ _ H.hp.ro D exL 4 hv exZ 2 (by omega) _ exPth (fun ps h=>by cases h;exact Nat.le_refl _)) rfl ?_;clear H;rintro v24 G24 a w ⟨v,rfl,hrep⟩ hm24 H;rw [exF4] at H hrep;replace hv:=hv.mono hm24;replace hrep:RepV G24 (.sl 2 ([((0,2):Int × Int)].map posD)) v:=hrep;obtain ⟨vA,vn,vc,rfl⟩:=hrep.form;obtain rfl:vn=1:=hrep.len;obtain ⟨b,o,cs,rfl,hcl,hrow,hr⟩:=hrep.at_ 0 (posD (0,2)) rfl;obtain rfl:=posD_row hr;refine kH H (Rm rfl ?_);clear H;intro a H;(iterate 2 refine s_extract H wn rfl rfl rfl ?_;clear H;intro a H);refine kH H (Ra rfl (Ra rfl (Kz K5 (SR fun _ K6=>?_))));clear H K5;intro a H;refine s_loada ty38pq (cs:=[_,_,_,_,_,_,_,_,_,_,_]) H wn rfl rfl (H.hp.ocells 1 rfl rfl) rfl ?_;clear H;intro a H;refine s_build sr45pos [_,_] H wn rfl rfl rfl rfl ?_;clear H;intro a H;refine s_call en19kn H wn rfl (lift_spec _ _ H.hp.ro D exL 4 1 0 hv exZ 2 (by omega) _ exPth (fun ps h=>by cases h;exact Nat.le_refl _)) rfl ?_;clear H;rintro v30 G30 a w rfl hm30 H
 have e:(if (flowOf exL 4).isSome=true then (some [((0,2):Int × Int)]).getD [] else [])=[(0,2)]:=by rw [exF4];rfl
 rw [e,exLi] at H;replace hv:=hv.mono hm30;replace hrow:=fun j u hj=>gcell_mono hm30 (hrow j u hj);refine kH H (Rm rfl ?_);clear H;intro a H;(iterate 2 refine s_extract H wn rfl rfl rfl ?_;clear H;intro a H);refine kH H (Ra rfl (Ra rfl (Kz K6 (SR fun _ K7=>Rm rfl (Rc rfl (Rm rfl ?_))))));clear H K6;intro a H;refine s_split H 35 rfl ?_ ?_
 ·intro h35
  try have p35:=dT h35
  refine kH H (YM h35 rfl (YC h35 rfl (Pt h35 rfl (Rm rfl ?_))));clear H;intro a H;refine s_split H 39 rfl ?_ ?_
  ·intro h39
   try have p39:=dT h39
   refine s_loada ty45pq (cs:=[_,_]) H (wg H rfl rfl h39) rfl rfl (H.hp.ocells 0 rfl rfl) rfl ?_;clear H;intro a H;refine s_build sr45pos [_,_] H (wg H rfl rfl h39) rfl rfl rfl rfl ?_;clear H;intro a H;refine s_eqagg eqi45idx H (wg H rfl rfl h39) rfl rfl rfl rfl ?_;clear H;intro a H;refine kH H (Pt h39 rfl (Rm rfl ?_));clear H;intro a H;refine s_split H 44 rfl ?_ ?_
   ·intro h44
    try have p44:=dT h44
    refine kH H (YM h44 rfl (YC h44 rfl (Pt h44 rfl (Rm rfl ?_))));clear H;intro a H;refine s_split H 48 rfl ?_ ?_
    ·intro h48
     try have p48:=dT h48
     refine kH H (YM h48 rfl (YL un41pth h48 rfl (YC h48 rfl (Pt h48 rfl (Rm rfl ?_)))));clear H;intro a H;refine s_split H 53 rfl ?_ ?_
     ·intro h53
      try have p53:=dT h53
      refine kH H (YM h53 rfl ?_);clear H;intro a H;refine s_index un41pth ty45pq 0 H (wg H rfl rfl h53) rfl rfl rfl (by omega) rfl ?_;clear H;intro a H;refine s_loada ty45pq (cs:=[_,_]) H (wg H rfl rfl h53) rfl rfl (fun j v hj=>H.hp.gcell (hrow j v hj)) rfl ?_;clear H;intro a H;refine s_build sr45pos [_,_] H (wg H rfl rfl h53) rfl rfl rfl rfl ?_;clear H;intro a H;refine s_eqagg eqi45idx H (wg H rfl rfl h53) rfl rfl rfl rfl ?_;clear H;intro a H;refine kH H (Pt h53 rfl (Rm rfl ?_));clear H;intro a H;refine s_split H 60 rfl ?_ ?_
      ·intro h60
       try have p60:=dT h60
       refine kH H (YM h60 rfl (YC h60 rfl (Pt h60 rfl (Rm rfl ?_))));clear H;intro a H;refine s_split H 64 rfl ?_ ?_
       ·intro h64
        try have p64:=dT h64
        refine kH H (YM h64 rfl (YC h64 rfl (Pt h64 rfl (Rm rfl ?_))));clear H;intro a H;refine s_split H 68 rfl ?_ ?_
        ·intro h68
         try have p68:=dT h68
         refine kH H (YM h68 rfl (Pt h68 rfl (Rm rfl ?_)));clear H;intro a H;refine s_split H 71 rfl ?_ ?_
         ·intro h71
          try have p71:=dT h71
          refine s_loada ty38pq (cs:=[_,_,_,_,_,_,_,_,_,_,_]) H (wg H rfl rfl h71) rfl rfl (H.hp.ocells 1 rfl rfl) rfl ?_;clear H;intro a H;refine s_call en11kn H (wg H rfl rfl h71) rfl (count_pos _ _ H.hp.ro D exL hv exZ) rfl ?_;clear H;rintro v73 G73 a w rfl hm73 H;rw [exN7] at H;refine kH H (YC h71 rfl (Pt h71 rfl (Ra rfl (Kz K7 ?_))));clear H K7;intro a H;refine lr H Tryz.results8 rfl ?_;exact H.hp.ret rfl
         intro h71
         try have p71:=dF h71
         exact absurd h71 (by decide)
        intro h68
        try have p68:=dF h68
        exact absurd h68 (by decide)
       intro h64
       try have p64:=dF h64
       exact absurd h64 (by decide)
      intro h60
      try have p60:=dF h60
      exact absurd h60 (by decide)
     intro h53
     try have p53:=dF h53
     exact absurd h53 (by decide)
    intro h48
    try have p48:=dF h48
    exact absurd h48 (by decide)
   intro h44
   try have p44:=dF h44
   exact absurd h44 (by decide)
  intro h39
  try have p39:=dF h39
  exact absurd h39 (by decide)
 intro h35
 try have p35:=dF h35
 exact absurd h35 (by decide)
end
section
open Go.RowKit
theorem en8pi15:∀ args w,(callFunc 8 args).run Tryz.prog w=.ok (.enter 8 args) w:=enters Tryz.func8 rfl (by kernel_rfl)
theorem en9pi15:∀ args w,(callFunc 9 args).run Tryz.prog w=.ok (.enter 9 args) w:=enters Tryz.func9 rfl (by kernel_rfl)
theorem en10pi15:∀ args w,(callFunc 10 args).run Tryz.prog w=.ok (.enter 10 args) w:=enters Tryz.func10 rfl (by kernel_rfl)
theorem gc15 {G:GH} {b:Nat} {cs:List Value} {e:TypeId} {q:Nat × Nat} (h:G b=some (.cells cs.toArray e q)) (j:Nat) (v:Value) (hj:cs[j]?=some v):gcell G b (0+j)=some v:=by
 unfold gcell
 rw [h,Nat.zero_add]
 show cs.toArray[j]?=some v
 simpa using hj
end
section
open Go.RowKit
theorem en15pe15:∀ args w,(callFunc 15 args).run Tryz.prog w=.ok (.enter 15 args) w:=enters Tryz.func15 rfl (by kernel_rfl)
end
section
open Go.RowKit
def cmpS (l:List ItemD) (f t f' t':Int):Int × Int:=if (ixS l f t).2≠0 then (0,(ixS l f t).2) else if (ixS l f' t').2≠0 then (0,(ixS l f' t').2) else (cmp3 (ixS l f t).1 (ixS l f' t').1,0)
theorem cmpPos_spec (G:GH) (w0:World) (hG:Hold G w0) (D:DocV) (l:List ItemD) (f t f' t':Int) (hv:RepV G (.sl 11 (l.map ItemD.dat)) (sl3 D.f)) (hz:zItems l≤1073741824) :
  Calls Tryz.prog 24 #[D.val,.agg #[vi f,vi t],.agg #[vi f',vi t']] w0 (Ret w0 G fun u G'=>u=.tuple #[vi (cmpS l f t f' t').1,vi (cmpS l f t f' t').2]):=by
 refine eN [(0,_),(1,_),(2,_)] Tryz.func24 rfl Tryz.ntmps24 rfl rfl hG ?_;intro a H;refine c_seqR (fun _ K1=>?_);refine s_box (cs:=[_,_,_,_,_,_,_,_,_,_,_]) H wn rfl rfl rfl ?_;clear H;intro b3 a w hb3 H;refine s_box (cs:=[_,_]) H wn rfl rfl rfl ?_;clear H;intro b4 a w hb4 H;refine s_box (cs:=[_,_]) H wn rfl rfl rfl ?_;clear H;intro b5 a w hb5 H;refine kH H (Ra rfl (Ra rfl (Kz K1 (SR fun _ K2=>?_))));clear H K1;intro a H;refine s_loada ty38pq (cs:=[_,_,_,_,_,_,_,_,_,_,_]) H wn rfl rfl (H.hp.ocells 2 rfl rfl) rfl ?_;clear H;intro a H;refine s_loada ty45pq (cs:=[_,_]) H wn rfl rfl (H.hp.ocells 1 rfl rfl) rfl ?_;clear H;intro a H;refine s_call en13kn H wn rfl (index_spec _ _ H.hp.ro D l f t hv (by omega)) rfl ?_;clear H;rintro v14 G14 a w rfl hm14 H;refine kH H (Rm rfl ?_);clear H;intro a H;(iterate 2 refine s_extract H wn rfl rfl rfl ?_;clear H;intro a H);refine kH H (Ra rfl (Ra rfl (Kz K2 (SQ fun _ K3=>SR fun _ K4=>Rm rfl (Rc rfl (Kz K4 ?_))))));clear H K2 K4;intro a H;refine c_cond H rfl ?_ ?_
 ·intro h18
  try have p18:=dT h18
  refine kP H (SR fun _ K5=>Rm rfl (Ra rfl (Ra rfl (Kz K5 ?_))));clear H K5;intro a H;refine c_ret ?_;refine (leaveT H Tryz.results24 (.cons (rv_tmp H rfl) (.cons (rv_tmp H rfl) .nil)) ?_).1;exact H.hp.ret (by rw [cmpS,if_pos p18])
 intro h18
 try have p18:=dF h18
 refine c_skip ?_;refine K3 _ _ ?_;clear K3;refine c_seqR (fun _ K6=>?_);refine s_loada ty38pq (cs:=[_,_,_,_,_,_,_,_,_,_,_]) H wn rfl rfl (H.hp.ocells 2 rfl rfl) rfl ?_;clear H;intro a H;refine s_loada ty45pq (cs:=[_,_]) H wn rfl rfl (H.hp.ocells 0 rfl rfl) rfl ?_;clear H;intro a H;refine s_call en13kn H wn rfl (index_spec _ _ H.hp.ro D l f' t' (hv.mono hm14) (by omega)) rfl ?_;clear H;rintro v23 G23 a w rfl hm23 H;refine kH H (Rm rfl ?_);clear H;intro a H;(iterate 2 refine s_extract H wn rfl rfl rfl ?_;clear H;intro a H);refine kH H (Ra rfl (Ra rfl (Kz K6 (SQ fun _ K7=>SR fun _ K8=>Rm rfl (Rc rfl (Kz K8 ?_))))));clear H K6 K8;intro a H;refine c_cond H rfl ?_ ?_
 ·intro h27
  try have p27:=dT h27
  refine kP H (SR fun _ K9=>Rm rfl (Ra rfl (Ra rfl (Kz K9 ?_))));clear H K9;intro a H;refine c_ret ?_;refine (leaveT H Tryz.results24 (.cons (rv_tmp H rfl) (.cons (rv_tmp H rfl) .nil)) ?_).1;exact H.hp.ret (by rw [cmpS,if_neg p18,if_pos p27])
 intro h27
 try have p27:=dF h27
 refine kP H (Kc K7 (SR fun _ K10=>Rm rfl (Rm rfl ?_)));clear H K7;intro a H;refine s_call en38prp H wn rfl (compare_spec _ _ H.hp.ro (ixS l f t).1 (ixS l f' t').1) rfl ?_;clear H;rintro v31 G31 a w rfl hm31 H;refine kH H (Ra rfl (Ra rfl (Kz K10 ?_)));clear H K10;intro a H;refine c_ret ?_;refine (leaveT H Tryz.results24 (.cons (rv_tmp H rfl) (.cons (rv_tmp H rfl) .nil)) ?_).1;exact H.hp.ret (by rw [cmpS,if_neg p18,if_neg p27])
end
section
open Go.RowKit
theorem en24pc15:∀ args w,(callFunc 24 args).run Tryz.prog w=.ok (.enter 24 args) w:=enters Tryz.func24 rfl (by kernel_rfl)
theorem en23pc15:∀ args w,(callFunc 23 args).run Tryz.prog w=.ok (.enter 23 args) w:=enters Tryz.func23 rfl (by kernel_rfl)
theorem fnd_at {A:List (Int × Int)} {f t:Int} {i:Nat} (h:A.findIdx? (fun q=>q.1 == f && q.2 == t)=some i):fnd A f t=i:=by unfold fnd;rw [h]
theorem cmpS_err1 {l:List ItemD} {f t f' t':Int} (h:chkR l f t t≠0):cmpS l f t f' t'=(0,chkR l f t t):=by rw [cmpS,ix_err h,if_pos h]
theorem cmpS_err2 {l:List ItemD} (ok:OkDoc l) {f t f' t':Int} (h:chkR l f t t=0) (h':chkR l f' t' t'≠0):cmpS l f t f' t'=(0,chkR l f' t' t'):=by
 obtain ⟨i,_,-,-,h4⟩:=ix_ok ok h;rw [cmpS,h4,if_neg (by simp),ix_err h',if_pos h']
theorem cmpS_ok {l:List ItemD} (ok:OkDoc l) {f t f' t':Int} (h:chkR l f t t=0) (h':chkR l f' t' t'=0):cmpS l f t f' t'=(cmp3 (fnd (vItems 0 0 l) f t) (fnd (vItems 0 0 l) f' t'),0):=by
 obtain ⟨i,_,h1,-,h4⟩:=ix_ok ok h;obtain ⟨j,_,h5,-,h6⟩:=ix_ok ok h';rw [cmpS,h4,h6,if_neg (by simp),if_neg (by simp),fnd_at h1,fnd_at h5]
theorem cmpS_e {l:List ItemD} (ok:OkDoc l) {f t f' t':Int} (h:¬ (chkR l f t t=0∧chkR l f' t' t'=0)):cmpS l f t f' t'=(0,if chkR l f t t=0 then chkR l f' t' t' else chkR l f t t):=by
 by_cases h1:chkR l f t t=0
 ·rw [if_pos h1,cmpS_err2 ok h1 fun h2=>h ⟨h1,h2⟩]
 rw [if_neg h1,cmpS_err1 h1]
theorem compares_true (G:GH) (w0:World) (hG:Hold G w0) (D:DocV) (d:DocD) (hR:DocR G D d) (hz:DocZ d) (f t f' t':Int) :
  Calls Tryz.prog 7 #[D.val,.agg #[vi f,vi t],.agg #[vi f',vi t']] w0 (Ret w0 G fun u G'=>u=.bool true):=by
 have hvl:=vItems_len 0 0 d.flow;have hzf:=hz.fl;refine eN [(0,_),(1,_),(2,_)] Tryz.func7 rfl Tryz.ntmps7 rfl rfl hG ?_;intro a H;refine c_seqR (fun _ K1=>?_);refine s_box (cs:=[_,_,_,_,_,_,_,_,_,_,_]) H wn rfl rfl rfl ?_;clear H;intro b3 a w hb3 H;refine s_box (cs:=[_,_]) H wn rfl rfl rfl ?_;clear H;intro b4 a w hb4 H;refine s_box (cs:=[_,_]) H wn rfl rfl rfl ?_;clear H;intro b5 a w hb5 H;refine kH H (Ra rfl (Kz K1 (SQ fun _ K2=>SQ fun _ K3=>?_)));clear H K1;intro a H;have H:=H.pickT (Pl:=[_,_,_]) (Pl':=[_,_,_]) [2,0,1] (by decide) rfl;obtain ⟨Ga,hma,hb3',H⟩:=H.giveBox;have hga:=fun j v hj=>gc15 (cs:=D.cells) hb3' j v hj;replace hR:=hR.mono hma;refine c_region ?_;refine s_call en8pi15 H wn rfl (known15 _ _ H.hp.ro) rfl ?_;clear H;rintro v19 G19 a w rfl hm19 H;refine kH H (Rn rfl (Rm rfl ?_));clear H;intro a H;refine s_split H 21 rfl ?_ ?_
 ·intro h21
  try have p21:=dT h21
  exact absurd h21 (by decide)
 intro h21
 try have p21:=dF h21
 first
 | (exfalso;omega)
 | (exact absurd h21 (by decide))
 |skip
  refine s_loada ty38pq (cs:=D.cells) H (wg H rfl rfl h21) rfl rfl (fun j v hj=>H.hp.gcell (gcell_mono hm19 (hga j v hj))) rfl ?_;clear H;intro a H;refine s_call en9pi15 H (wg H rfl rfl h21) rfl (small15_spec _ _ H.hp.ro D d (hR.mono hm19) hz) rfl ?_;clear H;rintro v23 G23 a w ⟨b23,rfl,hb23⟩ hm23 H;replace hR:=(hR.mono hm19).mono hm23;have hgb:=fun j v hj=>gcell_mono hm23 (gcell_mono hm19 (hga j v hj));refine kH H (YN h21 rfl (Pf h21 rfl (Kn K3 ?_)));clear H K3;intro a H;refine c_cond H rfl ?_ ?_
  ·intro h25
   try have p25:=dT h25
   first
   | (exfalso;omega)
   | (exact absurd h25 (by decide))
   |skip
    refine c_seqR (fun _ K4=>?_);refine s_call en8pi15 H wn rfl (known15 _ _ H.hp.ro) rfl ?_;clear H;rintro v26 G26 a w rfl hm26 H;refine kH H (Ra rfl (Kz K4 ?_));clear H K4;intro a H;refine lr H Tryz.results7 rfl ?_;exact H.hp.ret (by first|rfl|exact congrArg Value.bool (by simp))
  intro h25
  try have p25:=dF h25
  first
  | (exfalso;omega)
  | (exact absurd h25 (by decide))
  |skip
   have hok:=okDoc_of (hb23 (by simpa using h25));refine c_skip ?_;refine K2 _ _ ?_;clear K2;refine c_seqR (fun _ K5=>?_);refine s_loada ty38pq (cs:=D.cells) H wn rfl rfl (fun j v hj=>H.hp.gcell (hgb j v hj)) rfl ?_;clear H;intro a H;refine s_loada ty45pq (cs:=[_,_]) H wn rfl rfl (H.hp.ocells 1 rfl rfl) rfl ?_;clear H;intro a H;refine s_loada ty45pq (cs:=[_,_]) H wn rfl rfl (H.hp.ocells 0 rfl rfl) rfl ?_;clear H;intro a H;refine s_call en24pc15 H wn rfl (cmpPos_spec _ _ H.hp.ro D d.flow f t f' t' hR.fl hzf) rfl ?_;clear H;rintro v31 G31 a w rfl hm31 H;replace hR:=hR.mono hm31;replace hgb:=fun j v hj=>gcell_mono hm31 (hgb j v hj);refine kH H (Rm rfl ?_);clear H;intro a H;(iterate 2 refine s_extract H wn rfl rfl rfl ?_;clear H;intro a H);refine kH H (Ra rfl (Ra rfl (Kz K5 (SR fun _ K6=>?_))));clear H K5;intro a H;refine s_loada ty38pq (cs:=D.cells) H wn rfl rfl (fun j v hj=>H.hp.gcell (hgb j v hj)) rfl ?_;clear H;intro a H;refine s_loada ty45pq (cs:=[_,_]) H wn rfl rfl (H.hp.ocells 0 rfl rfl) rfl ?_;clear H;intro a H;refine s_loada ty45pq (cs:=[_,_]) H wn rfl rfl (H.hp.ocells 1 rfl rfl) rfl ?_;clear H;intro a H;refine s_call en24pc15 H wn rfl (cmpPos_spec _ _ H.hp.ro D d.flow f' t' f t hR.fl hzf) rfl ?_;clear H;rintro v38 G38 a w rfl hm38 H;replace hR:=hR.mono hm38;replace hgb:=fun j v hj=>gcell_mono hm38 (hgb j v hj);refine kH H (Rm rfl ?_);clear H;intro a H;(iterate 2 refine s_extract H wn rfl rfl rfl ?_;clear H;intro a H);refine kH H (Ra rfl (Ra rfl (Kz K6 (SQ fun _ K7=>?_))));clear H K6;intro a H;refine c_drawI (hmx) [[],[],[0,1],[],[],[0,1,2,3,4],[0,1,2,3,4,5],(List.range 7)] [6,7] (by kernel_rfl) (by kernel_rfl) (fun (ix_:Nat) (v:Value) (G:GH)=>match ix_ with|0=>v=.agg D.cells.toArray|1=>v=.agg #[vi f,vi t]|2=>v=vi (chkR d.flow f t t)|3=>v=.agg D.cells.toArray|4=>v=.agg #[vi f',vi t']|5=>v=vi (chkR d.flow f' t' t')|_=>True) (fun _ _ _ _ _ h=>h) H ?_ ?_
   ·clear H;refine al4 ?_ ?_ ?_ ?_ (al4 ?_ ?_ ?_ ?_ allI_nil)
    ·refine Op0 rfl fun _ a w G1 hG HT H fin=>?_;refine s_loada ty38pq (cs:=D.cells) H wn rfl rfl (fun j v hj=>H.hp.gcell (gcell_mono hG (hgb j v hj))) rfl ?_;clear H;intro a H;exact fin H iJ rfl
    ·refine Op0 rfl fun _ a w G1 hG HT H fin=>?_;refine s_loada ty45pq (cs:=[_,_]) H wn rfl rfl (H.hp.ocells 1 rfl rfl) rfl ?_;clear H;intro a H;exact fin H iJ rfl
    ·refine Op2 0 41 1 42 rfl rfl fun _ a w G1 hG HT H fin=>?_;refine s_call en15pe15 H wn rfl (mchk15_spec _ _ H.hp.ro D d.flow f t (hR.fl.mono hG) (by omega)) rfl ?_;clear H;rintro v43 G43 a w rfl hGm43 H;exact fin H hGm43 (rfl)
    ·refine Op0 rfl fun _ a w G1 hG HT H fin=>?_;refine s_loada ty38pq (cs:=D.cells) H wn rfl rfl (fun j v hj=>H.hp.gcell (gcell_mono hG (hgb j v hj))) rfl ?_;clear H;intro a H;exact fin H iJ rfl
    ·refine Op0 rfl fun _ a w G1 hG HT H fin=>?_;refine s_loada ty45pq (cs:=[_,_]) H wn rfl rfl (H.hp.ocells 0 rfl rfl) rfl ?_;clear H;intro a H;exact fin H iJ rfl
    ·refine Op2 3 44 4 45 rfl rfl fun _ a w G1 hG HT H fin=>?_;refine s_call en15pe15 H wn rfl (mchk15_spec _ _ H.hp.ro D d.flow f' t' (hR.fl.mono hG) (by omega)) rfl ?_;clear H;rintro v46 G46 a w rfl hGm46 H;exact fin H hGm46 (rfl)
    ·exact opB rfl
    exact opB rfl
   clear H;intro a w G hGm5 H hv;obtain ⟨u43,hu43,hp43⟩:=hv 2 43 (by decide) rfl;obtain rfl:u43=vi (chkR d.flow f t t):=hp43;have H:=H.addS hu43;obtain ⟨u46,hu46,hp46⟩:=hv 5 46 (by decide) rfl;obtain rfl:u46=vi (chkR d.flow f' t' t'):=hp46;have H:=H.addS hu46;clear hv;refine kH H (Ra rfl (Ra rfl ?_));clear H;intro a H;refine wl_nil ⟨rfl,?_⟩;refine K7 _ _ ?_;clear K7;refine kP H (SQ fun _ K8=>SR fun _ K9=>Rm rfl (Rc rfl (Rm rfl ?_)));clear H;intro a H;refine s_split H 49 rfl ?_ ?_
   ·intro h49
    try have p49:=dT h49
    first
    | (exfalso;omega)
    | (exact absurd h49 (by decide))
    |skip
     refine kH H (Ks h49 rfl (Ks h49 rfl (Pt h49 rfl (Kz K9 ?_))));clear H K9;intro a H;refine c_cond_t H rfl rfl ?_;refine c_seq (fun _ K10=>?_)
     have hne:¬ (chkR d.flow f t t=0∧chkR d.flow f' t' t'=0):=by omega
     refine kP H (SC (Rm rfl (Rm rfl (Ra rfl (Ra rfl (Kn K10 (SQ fun _ K11=>SR fun _ K12=>Rm rfl (Rc rfl (Kz K12 ?_)))))))));clear H K10 K12;intro a H;refine c_cond H rfl ?_ ?_
     ·intro h56
      try have p56:=dT h56
      first
      | (exfalso;omega)
      | (exact absurd h56 (by decide))
      |skip
       refine kP H (SC (Rm rfl (Ra rfl (Kn K11 (SQ fun _ K13=>SR fun _ K14=>Rm rfl (Rc rfl (Kz K14 ?_)))))));clear H K11 K14;intro a H;refine c_cond H rfl ?_ ?_
       ·intro h59
        try have p59:=dT h59
        exact absurd ⟨p56,p59⟩ hne
       intro h59
       try have p59:=dF h59
       first
       | (exfalso;omega)
       | (exact absurd h59 (by decide))
       |skip
        refine c_skip ?_;refine K13 _ _ ?_;clear K13;refine c_seq (fun _ K15=>?_);rw [cmpS_e hok hne,cmpS_e hok fun h=>hne ⟨h.2,h.1⟩] at H
        first|rw [if_pos p56] at H|rw [if_neg p56] at H
        first|rw [if_pos p59] at H|rw [if_neg p59] at H
        dsimp only at H;refine kP H (SC (Rm rfl (Rc rfl (Rm rfl ?_))));clear H;intro a H;refine s_split H 63 rfl ?_ ?_
        ·intro h63
         try have p63:=dT h63
         first
         | (exfalso;omega)
         | (exact absurd h63 (by decide))
         |skip
          refine kH H (YM h63 rfl (YC h63 rfl (Pt h63 rfl (Rm rfl ?_))));clear H;intro a H;refine s_split H 67 rfl ?_ ?_
          ·intro h67
           try have p67:=dT h67
           first
           | (exfalso;omega)
           | (exact absurd h67 (by decide))
           |skip
            refine kH H (YM h67 rfl (YM h67 rfl (YC h67 rfl (Pt h67 rfl (Rm rfl ?_)))));clear H;intro a H;refine s_split H 72 rfl ?_ ?_
            ·intro h72
             try have p72:=dT h72
             first
             | (exfalso;omega)
             | (exact absurd h72 (by decide))
             |skip
              refine kH H (YM h72 rfl (YM h72 rfl (YC h72 rfl (Pt h72 rfl (Ra rfl (Kn K15 ?_))))));clear H K15;intro a H;refine lr H Tryz.results7 rfl ?_;exact H.hp.ret (by first|rfl|exact congrArg Value.bool (by simp))
            intro h72
            try have p72:=dF h72
            first
            | (exfalso;omega)
            | (exact absurd h72 (by decide))
            |skip
             refine kH H (Ks h72 rfl (Ks h72 rfl (Ks h72 rfl (Pf h72 rfl (Ra rfl (Kn K15 ?_))))));clear H K15;intro a H;refine lr H Tryz.results7 rfl ?_;exact H.hp.ret (by first|rfl|exact congrArg Value.bool (by simp))
          intro h67
          try have p67:=dF h67
          first
          | (exfalso;omega)
          | (exact absurd h67 (by decide))
          |skip
           refine kH H (Ks h67 rfl (Ks h67 rfl (Ks h67 rfl (Pf h67 rfl (Rm rfl (Ks rfl rfl (Ks rfl rfl (Ks rfl rfl (Pf rfl rfl (Ra rfl (Kn K15 ?_)))))))))));clear H K15;intro a H;refine lr H Tryz.results7 rfl ?_;exact H.hp.ret (by first|rfl|exact congrArg Value.bool (by simp))
        intro h63
        try have p63:=dF h63
        first
        | (exfalso;omega)
        | (exact absurd h63 (by decide))
        |skip
         refine kH H (Ks h63 rfl (Ks h63 rfl (Pf h63 rfl (Rm rfl (Ks rfl rfl (Ks rfl rfl (Ks rfl rfl (Pf rfl rfl (Rm rfl (Ks rfl rfl (Ks rfl rfl (Ks rfl rfl (Pf rfl rfl (Ra rfl ?_))))))))))))));clear H;intro a H;refine wl_nil ?_;refine K15 _ _ ?_;clear K15;refine lr H Tryz.results7 rfl ?_;exact H.hp.ret (by first|rfl|exact congrArg Value.bool (by simp))
     intro h56
     try have p56:=dF h56
     first
     | (exfalso;omega)
     | (exact absurd h56 (by decide))
     |skip
      refine kP H (Kc K11 (SQ fun _ K16=>SR fun _ K17=>Rm rfl (Rc rfl (Kz K17 ?_))));clear H K11 K17;intro a H;refine c_cond H rfl ?_ ?_
      ·intro h59
       try have p59:=dT h59
       first
       | (exfalso;omega)
       | (exact absurd h59 (by decide))
       |skip
        refine kP H (SC (Rm rfl (Ra rfl (Kn K16 (SQ fun _ K18=>?_)))));clear H K16;intro a H;rw [cmpS_e hok hne,cmpS_e hok fun h=>hne ⟨h.2,h.1⟩] at H
        first|rw [if_pos p56] at H|rw [if_neg p56] at H
        first|rw [if_pos p59] at H|rw [if_neg p59] at H
        dsimp only at H;refine kP H (SC (Rm rfl (Rc rfl (Rm rfl ?_))));clear H;intro a H;refine s_split H 63 rfl ?_ ?_
        ·intro h63
         try have p63:=dT h63
         first
         | (exfalso;omega)
         | (exact absurd h63 (by decide))
         |skip
          refine kH H (YM h63 rfl (YC h63 rfl (Pt h63 rfl (Rm rfl ?_))));clear H;intro a H;refine s_split H 67 rfl ?_ ?_
          ·intro h67
           try have p67:=dT h67
           first
           | (exfalso;omega)
           | (exact absurd h67 (by decide))
           |skip
            refine kH H (YM h67 rfl (YM h67 rfl (YC h67 rfl (Pt h67 rfl (Rm rfl ?_)))));clear H;intro a H;refine s_split H 72 rfl ?_ ?_
            ·intro h72
             try have p72:=dT h72
             first
             | (exfalso;omega)
             | (exact absurd h72 (by decide))
             |skip
              refine kH H (YM h72 rfl (YM h72 rfl (YC h72 rfl (Pt h72 rfl (Ra rfl (Kn K18 ?_))))));clear H K18;intro a H;refine lr H Tryz.results7 rfl ?_;exact H.hp.ret (by first|rfl|exact congrArg Value.bool (by simp))
            intro h72
            try have p72:=dF h72
            first
            | (exfalso;omega)
            | (exact absurd h72 (by decide))
            |skip
             refine kH H (Ks h72 rfl (Ks h72 rfl (Ks h72 rfl (Pf h72 rfl (Ra rfl (Kn K18 ?_))))));clear H K18;intro a H;refine lr H Tryz.results7 rfl ?_;exact H.hp.ret (by first|rfl|exact congrArg Value.bool (by simp))
          intro h67
          try have p67:=dF h67
          first
          | (exfalso;omega)
          | (exact absurd h67 (by decide))
          |skip
           refine kH H (Ks h67 rfl (Ks h67 rfl (Ks h67 rfl (Pf h67 rfl (Rm rfl (Ks rfl rfl (Ks rfl rfl (Ks rfl rfl (Pf rfl rfl (Ra rfl (Kn K18 ?_)))))))))));clear H K18;intro a H;refine lr H Tryz.results7 rfl ?_;exact H.hp.ret (by first|rfl|exact congrArg Value.bool (by simp))
        intro h63
        try have p63:=dF h63
        first
        | (exfalso;omega)
        | (exact absurd h63 (by decide))
        |skip
         refine kH H (Ks h63 rfl (Ks h63 rfl (Pf h63 rfl (Rm rfl (Ks rfl rfl (Ks rfl rfl (Ks rfl rfl (Pf rfl rfl (Rm rfl (Ks rfl rfl (Ks rfl rfl (Ks rfl rfl (Pf rfl rfl (Ra rfl ?_))))))))))))));clear H;intro a H;refine wl_nil ?_;refine K18 _ _ ?_;clear K18;refine lr H Tryz.results7 rfl ?_;exact H.hp.ret (by first|rfl|exact congrArg Value.bool (by simp))
      intro h59
      try have p59:=dF h59
      first
      | (exfalso;omega)
      | (exact absurd h59 (by decide))
      |skip
       refine c_skip ?_;refine K16 _ _ ?_;clear K16;refine c_seq (fun _ K19=>?_);rw [cmpS_e hok hne,cmpS_e hok fun h=>hne ⟨h.2,h.1⟩] at H
       first|rw [if_pos p56] at H|rw [if_neg p56] at H
       first|rw [if_pos p59] at H|rw [if_neg p59] at H
       dsimp only at H;refine kP H (SC (Rm rfl (Rc rfl (Rm rfl ?_))));clear H;intro a H;refine s_split H 63 rfl ?_ ?_
       ·intro h63
        try have p63:=dT h63
        first
        | (exfalso;omega)
        | (exact absurd h63 (by decide))
        |skip
         refine kH H (YM h63 rfl (YC h63 rfl (Pt h63 rfl (Rm rfl ?_))));clear H;intro a H;refine s_split H 67 rfl ?_ ?_
         ·intro h67
          try have p67:=dT h67
          first
          | (exfalso;omega)
          | (exact absurd h67 (by decide))
          |skip
           refine kH H (YM h67 rfl (YM h67 rfl (YC h67 rfl (Pt h67 rfl (Rm rfl ?_)))));clear H;intro a H;refine s_split H 72 rfl ?_ ?_
           ·intro h72
            try have p72:=dT h72
            first
            | (exfalso;omega)
            | (exact absurd h72 (by decide))
            |skip
             refine kH H (YM h72 rfl (YM h72 rfl (YC h72 rfl (Pt h72 rfl (Ra rfl (Kn K19 ?_))))));clear H K19;intro a H;refine lr H Tryz.results7 rfl ?_;exact H.hp.ret (by first|rfl|exact congrArg Value.bool (by simp))
           intro h72
           try have p72:=dF h72
           first
           | (exfalso;omega)
           | (exact absurd h72 (by decide))
           |skip
            refine kH H (Ks h72 rfl (Ks h72 rfl (Ks h72 rfl (Pf h72 rfl (Ra rfl (Kn K19 ?_))))));clear H K19;intro a H;refine lr H Tryz.results7 rfl ?_;exact H.hp.ret (by first|rfl|exact congrArg Value.bool (by simp))
         intro h67
         try have p67:=dF h67
         first
         | (exfalso;omega)
         | (exact absurd h67 (by decide))
         |skip
          refine kH H (Ks h67 rfl (Ks h67 rfl (Ks h67 rfl (Pf h67 rfl (Rm rfl (Ks rfl rfl (Ks rfl rfl (Ks rfl rfl (Pf rfl rfl (Ra rfl (Kn K19 ?_)))))))))));clear H K19;intro a H;refine lr H Tryz.results7 rfl ?_;exact H.hp.ret (by first|rfl|exact congrArg Value.bool (by simp))
       intro h63
       try have p63:=dF h63
       first
       | (exfalso;omega)
       | (exact absurd h63 (by decide))
       |skip
        refine kH H (Ks h63 rfl (Ks h63 rfl (Pf h63 rfl (Rm rfl (Ks rfl rfl (Ks rfl rfl (Ks rfl rfl (Pf rfl rfl (Rm rfl (Ks rfl rfl (Ks rfl rfl (Ks rfl rfl (Pf rfl rfl (Ra rfl ?_))))))))))))));clear H;intro a H;refine wl_nil ?_;refine K19 _ _ ?_;clear K19;refine lr H Tryz.results7 rfl ?_;exact H.hp.ret (by first|rfl|exact congrArg Value.bool (by simp))
   intro h49
   try have p49:=dF h49
   first
   | (exfalso;omega)
   | (exact absurd h49 (by decide))
   |skip
    refine kH H (YM h49 rfl (YC h49 rfl (Pf h49 rfl (Kz K9 ?_))));clear H K9;intro a H;refine c_cond H rfl ?_ ?_
    ·intro h52
     try have p52:=dT h52
     first
     | (exfalso;omega)
     | (exact absurd h52 (by decide))
     |skip
      refine c_seq (fun _ K20=>?_)
      have hne:¬ (chkR d.flow f t t=0∧chkR d.flow f' t' t'=0):=by omega
      refine kP H (SC (Rm rfl (Rm rfl (Ra rfl (Ra rfl (Kn K20 (SQ fun _ K21=>SR fun _ K22=>Rm rfl (Rc rfl (Kz K22 ?_)))))))));clear H K20 K22;intro a H;refine c_cond H rfl ?_ ?_
      ·intro h56
       try have p56:=dT h56
       first
       | (exfalso;omega)
       | (exact absurd h56 (by decide))
       |skip
        refine kP H (SC (Rm rfl (Ra rfl (Kn K21 (SQ fun _ K23=>SR fun _ K24=>Rm rfl (Rc rfl (Kz K24 ?_)))))));clear H K21 K24;intro a H;refine c_cond H rfl ?_ ?_
        ·intro h59
         try have p59:=dT h59
         exact absurd ⟨p56,p59⟩ hne
        intro h59
        try have p59:=dF h59
        first
        | (exfalso;omega)
        | (exact absurd h59 (by decide))
        |skip
         refine c_skip ?_;refine K23 _ _ ?_;clear K23;refine c_seq (fun _ K25=>?_);rw [cmpS_e hok hne,cmpS_e hok fun h=>hne ⟨h.2,h.1⟩] at H
         first|rw [if_pos p56] at H|rw [if_neg p56] at H
         first|rw [if_pos p59] at H|rw [if_neg p59] at H
         dsimp only at H;refine kP H (SC (Rm rfl (Rc rfl (Rm rfl ?_))));clear H;intro a H;refine s_split H 63 rfl ?_ ?_
         ·intro h63
          try have p63:=dT h63
          first
          | (exfalso;omega)
          | (exact absurd h63 (by decide))
          |skip
           refine kH H (YM h63 rfl (YC h63 rfl (Pt h63 rfl (Rm rfl ?_))));clear H;intro a H;refine s_split H 67 rfl ?_ ?_
           ·intro h67
            try have p67:=dT h67
            first
            | (exfalso;omega)
            | (exact absurd h67 (by decide))
            |skip
             refine kH H (YM h67 rfl (YM h67 rfl (YC h67 rfl (Pt h67 rfl (Rm rfl ?_)))));clear H;intro a H;refine s_split H 72 rfl ?_ ?_
             ·intro h72
              try have p72:=dT h72
              first
              | (exfalso;omega)
              | (exact absurd h72 (by decide))
              |skip
               refine kH H (YM h72 rfl (YM h72 rfl (YC h72 rfl (Pt h72 rfl (Ra rfl (Kn K25 ?_))))));clear H K25;intro a H;refine lr H Tryz.results7 rfl ?_;exact H.hp.ret (by first|rfl|exact congrArg Value.bool (by simp))
             intro h72
             try have p72:=dF h72
             first
             | (exfalso;omega)
             | (exact absurd h72 (by decide))
             |skip
              refine kH H (Ks h72 rfl (Ks h72 rfl (Ks h72 rfl (Pf h72 rfl (Ra rfl (Kn K25 ?_))))));clear H K25;intro a H;refine lr H Tryz.results7 rfl ?_;exact H.hp.ret (by first|rfl|exact congrArg Value.bool (by simp))
           intro h67
           try have p67:=dF h67
           first
           | (exfalso;omega)
           | (exact absurd h67 (by decide))
           |skip
            refine kH H (Ks h67 rfl (Ks h67 rfl (Ks h67 rfl (Pf h67 rfl (Rm rfl (Ks rfl rfl (Ks rfl rfl (Ks rfl rfl (Pf rfl rfl (Ra rfl (Kn K25 ?_)))))))))));clear H K25;intro a H;refine lr H Tryz.results7 rfl ?_;exact H.hp.ret (by first|rfl|exact congrArg Value.bool (by simp))
         intro h63
         try have p63:=dF h63
         first
         | (exfalso;omega)
         | (exact absurd h63 (by decide))
         |skip
          refine kH H (Ks h63 rfl (Ks h63 rfl (Pf h63 rfl (Rm rfl (Ks rfl rfl (Ks rfl rfl (Ks rfl rfl (Pf rfl rfl (Rm rfl (Ks rfl rfl (Ks rfl rfl (Ks rfl rfl (Pf rfl rfl (Ra rfl ?_))))))))))))));clear H;intro a H;refine wl_nil ?_;refine K25 _ _ ?_;clear K25;refine lr H Tryz.results7 rfl ?_;exact H.hp.ret (by first|rfl|exact congrArg Value.bool (by simp))
      intro h56
      try have p56:=dF h56
      first
      | (exfalso;omega)
      | (exact absurd h56 (by decide))
      |skip
       refine kP H (Kc K21 (SQ fun _ K26=>SR fun _ K27=>Rm rfl (Rc rfl (Kz K27 ?_))));clear H K21 K27;intro a H;refine c_cond H rfl ?_ ?_
       ·intro h59
        try have p59:=dT h59
        first
        | (exfalso;omega)
        | (exact absurd h59 (by decide))
        |skip
         refine kP H (SC (Rm rfl (Ra rfl (Kn K26 (SQ fun _ K28=>?_)))));clear H K26;intro a H;rw [cmpS_e hok hne,cmpS_e hok fun h=>hne ⟨h.2,h.1⟩] at H
         first|rw [if_pos p56] at H|rw [if_neg p56] at H
         first|rw [if_pos p59] at H|rw [if_neg p59] at H
         dsimp only at H;refine kP H (SC (Rm rfl (Rc rfl (Rm rfl ?_))));clear H;intro a H;refine s_split H 63 rfl ?_ ?_
         ·intro h63
          try have p63:=dT h63
          first
          | (exfalso;omega)
          | (exact absurd h63 (by decide))
          |skip
           refine kH H (YM h63 rfl (YC h63 rfl (Pt h63 rfl (Rm rfl ?_))));clear H;intro a H;refine s_split H 67 rfl ?_ ?_
           ·intro h67
            try have p67:=dT h67
            first
            | (exfalso;omega)
            | (exact absurd h67 (by decide))
            |skip
             refine kH H (YM h67 rfl (YM h67 rfl (YC h67 rfl (Pt h67 rfl (Rm rfl ?_)))));clear H;intro a H;refine s_split H 72 rfl ?_ ?_
             ·intro h72
              try have p72:=dT h72
              first
              | (exfalso;omega)
              | (exact absurd h72 (by decide))
              |skip
               refine kH H (YM h72 rfl (YM h72 rfl (YC h72 rfl (Pt h72 rfl (Ra rfl (Kn K28 ?_))))));clear H K28;intro a H;refine lr H Tryz.results7 rfl ?_;exact H.hp.ret (by first|rfl|exact congrArg Value.bool (by simp))
             intro h72
             try have p72:=dF h72
             first
             | (exfalso;omega)
             | (exact absurd h72 (by decide))
             |skip
              refine kH H (Ks h72 rfl (Ks h72 rfl (Ks h72 rfl (Pf h72 rfl (Ra rfl (Kn K28 ?_))))));clear H K28;intro a H;refine lr H Tryz.results7 rfl ?_;exact H.hp.ret (by first|rfl|exact congrArg Value.bool (by simp))
           intro h67
           try have p67:=dF h67
           first
           | (exfalso;omega)
           | (exact absurd h67 (by decide))
           |skip
            refine kH H (Ks h67 rfl (Ks h67 rfl (Ks h67 rfl (Pf h67 rfl (Rm rfl (Ks rfl rfl (Ks rfl rfl (Ks rfl rfl (Pf rfl rfl (Ra rfl (Kn K28 ?_)))))))))));clear H K28;intro a H;refine lr H Tryz.results7 rfl ?_;exact H.hp.ret (by first|rfl|exact congrArg Value.bool (by simp))
         intro h63
         try have p63:=dF h63
         first
         | (exfalso;omega)
         | (exact absurd h63 (by decide))
         |skip
          refine kH H (Ks h63 rfl (Ks h63 rfl (Pf h63 rfl (Rm rfl (Ks rfl rfl (Ks rfl rfl (Ks rfl rfl (Pf rfl rfl (Rm rfl (Ks rfl rfl (Ks rfl rfl (Ks rfl rfl (Pf rfl rfl (Ra rfl ?_))))))))))))));clear H;intro a H;refine wl_nil ?_;refine K28 _ _ ?_;clear K28;refine lr H Tryz.results7 rfl ?_;exact H.hp.ret (by first|rfl|exact congrArg Value.bool (by simp))
       intro h59
       try have p59:=dF h59
       first
       | (exfalso;omega)
       | (exact absurd h59 (by decide))
       |skip
        refine c_skip ?_;refine K26 _ _ ?_;clear K26;refine c_seq (fun _ K29=>?_);rw [cmpS_e hok hne,cmpS_e hok fun h=>hne ⟨h.2,h.1⟩] at H
        first|rw [if_pos p56] at H|rw [if_neg p56] at H
        first|rw [if_pos p59] at H|rw [if_neg p59] at H
        dsimp only at H;refine kP H (SC (Rm rfl (Rc rfl (Rm rfl ?_))));clear H;intro a H;refine s_split H 63 rfl ?_ ?_
        ·intro h63
         try have p63:=dT h63
         first
         | (exfalso;omega)
         | (exact absurd h63 (by decide))
         |skip
          refine kH H (YM h63 rfl (YC h63 rfl (Pt h63 rfl (Rm rfl ?_))));clear H;intro a H;refine s_split H 67 rfl ?_ ?_
          ·intro h67
           try have p67:=dT h67
           first
           | (exfalso;omega)
           | (exact absurd h67 (by decide))
           |skip
            refine kH H (YM h67 rfl (YM h67 rfl (YC h67 rfl (Pt h67 rfl (Rm rfl ?_)))));clear H;intro a H;refine s_split H 72 rfl ?_ ?_
            ·intro h72
             try have p72:=dT h72
             first
             | (exfalso;omega)
             | (exact absurd h72 (by decide))
             |skip
              refine kH H (YM h72 rfl (YM h72 rfl (YC h72 rfl (Pt h72 rfl (Ra rfl (Kn K29 ?_))))));clear H K29;intro a H;refine lr H Tryz.results7 rfl ?_;exact H.hp.ret (by first|rfl|exact congrArg Value.bool (by simp))
            intro h72
            try have p72:=dF h72
            first
            | (exfalso;omega)
            | (exact absurd h72 (by decide))
            |skip
             refine kH H (Ks h72 rfl (Ks h72 rfl (Ks h72 rfl (Pf h72 rfl (Ra rfl (Kn K29 ?_))))));clear H K29;intro a H;refine lr H Tryz.results7 rfl ?_;exact H.hp.ret (by first|rfl|exact congrArg Value.bool (by simp))
          intro h67
          try have p67:=dF h67
          first
          | (exfalso;omega)
          | (exact absurd h67 (by decide))
          |skip
           refine kH H (Ks h67 rfl (Ks h67 rfl (Ks h67 rfl (Pf h67 rfl (Rm rfl (Ks rfl rfl (Ks rfl rfl (Ks rfl rfl (Pf rfl rfl (Ra rfl (Kn K29 ?_)))))))))));clear H K29;intro a H;refine lr H Tryz.results7 rfl ?_;exact H.hp.ret (by first|rfl|exact congrArg Value.bool (by simp))
        intro h63
        try have p63:=dF h63
        first
        | (exfalso;omega)
        | (exact absurd h63 (by decide))
        |skip
         refine kH H (Ks h63 rfl (Ks h63 rfl (Pf h63 rfl (Rm rfl (Ks rfl rfl (Ks rfl rfl (Ks rfl rfl (Pf rfl rfl (Rm rfl (Ks rfl rfl (Ks rfl rfl (Ks rfl rfl (Pf rfl rfl (Ra rfl ?_))))))))))))));clear H;intro a H;refine wl_nil ?_;refine K29 _ _ ?_;clear K29;refine lr H Tryz.results7 rfl ?_;exact H.hp.ret (by first|rfl|exact congrArg Value.bool (by simp))
    intro h52
    try have p52:=dF h52
    first
    | (exfalso;omega)
    | (exact absurd h52 (by decide))
    |skip
     refine c_skip ?_;refine K8 _ _ ?_;clear K8;refine c_seq (fun _ K30=>?_)
     have h1:chkR d.flow f t t=0:=by omega
     have h2:chkR d.flow f' t' t'=0:=by omega
     rw [cmpS_ok hok h1 h2,cmpS_ok hok h2 h1] at H;dsimp only at H;obtain ⟨A,hA⟩:∃ A,A=vItems 0 0 d.flow:=⟨_,rfl⟩;rw [← hA] at H;obtain ⟨x,hx⟩:∃ x,x=fnd A f t:=⟨_,rfl⟩;obtain ⟨y,hy⟩:∃ y,y=fnd A f' t':=⟨_,rfl⟩;rw [← hx,← hy] at H;refine c_region ?_;refine s_loada ty38pq (cs:=D.cells) H wn rfl rfl (fun j v hj=>H.hp.gcell (gcell_mono hGm5 (hgb j v hj))) rfl ?_;clear H;intro a H;refine s_call en10pi15 H wn rfl (all15_spec _ _ H.hp.ro D d.flow (hR.fl.mono hGm5) hzf hok.ok) rfl ?_;clear H;rintro v78 G78 a w hrep hm78 H;obtain ⟨B,n78,c,rfl⟩:=hrep.form;have hn78:=hrep.len;rw [List.length_map] at hn78;subst hn78;rw [← hA] at H hrep hvl;refine kH H (Ra rfl (Kn K30 (SQ fun _ K31=>?_)));clear H K30;intro a H;refine c_drawI (hmx) [[],[],[0,1],[],[],[0,1,2,3,4],[0,1,2,3,4,5],(List.range 7)] [6,7] (by kernel_rfl) (by kernel_rfl) (fun (ix_:Nat) (v:Value) (G:GH)=>match ix_ with|0=>v=.slice B A.length c|1=>v=.agg #[vi f,vi t]|2=>v=vi x|3=>v=.slice B A.length c|4=>v=.agg #[vi f',vi t']|5=>v=vi y|_=>True) (fun _ _ _ _ _ h=>h) H ?_ ?_
     ·clear H;refine al4 ?_ ?_ ?_ ?_ (al4 ?_ ?_ ?_ ?_ allI_nil)
      ·exact Z0 rfl rfl fun _ _ _ _ _=>Rm rfl
      ·refine Op0 rfl fun _ a w G1 hG HT H fin=>?_;refine s_loada ty45pq (cs:=[_,_]) H wn rfl rfl (H.hp.ocells 1 rfl rfl) rfl ?_;clear H;intro a H;exact fin H iJ rfl
      ·refine Op2 0 79 1 80 rfl rfl fun _ a w G1 hG HT H fin=>?_;refine s_call en23pc15 H wn rfl (find15_spec _ _ H.hp.ro A _ f t (hrep.mono hG) (by omega)) rfl ?_;clear H;rintro v81 G81 a w rfl hGm81 H;exact fin H hGm81 (congrArg vi hx.symm)
      ·exact Z0 rfl rfl fun _ _ _ _ _=>Rm rfl
      ·refine Op0 rfl fun _ a w G1 hG HT H fin=>?_;refine s_loada ty45pq (cs:=[_,_]) H wn rfl rfl (H.hp.ocells 0 rfl rfl) rfl ?_;clear H;intro a H;exact fin H iJ rfl
      ·refine Op2 3 82 4 83 rfl rfl fun _ a w G1 hG HT H fin=>?_;refine s_call en23pc15 H wn rfl (find15_spec _ _ H.hp.ro A _ f' t' (hrep.mono hG) (by omega)) rfl ?_;clear H;rintro v84 G84 a w rfl hGm84 H;exact fin H hGm84 (congrArg vi hy.symm)
      ·exact opB rfl
      exact opB rfl
     clear H;intro a w G hGm14 H hv;obtain ⟨u81,hu81,hp81⟩:=hv 2 81 (by decide) rfl;obtain rfl:u81=vi x:=hp81;have H:=H.addS hu81;obtain ⟨u84,hu84,hp84⟩:=hv 5 84 (by decide) rfl;obtain rfl:u84=vi y:=hp84;have H:=H.addS hu84;clear hv;refine kH H (Ra rfl (Ra rfl ?_));clear H;intro a H;refine wl_nil ⟨rfl,?_⟩;refine K31 _ _ ?_;clear K31;refine kP H (SR fun _ K32=>Ra rfl (Kz K32 (SQ fun _ K33=>SR fun _ K34=>Rm rfl (Rm rfl (Rc rfl (Kz K34 ?_))))));clear H K32 K34;intro a H;refine c_cond H rfl ?_ ?_
     ·intro h87
      try have p87:=dT h87
      first
      | (exfalso;omega)
      | (exact absurd h87 (by decide))
      |skip
       refine kP H (SC (Ra rfl (Kn K33 (SQ fun _ K35=>SR fun _ K36=>Rm rfl (Rm rfl (Rc rfl (Kz K36 ?_)))))));clear H K33 K36;intro a H;refine c_cond H rfl ?_ ?_
       ·intro h90
        try have p90:=dT h90
        first
        | (exfalso;omega)
        | (exact absurd h90 (by decide))
        |skip
         refine kP H (SC (Ra rfl (Kn K35 (SQ fun _ K37=>?_))));clear H K35;intro a H
         rw [show cmp3 x y=(if x < y then -1 else if y < x then 1 else 0) by unfold cmp3;(repeat' split) <;> omega,show cmp3 y x=(if y < x then -1 else if x < y then 1 else 0) by unfold cmp3;(repeat' split) <;> omega] at H
         (repeat (first|rw [if_pos (show x < y by omega)] at H|rw [if_neg (show ¬ x < y by omega)] at H|rw [if_pos (show y < x by omega)] at H|rw [if_neg (show ¬ y < x by omega)] at H))
         refine kP H (SC (Rm rfl (Rc rfl (Rm rfl ?_))));clear H;intro a H;refine s_split H 93 rfl ?_ ?_
         ·intro h93
          try have p93:=dT h93
          first
          | (exfalso;omega)
          | (exact absurd h93 (by decide))
          |skip
           refine kH H (YM h93 rfl (YC h93 rfl (Pt h93 rfl (Rm rfl ?_))));clear H;intro a H;refine s_split H 97 rfl ?_ ?_
           ·intro h97
            try have p97:=dT h97
            first
            | (exfalso;omega)
            | (exact absurd h97 (by decide))
            |skip
             refine kH H (YM h97 rfl (YM h97 rfl (YC h97 rfl (Pt h97 rfl (Rm rfl ?_)))));clear H;intro a H;refine s_split H 102 rfl ?_ ?_
             ·intro h102
              try have p102:=dT h102
              first
              | (exfalso;omega)
              | (exact absurd h102 (by decide))
              |skip
               refine kH H (YM h102 rfl (YM h102 rfl ?_));clear H;intro a H;refine s_neg _ H (wg H rfl rfl h102) rfl rfl (by omega) (by omega) rfl ?_;clear H;intro a H;refine kH H (YC h102 rfl (Pt h102 rfl (Ra rfl (Kn K37 ?_))));clear H K37;intro a H;refine lr H Tryz.results7 rfl ?_;exact H.hp.ret (by first|rfl|exact congrArg Value.bool (by simp))
             intro h102
             try have p102:=dF h102
             first
             | (exfalso;omega)
             | (exact absurd h102 (by decide))
             |skip
              refine kH H (Ks h102 rfl (Ks h102 rfl (Ks h102 rfl (Ks h102 rfl (Pf h102 rfl (Ra rfl (Kn K37 ?_)))))));clear H K37;intro a H;refine lr H Tryz.results7 rfl ?_;exact H.hp.ret (by first|rfl|exact congrArg Value.bool (by simp))
           intro h97
           try have p97:=dF h97
           first
           | (exfalso;omega)
           | (exact absurd h97 (by decide))
           |skip
            refine kH H (Ks h97 rfl (Ks h97 rfl (Ks h97 rfl (Pf h97 rfl (Rm rfl (Ks rfl rfl (Ks rfl rfl (Ks rfl rfl (Ks rfl rfl (Pf rfl rfl (Ra rfl (Kn K37 ?_))))))))))));clear H K37;intro a H;refine lr H Tryz.results7 rfl ?_;exact H.hp.ret (by first|rfl|exact congrArg Value.bool (by simp))
         intro h93
         try have p93:=dF h93
         first
         | (exfalso;omega)
         | (exact absurd h93 (by decide))
         |skip
          refine kH H (Ks h93 rfl (Ks h93 rfl (Pf h93 rfl (Rm rfl (Ks rfl rfl (Ks rfl rfl (Ks rfl rfl (Pf rfl rfl (Rm rfl (Ks rfl rfl (Ks rfl rfl (Ks rfl rfl (Ks rfl rfl (Pf rfl rfl ?_))))))))))))));clear H;intro a H;refine kH H (Ra rfl (Kn K37 ?_));clear H K37;intro a H;refine lr H Tryz.results7 rfl ?_;exact H.hp.ret (by first|rfl|exact congrArg Value.bool (by simp))
       intro h90
       try have p90:=dF h90
       first
       | (exfalso;omega)
       | (exact absurd h90 (by decide))
       |skip
        refine c_skip ?_;refine K35 _ _ ?_;clear K35;refine c_seq (fun _ K38=>?_)
        rw [show cmp3 x y=(if x < y then -1 else if y < x then 1 else 0) by unfold cmp3;(repeat' split) <;> omega,show cmp3 y x=(if y < x then -1 else if x < y then 1 else 0) by unfold cmp3;(repeat' split) <;> omega] at H
        (repeat (first|rw [if_pos (show x < y by omega)] at H|rw [if_neg (show ¬ x < y by omega)] at H|rw [if_pos (show y < x by omega)] at H|rw [if_neg (show ¬ y < x by omega)] at H))
        refine kP H (SC (Rm rfl (Rc rfl (Rm rfl ?_))));clear H;intro a H;refine s_split H 93 rfl ?_ ?_
        ·intro h93
         try have p93:=dT h93
         first
         | (exfalso;omega)
         | (exact absurd h93 (by decide))
         |skip
          refine kH H (YM h93 rfl (YC h93 rfl (Pt h93 rfl (Rm rfl ?_))));clear H;intro a H;refine s_split H 97 rfl ?_ ?_
          ·intro h97
           try have p97:=dT h97
           first
           | (exfalso;omega)
           | (exact absurd h97 (by decide))
           |skip
            refine kH H (YM h97 rfl (YM h97 rfl (YC h97 rfl (Pt h97 rfl (Rm rfl ?_)))));clear H;intro a H;refine s_split H 102 rfl ?_ ?_
            ·intro h102
             try have p102:=dT h102
             first
             | (exfalso;omega)
             | (exact absurd h102 (by decide))
             |skip
              refine kH H (YM h102 rfl (YM h102 rfl ?_));clear H;intro a H;refine s_neg _ H (wg H rfl rfl h102) rfl rfl (by omega) (by omega) rfl ?_;clear H;intro a H;refine kH H (YC h102 rfl (Pt h102 rfl (Ra rfl (Kn K38 ?_))));clear H K38;intro a H;refine lr H Tryz.results7 rfl ?_;exact H.hp.ret (by first|rfl|exact congrArg Value.bool (by simp))
            intro h102
            try have p102:=dF h102
            first
            | (exfalso;omega)
            | (exact absurd h102 (by decide))
            |skip
             refine kH H (Ks h102 rfl (Ks h102 rfl (Ks h102 rfl (Ks h102 rfl (Pf h102 rfl (Ra rfl (Kn K38 ?_)))))));clear H K38;intro a H;refine lr H Tryz.results7 rfl ?_;exact H.hp.ret (by first|rfl|exact congrArg Value.bool (by simp))
          intro h97
          try have p97:=dF h97
          first
          | (exfalso;omega)
          | (exact absurd h97 (by decide))
          |skip
           refine kH H (Ks h97 rfl (Ks h97 rfl (Ks h97 rfl (Pf h97 rfl (Rm rfl (Ks rfl rfl (Ks rfl rfl (Ks rfl rfl (Ks rfl rfl (Pf rfl rfl (Ra rfl (Kn K38 ?_))))))))))));clear H K38;intro a H;refine lr H Tryz.results7 rfl ?_;exact H.hp.ret (by first|rfl|exact congrArg Value.bool (by simp))
        intro h93
        try have p93:=dF h93
        first
        | (exfalso;omega)
        | (exact absurd h93 (by decide))
        |skip
         refine kH H (Ks h93 rfl (Ks h93 rfl (Pf h93 rfl (Rm rfl (Ks rfl rfl (Ks rfl rfl (Ks rfl rfl (Pf rfl rfl (Rm rfl (Ks rfl rfl (Ks rfl rfl (Ks rfl rfl (Ks rfl rfl (Pf rfl rfl ?_))))))))))))));clear H;intro a H;refine kH H (Ra rfl (Kn K38 ?_));clear H K38;intro a H;refine lr H Tryz.results7 rfl ?_;exact H.hp.ret (by first|rfl|exact congrArg Value.bool (by simp))
     intro h87
     try have p87:=dF h87
     first
     | (exfalso;omega)
     | (exact absurd h87 (by decide))
     |skip
      refine kP H (Kc K33 (SQ fun _ K39=>SR fun _ K40=>Rm rfl (Rm rfl (Rc rfl (Kz K40 ?_)))));clear H K33 K40;intro a H;refine c_cond H rfl ?_ ?_
      ·intro h90
       try have p90:=dT h90
       first
       | (exfalso;omega)
       | (exact absurd h90 (by decide))
       |skip
        refine kP H (SC (Ra rfl (Kn K39 (SQ fun _ K41=>?_))));clear H K39;intro a H
        rw [show cmp3 x y=(if x < y then -1 else if y < x then 1 else 0) by unfold cmp3;(repeat' split) <;> omega,show cmp3 y x=(if y < x then -1 else if x < y then 1 else 0) by unfold cmp3;(repeat' split) <;> omega] at H
        (repeat (first|rw [if_pos (show x < y by omega)] at H|rw [if_neg (show ¬ x < y by omega)] at H|rw [if_pos (show y < x by omega)] at H|rw [if_neg (show ¬ y < x by omega)] at H))
        refine kP H (SC (Rm rfl (Rc rfl (Rm rfl ?_))));clear H;intro a H;refine s_split H 93 rfl ?_ ?_
        ·intro h93
         try have p93:=dT h93
         first
         | (exfalso;omega)
         | (exact absurd h93 (by decide))
         |skip
          refine kH H (YM h93 rfl (YC h93 rfl (Pt h93 rfl (Rm rfl ?_))));clear H;intro a H;refine s_split H 97 rfl ?_ ?_
          ·intro h97
           try have p97:=dT h97
           first
           | (exfalso;omega)
           | (exact absurd h97 (by decide))
           |skip
            refine kH H (YM h97 rfl (YM h97 rfl (YC h97 rfl (Pt h97 rfl (Rm rfl ?_)))));clear H;intro a H;refine s_split H 102 rfl ?_ ?_
            ·intro h102
             try have p102:=dT h102
             first
             | (exfalso;omega)
             | (exact absurd h102 (by decide))
             |skip
              refine kH H (YM h102 rfl (YM h102 rfl ?_));clear H;intro a H;refine s_neg _ H (wg H rfl rfl h102) rfl rfl (by omega) (by omega) rfl ?_;clear H;intro a H;refine kH H (YC h102 rfl (Pt h102 rfl (Ra rfl (Kn K41 ?_))));clear H K41;intro a H;refine lr H Tryz.results7 rfl ?_;exact H.hp.ret (by first|rfl|exact congrArg Value.bool (by simp))
            intro h102
            try have p102:=dF h102
            first
            | (exfalso;omega)
            | (exact absurd h102 (by decide))
            |skip
             refine kH H (Ks h102 rfl (Ks h102 rfl (Ks h102 rfl (Ks h102 rfl (Pf h102 rfl (Ra rfl (Kn K41 ?_)))))));clear H K41;intro a H;refine lr H Tryz.results7 rfl ?_;exact H.hp.ret (by first|rfl|exact congrArg Value.bool (by simp))
          intro h97
          try have p97:=dF h97
          first
          | (exfalso;omega)
          | (exact absurd h97 (by decide))
          |skip
           refine kH H (Ks h97 rfl (Ks h97 rfl (Ks h97 rfl (Pf h97 rfl (Rm rfl (Ks rfl rfl (Ks rfl rfl (Ks rfl rfl (Ks rfl rfl (Pf rfl rfl (Ra rfl (Kn K41 ?_))))))))))));clear H K41;intro a H;refine lr H Tryz.results7 rfl ?_;exact H.hp.ret (by first|rfl|exact congrArg Value.bool (by simp))
        intro h93
        try have p93:=dF h93
        first
        | (exfalso;omega)
        | (exact absurd h93 (by decide))
        |skip
         refine kH H (Ks h93 rfl (Ks h93 rfl (Pf h93 rfl (Rm rfl (Ks rfl rfl (Ks rfl rfl (Ks rfl rfl (Pf rfl rfl (Rm rfl (Ks rfl rfl (Ks rfl rfl (Ks rfl rfl (Ks rfl rfl (Pf rfl rfl ?_))))))))))))));clear H;intro a H;refine kH H (Ra rfl (Kn K41 ?_));clear H K41;intro a H;refine lr H Tryz.results7 rfl ?_;exact H.hp.ret (by first|rfl|exact congrArg Value.bool (by simp))
      intro h90
      try have p90:=dF h90
      first
      | (exfalso;omega)
      | (exact absurd h90 (by decide))
      |skip
       refine c_skip ?_;refine K39 _ _ ?_;clear K39;refine c_seq (fun _ K42=>?_)
       rw [show cmp3 x y=(if x < y then -1 else if y < x then 1 else 0) by unfold cmp3;(repeat' split) <;> omega,show cmp3 y x=(if y < x then -1 else if x < y then 1 else 0) by unfold cmp3;(repeat' split) <;> omega] at H
       (repeat (first|rw [if_pos (show x < y by omega)] at H|rw [if_neg (show ¬ x < y by omega)] at H|rw [if_pos (show y < x by omega)] at H|rw [if_neg (show ¬ y < x by omega)] at H))
       refine kP H (SC (Rm rfl (Rc rfl (Rm rfl ?_))));clear H;intro a H;refine s_split H 93 rfl ?_ ?_
       ·intro h93
        try have p93:=dT h93
        first
        | (exfalso;omega)
        | (exact absurd h93 (by decide))
        |skip
         refine kH H (YM h93 rfl (YC h93 rfl (Pt h93 rfl (Rm rfl ?_))));clear H;intro a H;refine s_split H 97 rfl ?_ ?_
         ·intro h97
          try have p97:=dT h97
          first
          | (exfalso;omega)
          | (exact absurd h97 (by decide))
          |skip
           refine kH H (YM h97 rfl (YM h97 rfl (YC h97 rfl (Pt h97 rfl (Rm rfl ?_)))));clear H;intro a H;refine s_split H 102 rfl ?_ ?_
           ·intro h102
            try have p102:=dT h102
            first
            | (exfalso;omega)
            | (exact absurd h102 (by decide))
            |skip
             refine kH H (YM h102 rfl (YM h102 rfl ?_));clear H;intro a H;refine s_neg _ H (wg H rfl rfl h102) rfl rfl (by omega) (by omega) rfl ?_;clear H;intro a H;refine kH H (YC h102 rfl (Pt h102 rfl (Ra rfl (Kn K42 ?_))));clear H K42;intro a H;refine lr H Tryz.results7 rfl ?_;exact H.hp.ret (by first|rfl|exact congrArg Value.bool (by simp))
           intro h102
           try have p102:=dF h102
           first
           | (exfalso;omega)
           | (exact absurd h102 (by decide))
           |skip
            refine kH H (Ks h102 rfl (Ks h102 rfl (Ks h102 rfl (Ks h102 rfl (Pf h102 rfl (Ra rfl (Kn K42 ?_)))))));clear H K42;intro a H;refine lr H Tryz.results7 rfl ?_;exact H.hp.ret (by first|rfl|exact congrArg Value.bool (by simp))
         intro h97
         try have p97:=dF h97
         first
         | (exfalso;omega)
         | (exact absurd h97 (by decide))
         |skip
          refine kH H (Ks h97 rfl (Ks h97 rfl (Ks h97 rfl (Pf h97 rfl (Rm rfl (Ks rfl rfl (Ks rfl rfl (Ks rfl rfl (Ks rfl rfl (Pf rfl rfl (Ra rfl (Kn K42 ?_))))))))))));clear H K42;intro a H;refine lr H Tryz.results7 rfl ?_;exact H.hp.ret (by first|rfl|exact congrArg Value.bool (by simp))
       intro h93
       try have p93:=dF h93
       first
       | (exfalso;omega)
       | (exact absurd h93 (by decide))
       |skip
        refine kH H (Ks h93 rfl (Ks h93 rfl (Pf h93 rfl (Rm rfl (Ks rfl rfl (Ks rfl rfl (Ks rfl rfl (Pf rfl rfl (Rm rfl (Ks rfl rfl (Ks rfl rfl (Ks rfl rfl (Ks rfl rfl (Pf rfl rfl ?_))))))))))))));clear H;intro a H;refine kH H (Ra rfl (Kn K42 ?_));clear H K42;intro a H;refine lr H Tryz.results7 rfl ?_;exact H.hp.ret (by first|rfl|exact congrArg Value.bool (by simp))
end
section
open Go.ChangeShapes Go.RowKit Go.Deep
abbrev heapG (W:World):GH:=fun k=>W.heap[k]?
theorem gcell_heap {W:World} {b o:Nat} {v:Value} (h:W.cell? ⟨b,o,none⟩=some v):gcell (heapG W) b o=some v:=by
 unfold World.cell? at h
 unfold gcell heapG
 split at h
 ·rename_i c e f hh
  simp only at hh
  rw [hh];simpa using h
 cases h
theorem list_of {α:Type} {p:Nat→α→Prop}:∀ n:Nat,(∀ i,i < n→∃ x,p i x)→∃ l:List α,l.length=n∧∀ i x,l[i]?=some x→p i x
 | 0,_=>⟨[],rfl,fun i x h=>by simp at h⟩
 | n+1,h=>by
  obtain ⟨l,hl,hp⟩:=list_of n (fun i hi=>h i (by omega));obtain ⟨x,hx⟩:=h n (by omega);refine ⟨l++[x],by simp [hl],fun i y hy=>?_⟩
  by_cases hi:i < l.length
  ·exact hp i y (by rwa [List.getElem?_append_left hi] at hy)
  rw [List.getElem?_append_right (by omega)] at hy
  have hin:i - l.length=0:=by
   have:=(List.getElem?_eq_some_iff.1 hy).1
   simp at this;omega
  rw [hin] at hy
  simp only [List.getElem?_cons_zero,Option.some.injEq] at hy
  subst hy;rw [show i=n by omega];exact hx
theorem bulk_pos {H:Type} (d:DataW H):1≤Rows.uptoBulk d:=by
 cases d <;> (try simp only [Rows.uptoBulk]) <;> (try omega)
 rename_i x;cases x <;> simp only [Rows.uptoBulk] <;> omega
theorem bulk_rows {H ρ:Type} {dat:ρ→List Dat}:∀ (rs:List ρ) (D:Nat→DataW H),(∀ i r,rs[i]?=some r→szR (dat r)+1≤8*Rows.uptoBulk (D i))→szRs (rs.map dat)≤8*Rows.uptoBulkAll ((List.range rs.length).map D)
 | [],D,_=>Nat.zero_le _
 | r :: rs,D,h=>by
  have h0:=h 0 r rfl;have hp:=bulk_pos (D 0);have ih:=bulk_rows rs (fun i=>D (i+1)) (fun i r hr=>h (i+1) r (by simpa using hr));rw [List.length_cons,List.range_succ_eq_map]
  simp only [List.map_cons,List.map_map,szRs,Rows.uptoBulkAll]
  have e:(List.map (D ∘ Nat.succ) (List.range rs.length))=(List.map (fun i=>D (i+1)) (List.range rs.length)):=rfl;rw [e];omega
theorem bulk_mem {H:Type} {D:Nat→DataW H}:∀ {n i:Nat},i < n→Rows.uptoBulk (D i)≤Rows.uptoBulkAll ((List.range n).map D)
 | 0,i,h=>absurd h (by omega)
 | n+1,i,h=>by
  have key:∀ (l m:List (DataW H)),Rows.uptoBulkAll (l++m)=Rows.uptoBulkAll l+Rows.uptoBulkAll m:=by
   intro l m
   induction l with
   | nil=>simp [Rows.uptoBulkAll]
   | cons x l ih=>simp only [List.cons_append,Rows.uptoBulkAll,ih];omega
  rw [List.range_succ,List.map_append,key]
  by_cases hi:i < n
  ·have:=bulk_mem (D:=D) hi;omega
  have:i=n:=by omega
  subst this
  simp only [List.map_cons,List.map_nil,Rows.uptoBulkAll];omega
section
variable {H:Type} {enc:TypeId × Value→H} {P:Program} {W:World} {base:Nat} {spare:Nat→Bool} {held:Bool}
/-- A slice whose elements read as rows. -/
theorem rd_slice {ρ:Type} {dat:ρ→List Dat} {t e:TypeId} {sz:Nat} (hsz:0 < sz) {fuel:Nat} {cs:List Value} {x:DataW H × List MemPlace} (ht:P.underlying t=some (.slice e)) (hc:P.cellsOf e=sz) (h:DataW.trod enc P W base spare held fuel t cs=some x)
  (row:∀ n cs' D Pl,DataW.trod enc P W base spare held n e cs'=some (D,Pl)→Rows.uptoBulk D < Rows.uptoBulk x.1→∃ r:ρ,RepRow (heapG W) (dat r) cs'∧szR (dat r)+1≤8*Rows.uptoBulk D) :
  ∃ (rs:List ρ) (v:Value),cs=[v]∧RepV (heapG W) (.sl sz (rs.map dat)) v∧szRs (rs.map dat)+8≤8*Rows.uptoBulk x.1:=by
 rcases open_slice ht h with ⟨rfl,rfl⟩|⟨a,len,cap,m,n,D,Pl,rfl,hb,hl,hm,hmm,rfl,hx⟩
 ·exact ⟨[],_,rfl,RepV.nil_ rfl (by decide),by simp [szRs,Rows.uptoBulk]⟩
 obtain ⟨rs,hrl,hrs⟩:=list_of (p:=fun i (r:ρ)=>∃ cs',W.cells? base (a.add (i*sz)) sz=some cs'∧RepRow (heapG W) (dat r) cs'∧szR (dat r)+1≤8*Rows.uptoBulk (D i)) len (fun i hi=>by
  have him:i < m:=by rw [hmm];split <;> omega
  obtain ⟨cs',h1,h2⟩:=hx i him;rw [hc] at h1;have hb1:=bulk_mem (D:=D) hi;obtain ⟨r,hr1,hr2⟩:=row n cs' (D i) (Pl i) h2 (by simp only [Rows.uptoBulk];omega)
  exact ⟨r,cs',h1,hr1,hr2⟩)
 refine ⟨rs,_,rfl,?_,?_⟩
 ·simp only [RepV,List.length_map]
  refine ⟨some a,cap,by rw [hrl],by omega,hm,fun hne=>?_⟩;obtain ⟨b,off,spot⟩:=a
  have hlen:0 < rs.length:=by cases rs with|nil=>simp at hne|cons _ _=>simp
  obtain ⟨cs0,h1,-,-⟩:=hrs 0 rs[0] (List.getElem?_eq_getElem hlen);obtain ⟨-,hl0,hg0⟩:=World.cells?_some h1
  have hspot:spot=none:=by
   have h3:=hg0 0 hsz;rw [List.getElem?_eq_getElem (by omega)] at h3
   simpa [Addr.add] using World.cell?_spot h3
  subst hspot;refine ⟨b,off,rfl,RepRows.mk fun k r hk=>?_⟩;rw [List.getElem?_map] at hk;obtain ⟨y,hy,rfl⟩:=Option.map_eq_some_iff.1 hk;obtain ⟨cs',h2,h3,-⟩:=hrs k y hy;obtain ⟨-,hl1,hg1⟩:=World.cells?_some h2;refine ⟨cs',hl1,fun j u hj=>gcell_heap ?_,h3⟩
  have hj2:j < sz:=by rw [← hl1];exact (List.getElem?_eq_some_iff.1 hj).1
  have:=hg1 j hj2;rw [add_add,Go.WideShapes.add_plain] at this;rw [show off+k*sz+j=off+(k*sz+j) by omega,this];exact hj
 have:=bulk_rows rs D (fun i r hr=>(hrs i r hr).choose_spec.2.2);rw [hrl] at this
 simp only [Rows.uptoBulk];omega
end
/-- A struct's fields: their types and where they begin. -/
structure StF (P:Program) (t:TypeId) (sz:Nat) (fs:List (TypeId × Nat × Nat)):Prop where
 und:P.underlying t=some (.struct (P.fieldsOf t))
 cells:P.cellsOf t=sz
 flds:(P.fieldsOf t).toList.map (fun f=>(f.type,f.offset,P.cellsOf f.type))=fs
theorem rd_struct {P:Program} {H:Type} {enc:TypeId × Value→H} {W:World} {base:Nat} {spare:Nat→Bool} {held:Bool} {t:TypeId} {sz fuel:Nat} {fs:List (TypeId × Nat × Nat)} {cs:List Value} {x:DataW H × List MemPlace} (hs:StF P t sz fs) (h:DataW.trod enc P W base spare held fuel t cs=some x) :
  ∃ (xs:List (DataW H × List MemPlace)) (n:Nat),x.1=.agg (xs.map (·.1))∧cs.length=sz∧xs.length=fs.length∧∀ (i:Nat) (ti:TypeId) (off k:Nat),fs[i]?=some (ti,off,k)→DataW.trod enc P W base spare held n ti ((cs.drop off).take k)=xs[i]?:=by
 obtain ⟨xs,n,-,rfl,hl,hxl,hf⟩:=DataW.trod_struct hs.und h;refine ⟨xs,n,rfl,by rw [hl,hs.cells],by rw [hxl,← hs.flds];simp,fun i ti off k hi=>?_⟩;rw [← hs.flds,List.getElem?_map] at hi;obtain ⟨f,hf1,hf2⟩:=Option.map_eq_some_iff.1 hi
 simp only [Prod.mk.injEq] at hf2
 obtain ⟨rfl,rfl,rfl⟩:=hf2;exact hf i f (by simpa using hf1)
section
variable {H:Type} {enc:TypeId × Value→H} {W:World} {base:Nat} {spare:Nat→Bool} {held:Bool}
theorem sfProp:StF Tryz.prog 147 2 [(3,0,1),(3,1,1)]:=⟨by kernel_rfl,by kernel_rfl,by kernel_rfl⟩
theorem rd_prop {n:Nat} {cs:List Value} {D:DataW H} {Pl:List MemPlace} (h:DataW.trod enc Tryz.prog W base spare held n 147 cs=some (D,Pl)):∃ r:PropD,RepRow (heapG W) r.dat cs∧szR r.dat+1≤8*Rows.uptoBulk D:=by
 obtain ⟨xs,m,hx,hl,hxl,hf⟩:=rd_struct sfProp h
 match cs,hl,xs,hxl with
 | [c0,c1],_,[y0,y1],_ =>
  have h0:=hf 0 _ _ _ rfl;have h1:=hf 1 _ _ _ rfl;obtain ⟨k0,e0,d0,-⟩:=DataW.trod_int Tryz.underlying3 h0;obtain ⟨k1,e1,d1,-⟩:=DataW.trod_int Tryz.underlying3 h1
  simp at e0 e1
  subst e0 e1
  simp only at hx
  refine ⟨⟨k0,k1⟩,?_,?_⟩
  ·simp [RepRow,PropD.dat,RepV,Value.oneCell']
  rw [hx];simp [d0,d1,PropD.dat,szR,szD,Rows.uptoBulk,Rows.uptoBulkAll]
theorem sfDel:StF Tryz.prog 150 2 [(3,0,1),(3,1,1)]:=⟨by kernel_rfl,by kernel_rfl,by kernel_rfl⟩
theorem rd_del {n:Nat} {cs:List Value} {D:DataW H} {Pl:List MemPlace} (h:DataW.trod enc Tryz.prog W base spare held n 150 cs=some (D,Pl)):∃ r:DelD,RepRow (heapG W) r.dat cs∧szR r.dat+1≤8*Rows.uptoBulk D:=by
 obtain ⟨xs,m,hx,hl,hxl,hf⟩:=rd_struct sfDel h
 match cs,hl,xs,hxl with
 | [c0,c1],_,[y0,y1],_ =>
  have h0:=hf 0 _ _ _ rfl;have h1:=hf 1 _ _ _ rfl;obtain ⟨k0,e0,d0,-⟩:=DataW.trod_int Tryz.underlying3 h0;obtain ⟨k1,e1,d1,-⟩:=DataW.trod_int Tryz.underlying3 h1
  simp at e0 e1
  subst e0 e1
  simp only at hx
  refine ⟨⟨k0,k1⟩,?_,?_⟩
  ·simp [RepRow,DelD.dat,RepV,Value.oneCell']
  rw [hx];simp [d0,d1,DelD.dat,szR,szD,Rows.uptoBulk,Rows.uptoBulkAll]
theorem sfLayer:StF Tryz.prog 178 4 [(3,0,1),(3,1,1),(3,2,1),(4,3,1)]:=⟨by kernel_rfl,by kernel_rfl,by kernel_rfl⟩
theorem rd_layer {n:Nat} {cs:List Value} {D:DataW H} {Pl:List MemPlace} (h:DataW.trod enc Tryz.prog W base spare held n 178 cs=some (D,Pl)):∃ r:LayerD,RepRow (heapG W) r.dat cs∧szR r.dat+1≤8*Rows.uptoBulk D:=by
 obtain ⟨xs,m,hx,hl,hxl,hf⟩:=rd_struct sfLayer h
 match cs,hl,xs,hxl with
 | [c0,c1,c2,c3],_,[y0,y1,y2,y3],_ =>
  have h0:=hf 0 _ _ _ rfl;have h1:=hf 1 _ _ _ rfl;have h2:=hf 2 _ _ _ rfl;have h3:=hf 3 _ _ _ rfl;obtain ⟨k0,e0,d0,-⟩:=DataW.trod_int Tryz.underlying3 h0;obtain ⟨k1,e1,d1,-⟩:=DataW.trod_int Tryz.underlying3 h1;obtain ⟨k2,e2,d2,-⟩:=DataW.trod_int Tryz.underlying3 h2;obtain ⟨k3,e3,d3⟩:=DataW.trod_bool Tryz.underlying4 h3
  simp at e0 e1 e2 e3
  subst e0 e1 e2 e3
  simp only at hx
  refine ⟨⟨k0,k1,k2,k3⟩,?_,?_⟩
  ·simp [RepRow,LayerD.dat,RepV,Value.oneCell']
  rw [hx];simp [d0,d1,d2,d3,LayerD.dat,szR,szD,Rows.uptoBulk,Rows.uptoBulkAll]
theorem sfMarks:StF Tryz.prog 27 4 [(3,0,1),(3,1,1),(24,2,1),(25,3,1)]:=⟨by kernel_rfl,by kernel_rfl,by kernel_rfl⟩
theorem sfHead:StF Tryz.prog 29 5 [(23,0,1),(27,1,4)]:=⟨by kernel_rfl,by kernel_rfl,by kernel_rfl⟩
theorem cellsProp:Tryz.prog.cellsOf 147=2:=by kernel_rfl
theorem cellsDel:Tryz.prog.cellsOf 150=2:=by kernel_rfl
theorem cellsLayer:Tryz.prog.cellsOf 178=4:=by kernel_rfl
/-- A head among other cells. -/
theorem rd_head {n:Nat} {cs:List Value} {x:DataW H × List MemPlace} (h:DataW.trod enc Tryz.prog W base spare held n 29 cs=some x):∃ (r:HeadD) (p d l:Value),cs=[p,vi r.marks.ins,vi r.marks.move,d,l]∧HeadR (heapG W) r p d l∧zHead r+15≤8*Rows.uptoBulk x.1:=by
 obtain ⟨xs,m,hx,hl,hxl,hf⟩:=rd_struct sfHead h
 match cs,hl,xs,hxl with
 | [c0,c1,c2,c3,c4],_,[y0,y1],_ =>
  have h0:=hf 0 _ _ _ rfl;have h1:=hf 1 _ _ _ rfl;obtain ⟨ps,pv,e0,rp,sp⟩:=rd_slice (dat:=PropD.dat) (sz:=2) (by omega) Tryz.underlying23 cellsProp h0 (fun n cs' D Pl hh _=>rd_prop hh);obtain ⟨zs,m2,hz,hzl,hzx,hzf⟩:=rd_struct sfMarks h1
  match zs,hzx with
  | [z0,z1,z2,z3],_ =>
   have g0:=hzf 0 _ _ _ rfl;have g1:=hzf 1 _ _ _ rfl;have g2:=hzf 2 _ _ _ rfl;have g3:=hzf 3 _ _ _ rfl;obtain ⟨k0,e1,d0,-⟩:=DataW.trod_int Tryz.underlying3 g0;obtain ⟨k1,e2,d1,-⟩:=DataW.trod_int Tryz.underlying3 g1;obtain ⟨ds,dv,e3,rd,sd⟩:=rd_slice (dat:=DelD.dat) (sz:=2) (by omega) Tryz.underlying24 cellsDel g2 (fun n cs' D Pl hh _=>rd_del hh);obtain ⟨ls,lv,e4,rl,sl⟩:=rd_slice (dat:=LayerD.dat) (sz:=4) (by omega) Tryz.underlying25 cellsLayer g3 (fun n cs' D Pl hh _=>rd_layer hh)
   simp at e0 e1 e2 e3 e4
   subst e0 e1 e2 e3 e4;refine ⟨⟨ps,⟨k0,k1,ds,ls⟩⟩,_,_,_,rfl,⟨rp,rd,rl⟩,?_⟩;have hzh:=zHead_eq ⟨ps,⟨k0,k1,ds,ls⟩⟩
   simp only at hzh
   rw [hx]
   simp only [List.map_cons,List.map_nil,Rows.uptoBulk,Rows.uptoBulkAll,hz,d0,d1]
   omega
theorem sfItem:StF Tryz.prog 85 11 [(3,0,1),(3,1,1),(3,2,1),(9,3,1),(29,4,5),(22,9,1),(83,10,1)]:=⟨by kernel_rfl,by kernel_rfl,by kernel_rfl⟩
theorem sfRow:StF Tryz.prog 88 6 [(29,0,5),(86,5,1)]:=⟨by kernel_rfl,by kernel_rfl,by kernel_rfl⟩
theorem sfCell:StF Tryz.prog 90 7 [(3,0,1),(29,1,5),(22,6,1)]:=⟨by kernel_rfl,by kernel_rfl,by kernel_rfl⟩
theorem cellsItem:Tryz.prog.cellsOf 85=11:=by kernel_rfl
theorem cellsRow:Tryz.prog.cellsOf 88=6:=by kernel_rfl
theorem cellsCell:Tryz.prog.cellsOf 90=7:=by kernel_rfl
theorem rd_item:∀ (N:Nat) (n:Nat) (cs:List Value) (D:DataW H) (Pl:List MemPlace),DataW.trod enc Tryz.prog W base spare held n 85 cs=some (D,Pl)→Rows.uptoBulk D < N→∃ r:ItemD,RepRow (heapG W) r.dat cs∧szR r.dat+1≤8*Rows.uptoBulk D
 | 0,_,_,_,_,_,hN=>absurd hN (by omega)
 | N+1,n,cs,D,Pl,h,hN=>by
  have ih:=rd_item N;obtain ⟨xs,m,hx,hl,hxl,hf⟩:=rd_struct sfItem h
  match cs,hl,xs,hxl with
  | [c0,c1,c2,c3,c4,c5,c6,c7,c8,c9,c10],_,[y0,y1,y2,y3,y4,y5,y6],_ =>
   have h0:=hf 0 _ _ _ rfl;have h1:=hf 1 _ _ _ rfl;have h2:=hf 2 _ _ _ rfl;have h3:=hf 3 _ _ _ rfl;have h4:=hf 4 _ _ _ rfl;have h5:=hf 5 _ _ _ rfl;have h6:=hf 6 _ _ _ rfl
   simp only at hx
   have hD:Rows.uptoBulk D=Rows.uptoBulk y0.1+(Rows.uptoBulk y1.1+(Rows.uptoBulk y2.1+(Rows.uptoBulk y3.1+(Rows.uptoBulk y4.1+(Rows.uptoBulk y5.1+(Rows.uptoBulk y6.1+0))))))+1:=by
    rw [hx];simp only [List.map_cons,List.map_nil,Rows.uptoBulk,Rows.uptoBulkAll]
   obtain ⟨k0,e0,d0,-⟩:=DataW.trod_int Tryz.underlying3 h0;obtain ⟨k1,e1,d1,-⟩:=DataW.trod_int Tryz.underlying3 h1;obtain ⟨k2,e2,d2,-⟩:=DataW.trod_int Tryz.underlying3 h2;obtain ⟨s,e3,d3,-⟩:=DataW.trod_string Tryz.underlying9 h3;obtain ⟨hd,p,d,l,e4,rh,sh⟩:=rd_head h4;obtain ⟨fl,fv,e5,rf,sf⟩:=rd_slice (dat:=ItemD.dat) (sz:=11) (by omega) Tryz.underlying22 cellsItem h5 (fun n cs' D' Pl' hh hlt=>ih n cs' D' Pl' hh (by omega))
   obtain ⟨rs,rv,e6,rr,sr⟩:=rd_slice (dat:=RowD.dat) (sz:=6) (by omega) Tryz.underlying83 cellsRow h6 (fun n cs' D' Pl' hh hlt=>by
    obtain ⟨xs,m,hx,hl,hxl,hf⟩:=rd_struct sfRow hh
    match cs',hl,xs,hxl with
    | [a0,a1,a2,a3,a4,a5],_,[w0,w1],_ =>
     have g0:=hf 0 _ _ _ rfl;have g1:=hf 1 _ _ _ rfl
     simp only at hx
     have hD':Rows.uptoBulk D'=Rows.uptoBulk w0.1+(Rows.uptoBulk w1.1+0)+1:=by
      rw [hx];simp only [List.map_cons,List.map_nil,Rows.uptoBulk,Rows.uptoBulkAll]
     obtain ⟨hd2,p2,d2',l2,q0,rh2,sh2⟩:=rd_head g0
     obtain ⟨cl,cv,q1,rc,sc⟩:=rd_slice (dat:=CellD.dat) (sz:=7) (by omega) Tryz.underlying86 cellsCell g1 (fun n cs'' D'' Pl'' hh2 hlt2=>by
      obtain ⟨xs,m,hx2,hl2,hxl2,hf2⟩:=rd_struct sfCell hh2
      match cs'',hl2,xs,hxl2 with
      | [b0,b1,b2,b3,b4,b5,b6],_,[v0,v1,v2],_ =>
       have u0:=hf2 0 _ _ _ rfl;have u1:=hf2 1 _ _ _ rfl;have u2:=hf2 2 _ _ _ rfl
       simp only at hx2
       have hD'':Rows.uptoBulk D''=Rows.uptoBulk v0.1+(Rows.uptoBulk v1.1+(Rows.uptoBulk v2.1+0))+1:=by
        rw [hx2];simp only [List.map_cons,List.map_nil,Rows.uptoBulk,Rows.uptoBulkAll]
       obtain ⟨j0,t0,z0,-⟩:=DataW.trod_int Tryz.underlying3 u0;obtain ⟨hd3,p3,d3',l3,t1,rh3,sh3⟩:=rd_head u1;obtain ⟨fl3,fv3,t2,rf3,sf3⟩:=rd_slice (dat:=ItemD.dat) (sz:=11) (by omega) Tryz.underlying22 cellsItem u2 (fun n cs3 D3 Pl3 hh3 hlt3=>ih n cs3 D3 Pl3 hh3 (by omega))
       simp at t0 t1 t2
       obtain ⟨rfl,rfl,rfl,rfl,rfl⟩:=t1;subst t0 t2;have hz:=zCell_eq (CellD.mk j0 hd3 fl3)
       simp only [CellD.head,CellD.flow] at hz
       have bz:Rows.uptoBulk v0.1=1:=by rw [z0];rfl
       exact ⟨CellD.mk j0 hd3 fl3,RepRow.mkCell (x:=CellD.mk j0 hd3 fl3) rh3 rf3,by simp only [zItems] at hz;omega⟩)
     simp at q0 q1
     obtain ⟨rfl,rfl,rfl,rfl,rfl⟩:=q0;subst q1;have hz:=zRow_eq (RowD.mk hd2 cl)
     simp only [RowD.head,RowD.cells] at hz
     exact ⟨RowD.mk hd2 cl,RepRow.mkRow (x:=RowD.mk hd2 cl) rh2 rc,by simp only [zCells] at hz;omega⟩)
   simp at e0 e1 e2 e3 e4 e5 e6
   obtain ⟨rfl,rfl,rfl,rfl,rfl⟩:=e4;subst e0 e1 e2 e3 e5 e6;have hz:=zItem_eq (ItemD.mk k0 k1 k2 s hd fl rs)
   simp only [ItemD.text,ItemD.head,ItemD.flow,ItemD.rows] at hz
   have b0:Rows.uptoBulk y0.1=1:=by rw [d0];rfl
   have b1:Rows.uptoBulk y1.1=1:=by rw [d1];rfl
   have b2:Rows.uptoBulk y2.1=1:=by rw [d2];rfl
   have b3:Rows.uptoBulk y3.1=s.size+1:=by rw [d3];show s.data.toList.length+1=s.data.size+1;rw [Array.length_toList]
   exact ⟨ItemD.mk k0 k1 k2 s hd fl rs,RepRow.mkItem (x:=ItemD.mk k0 k1 k2 s hd fl rs) rh rf rr,by simp only [zItems,zRows] at hz;omega⟩
/-- A flow that an argument brings. -/
theorem rd_items {n:Nat} {cs:List Value} {x:DataW H × List MemPlace} (h:DataW.trod enc Tryz.prog W base spare held n 22 cs=some x):∃ (l:List ItemD) (v:Value),cs=[v]∧RepV (heapG W) (.sl 11 (l.map ItemD.dat)) v∧zItems l+8≤8*Rows.uptoBulk x.1 :=
 rd_slice (dat:=ItemD.dat) (sz:=11) (by omega) Tryz.underlying22 cellsItem h (fun n cs' D' Pl' hh _=>rd_item _ n cs' D' Pl' hh (Nat.lt_succ_self _))
end
end
section
open Go.ChangeShapes Go.RowKit Go.Deep
theorem szRs_in {ρ:Type} {dat:ρ→List Dat}:∀ {l:List ρ} {x:ρ},x∈l→szR (dat x)+1≤szRs (l.map dat)
 | y :: l,x,h=>by
  rw [List.map_cons,szRs]
  rcases List.mem_cons.1 h with rfl|h
  ·omega
  have:=szRs_in (dat:=dat) h;omega
section
variable {H:Type} {enc:TypeId × Value→H} {W:World} {base:Nat} {spare:Nat→Bool} {held:Bool}
theorem sfStyle:StF Tryz.prog 141 6 [(3,0,1),(3,1,1),(9,2,1),(3,3,1),(3,4,1),(23,5,1)]:=⟨by kernel_rfl,by kernel_rfl,by kernel_rfl⟩
theorem cellsStyle:Tryz.prog.cellsOf 141=6:=by kernel_rfl
theorem rd_style {n:Nat} {cs:List Value} {D:DataW H} {Pl:List MemPlace} (h:DataW.trod enc Tryz.prog W base spare held n 141 cs=some (D,Pl)):∃ r:StyleD,RepRow (heapG W) r.dat cs∧szR r.dat+1≤8*Rows.uptoBulk D:=by
 obtain ⟨xs,m,hx,hl,hxl,hf⟩:=rd_struct sfStyle h
 match cs,hl,xs,hxl with
 | [c0,c1,c2,c3,c4,c5],_,[y0,y1,y2,y3,y4,y5],_ =>
  have h0:=hf 0 _ _ _ rfl;have h1:=hf 1 _ _ _ rfl;have h2:=hf 2 _ _ _ rfl;have h3:=hf 3 _ _ _ rfl;have h4:=hf 4 _ _ _ rfl;have h5:=hf 5 _ _ _ rfl
  simp only at hx
  have hD:Rows.uptoBulk D=Rows.uptoBulk y0.1+(Rows.uptoBulk y1.1+(Rows.uptoBulk y2.1+(Rows.uptoBulk y3.1+(Rows.uptoBulk y4.1+(Rows.uptoBulk y5.1+0)))))+1:=by rw [hx];simp only [List.map_cons,List.map_nil,Rows.uptoBulk,Rows.uptoBulkAll]
  obtain ⟨k0,e0,d0,-⟩:=DataW.trod_int Tryz.underlying3 h0;obtain ⟨k1,e1,d1,-⟩:=DataW.trod_int Tryz.underlying3 h1;obtain ⟨k2,e2,d2,-⟩:=DataW.trod_string Tryz.underlying9 h2;obtain ⟨k3,e3,d3,-⟩:=DataW.trod_int Tryz.underlying3 h3;obtain ⟨k4,e4,d4,-⟩:=DataW.trod_int Tryz.underlying3 h4;obtain ⟨k5,q5,e5,r5,d5⟩:=rd_slice (dat:=PropD.dat) (sz:=2) (by omega) Tryz.underlying23 cellsProp h5 (fun n cs' D Pl hh _=>rd_prop hh)
  simp at e0 e1 e2 e3 e4 e5
  subst e0 e1 e2 e3 e4 e5
  have b0:Rows.uptoBulk y0.1=1:=by rw [d0];rfl
  have b1:Rows.uptoBulk y1.1=1:=by rw [d1];rfl
  have b2:Rows.uptoBulk y2.1=k2.size+1:=by rw [d2];show k2.data.toList.length+1=k2.data.size+1;rw [Array.length_toList]
  have b3:Rows.uptoBulk y3.1=1:=by rw [d3];rfl
  have b4:Rows.uptoBulk y4.1=1:=by rw [d4];rfl
  refine ⟨⟨k0,k1,k2,k3,k4,k5⟩,?_,?_⟩
  ·exact ⟨_,_,rfl,(by simp [RepV,Value.oneCell']),⟨_,_,rfl,(by simp [RepV,Value.oneCell']),⟨_,_,rfl,(by simp [RepV,Value.oneCell']),⟨_,_,rfl,(by simp [RepV,Value.oneCell']),⟨_,_,rfl,(by simp [RepV,Value.oneCell']),⟨_,_,rfl,r5,rfl⟩⟩⟩⟩⟩⟩
  simp only [StyleD.dat,szR,szD];omega
theorem sfLv:StF Tryz.prog 193 4 [(3,0,1),(3,1,1),(9,2,1),(3,3,1)]:=⟨by kernel_rfl,by kernel_rfl,by kernel_rfl⟩
theorem cellsLv:Tryz.prog.cellsOf 193=4:=by kernel_rfl
theorem rd_level {n:Nat} {cs:List Value} {D:DataW H} {Pl:List MemPlace} (h:DataW.trod enc Tryz.prog W base spare held n 193 cs=some (D,Pl)):∃ r:LvD,RepRow (heapG W) r.dat cs∧szR r.dat+1≤8*Rows.uptoBulk D:=by
 obtain ⟨xs,m,hx,hl,hxl,hf⟩:=rd_struct sfLv h
 match cs,hl,xs,hxl with
 | [c0,c1,c2,c3],_,[y0,y1,y2,y3],_ =>
  have h0:=hf 0 _ _ _ rfl;have h1:=hf 1 _ _ _ rfl;have h2:=hf 2 _ _ _ rfl;have h3:=hf 3 _ _ _ rfl
  simp only at hx
  have hD:Rows.uptoBulk D=Rows.uptoBulk y0.1+(Rows.uptoBulk y1.1+(Rows.uptoBulk y2.1+(Rows.uptoBulk y3.1+0)))+1:=by rw [hx];simp only [List.map_cons,List.map_nil,Rows.uptoBulk,Rows.uptoBulkAll]
  obtain ⟨k0,e0,d0,-⟩:=DataW.trod_int Tryz.underlying3 h0;obtain ⟨k1,e1,d1,-⟩:=DataW.trod_int Tryz.underlying3 h1;obtain ⟨k2,e2,d2,-⟩:=DataW.trod_string Tryz.underlying9 h2;obtain ⟨k3,e3,d3,-⟩:=DataW.trod_int Tryz.underlying3 h3
  simp at e0 e1 e2 e3
  subst e0 e1 e2 e3
  have b0:Rows.uptoBulk y0.1=1:=by rw [d0];rfl
  have b1:Rows.uptoBulk y1.1=1:=by rw [d1];rfl
  have b2:Rows.uptoBulk y2.1=k2.size+1:=by rw [d2];show k2.data.toList.length+1=k2.data.size+1;rw [Array.length_toList]
  have b3:Rows.uptoBulk y3.1=1:=by rw [d3];rfl
  refine ⟨⟨k0,k1,k2,k3⟩,?_,?_⟩
  ·exact ⟨_,_,rfl,(by simp [RepV,Value.oneCell']),⟨_,_,rfl,(by simp [RepV,Value.oneCell']),⟨_,_,rfl,(by simp [RepV,Value.oneCell']),⟨_,_,rfl,(by simp [RepV,Value.oneCell']),rfl⟩⟩⟩⟩
  simp only [LvD.dat,szR,szD];omega
theorem sfLi:StF Tryz.prog 144 2 [(3,0,1),(142,1,1)]:=⟨by kernel_rfl,by kernel_rfl,by kernel_rfl⟩
theorem cellsLi:Tryz.prog.cellsOf 144=2:=by kernel_rfl
theorem rd_list {n:Nat} {cs:List Value} {D:DataW H} {Pl:List MemPlace} (h:DataW.trod enc Tryz.prog W base spare held n 144 cs=some (D,Pl)):∃ r:LiD,RepRow (heapG W) r.dat cs∧szR r.dat+1≤8*Rows.uptoBulk D:=by
 obtain ⟨xs,m,hx,hl,hxl,hf⟩:=rd_struct sfLi h
 match cs,hl,xs,hxl with
 | [c0,c1],_,[y0,y1],_ =>
  have h0:=hf 0 _ _ _ rfl;have h1:=hf 1 _ _ _ rfl
  simp only at hx
  have hD:Rows.uptoBulk D=Rows.uptoBulk y0.1+(Rows.uptoBulk y1.1+0)+1:=by rw [hx];simp only [List.map_cons,List.map_nil,Rows.uptoBulk,Rows.uptoBulkAll]
  obtain ⟨k0,e0,d0,-⟩:=DataW.trod_int Tryz.underlying3 h0;obtain ⟨k1,q1,e1,r1,d1⟩:=rd_slice (dat:=LvD.dat) (sz:=4) (by omega) Tryz.underlying142 cellsLv h1 (fun n cs' D Pl hh _=>rd_level hh)
  simp at e0 e1
  subst e0 e1
  have b0:Rows.uptoBulk y0.1=1:=by rw [d0];rfl
  refine ⟨⟨k0,k1⟩,?_,?_⟩
  ·exact ⟨_,_,rfl,(by simp [RepV,Value.oneCell']),⟨_,_,rfl,r1,rfl⟩⟩
  simp only [LiD.dat,szR,szD];omega
theorem sfCm:StF Tryz.prog 170 6 [(3,0,1),(3,1,1),(9,2,1),(3,3,1),(9,4,1),(4,5,1)]:=⟨by kernel_rfl,by kernel_rfl,by kernel_rfl⟩
theorem cellsCm:Tryz.prog.cellsOf 170=6:=by kernel_rfl
theorem rd_comment {n:Nat} {cs:List Value} {D:DataW H} {Pl:List MemPlace} (h:DataW.trod enc Tryz.prog W base spare held n 170 cs=some (D,Pl)):∃ r:CmD,RepRow (heapG W) r.dat cs∧szR r.dat+1≤8*Rows.uptoBulk D:=by
 obtain ⟨xs,m,hx,hl,hxl,hf⟩:=rd_struct sfCm h
 match cs,hl,xs,hxl with
 | [c0,c1,c2,c3,c4,c5],_,[y0,y1,y2,y3,y4,y5],_ =>
  have h0:=hf 0 _ _ _ rfl;have h1:=hf 1 _ _ _ rfl;have h2:=hf 2 _ _ _ rfl;have h3:=hf 3 _ _ _ rfl;have h4:=hf 4 _ _ _ rfl;have h5:=hf 5 _ _ _ rfl
  simp only at hx
  have hD:Rows.uptoBulk D=Rows.uptoBulk y0.1+(Rows.uptoBulk y1.1+(Rows.uptoBulk y2.1+(Rows.uptoBulk y3.1+(Rows.uptoBulk y4.1+(Rows.uptoBulk y5.1+0)))))+1:=by rw [hx];simp only [List.map_cons,List.map_nil,Rows.uptoBulk,Rows.uptoBulkAll]
  obtain ⟨k0,e0,d0,-⟩:=DataW.trod_int Tryz.underlying3 h0;obtain ⟨k1,e1,d1,-⟩:=DataW.trod_int Tryz.underlying3 h1;obtain ⟨k2,e2,d2,-⟩:=DataW.trod_string Tryz.underlying9 h2;obtain ⟨k3,e3,d3,-⟩:=DataW.trod_int Tryz.underlying3 h3;obtain ⟨k4,e4,d4,-⟩:=DataW.trod_string Tryz.underlying9 h4;obtain ⟨k5,e5,d5⟩:=DataW.trod_bool Tryz.underlying4 h5
  simp at e0 e1 e2 e3 e4 e5
  subst e0 e1 e2 e3 e4 e5
  have b0:Rows.uptoBulk y0.1=1:=by rw [d0];rfl
  have b1:Rows.uptoBulk y1.1=1:=by rw [d1];rfl
  have b2:Rows.uptoBulk y2.1=k2.size+1:=by rw [d2];show k2.data.toList.length+1=k2.data.size+1;rw [Array.length_toList]
  have b3:Rows.uptoBulk y3.1=1:=by rw [d3];rfl
  have b4:Rows.uptoBulk y4.1=k4.size+1:=by rw [d4];show k4.data.toList.length+1=k4.data.size+1;rw [Array.length_toList]
  have b5:Rows.uptoBulk y5.1=1:=by rw [d5];rfl
  refine ⟨⟨k0,k1,k2,k3,k4,k5⟩,?_,?_⟩
  ·exact ⟨_,_,rfl,(by simp [RepV,Value.oneCell']),⟨_,_,rfl,(by simp [RepV,Value.oneCell']),⟨_,_,rfl,(by simp [RepV,Value.oneCell']),⟨_,_,rfl,(by simp [RepV,Value.oneCell']),⟨_,_,rfl,(by simp [RepV,Value.oneCell']),⟨_,_,rfl,(by simp [RepV,Value.oneCell']),rfl⟩⟩⟩⟩⟩⟩
  simp only [CmD.dat,szR,szD];omega
theorem sfVa:StF Tryz.prog 175 2 [(9,0,1),(9,1,1)]:=⟨by kernel_rfl,by kernel_rfl,by kernel_rfl⟩
theorem cellsVa:Tryz.prog.cellsOf 175=2:=by kernel_rfl
theorem rd_var {n:Nat} {cs:List Value} {D:DataW H} {Pl:List MemPlace} (h:DataW.trod enc Tryz.prog W base spare held n 175 cs=some (D,Pl)):∃ r:VaD,RepRow (heapG W) r.dat cs∧szR r.dat+1≤8*Rows.uptoBulk D:=by
 obtain ⟨xs,m,hx,hl,hxl,hf⟩:=rd_struct sfVa h
 match cs,hl,xs,hxl with
 | [c0,c1],_,[y0,y1],_ =>
  have h0:=hf 0 _ _ _ rfl;have h1:=hf 1 _ _ _ rfl
  simp only at hx
  have hD:Rows.uptoBulk D=Rows.uptoBulk y0.1+(Rows.uptoBulk y1.1+0)+1:=by rw [hx];simp only [List.map_cons,List.map_nil,Rows.uptoBulk,Rows.uptoBulkAll]
  obtain ⟨k0,e0,d0,-⟩:=DataW.trod_string Tryz.underlying9 h0;obtain ⟨k1,e1,d1,-⟩:=DataW.trod_string Tryz.underlying9 h1
  simp at e0 e1
  subst e0 e1
  have b0:Rows.uptoBulk y0.1=k0.size+1:=by rw [d0];show k0.data.toList.length+1=k0.data.size+1;rw [Array.length_toList]
  have b1:Rows.uptoBulk y1.1=k1.size+1:=by rw [d1];show k1.data.toList.length+1=k1.data.size+1;rw [Array.length_toList]
  refine ⟨⟨k0,k1⟩,?_,?_⟩
  ·exact ⟨_,_,rfl,(by simp [RepV,Value.oneCell']),⟨_,_,rfl,(by simp [RepV,Value.oneCell']),rfl⟩⟩
  simp only [VaD.dat,szR,szD];omega
theorem sfRv:StF Tryz.prog 135 3 [(3,0,1),(9,1,1),(3,2,1)]:=⟨by kernel_rfl,by kernel_rfl,by kernel_rfl⟩
theorem cellsRv:Tryz.prog.cellsOf 135=3:=by kernel_rfl
theorem rd_rev {n:Nat} {cs:List Value} {D:DataW H} {Pl:List MemPlace} (h:DataW.trod enc Tryz.prog W base spare held n 135 cs=some (D,Pl)):∃ r:RvD,RepRow (heapG W) r.dat cs∧szR r.dat+1≤8*Rows.uptoBulk D:=by
 obtain ⟨xs,m,hx,hl,hxl,hf⟩:=rd_struct sfRv h
 match cs,hl,xs,hxl with
 | [c0,c1,c2],_,[y0,y1,y2],_ =>
  have h0:=hf 0 _ _ _ rfl;have h1:=hf 1 _ _ _ rfl;have h2:=hf 2 _ _ _ rfl
  simp only at hx
  have hD:Rows.uptoBulk D=Rows.uptoBulk y0.1+(Rows.uptoBulk y1.1+(Rows.uptoBulk y2.1+0))+1:=by rw [hx];simp only [List.map_cons,List.map_nil,Rows.uptoBulk,Rows.uptoBulkAll]
  obtain ⟨k0,e0,d0,-⟩:=DataW.trod_int Tryz.underlying3 h0;obtain ⟨k1,e1,d1,-⟩:=DataW.trod_string Tryz.underlying9 h1;obtain ⟨k2,e2,d2,-⟩:=DataW.trod_int Tryz.underlying3 h2
  simp at e0 e1 e2
  subst e0 e1 e2
  have b0:Rows.uptoBulk y0.1=1:=by rw [d0];rfl
  have b1:Rows.uptoBulk y1.1=k1.size+1:=by rw [d1];show k1.data.toList.length+1=k1.data.size+1;rw [Array.length_toList]
  have b2:Rows.uptoBulk y2.1=1:=by rw [d2];rfl
  refine ⟨⟨k0,k1,k2⟩,?_,?_⟩
  ·exact ⟨_,_,rfl,(by simp [RepV,Value.oneCell']),⟨_,_,rfl,(by simp [RepV,Value.oneCell']),⟨_,_,rfl,(by simp [RepV,Value.oneCell']),rfl⟩⟩⟩
  simp only [RvD.dat,szR,szD];omega
theorem sfStg:StF Tryz.prog 36 4 [(31,0,1),(32,1,1),(33,2,1),(34,3,1)]:=⟨by kernel_rfl,by kernel_rfl,by kernel_rfl⟩
/-- Sizes of settings that were read. -/
structure StgB (s:StgD) (n:Nat):Prop where
 st:szRs (s.styles.map StyleD.dat)≤n
 li:szRs (s.lists.map LiD.dat)≤n
 cm:szRs (s.comments.map CmD.dat)≤n
 va:szRs (s.vars.map VaD.dat)≤n
theorem StgB.zn {s:StgD} {n:Nat} (h:StgB s n) (hn:n≤4294967296):StgZ s∧s.styles.length≤4294967296:=by
 obtain ⟨h1,h2,h3,h4⟩:=h;have l1:=szRs_length (s.styles.map StyleD.dat);have l2:=szRs_length (s.lists.map LiD.dat);have l3:=szRs_length (s.comments.map CmD.dat);have l4:=szRs_length (s.vars.map VaD.dat);rw [List.length_map] at l1 l2 l3 l4;refine ⟨⟨fun x hx=>?_,by omega,fun x hx y hy=>?_,by omega,fun x hx=>?_,by omega,fun x hx=>?_⟩,by omega⟩
 ·have:=szRs_in (dat:=StyleD.dat) hx
  simp only [StyleD.dat,szR,szD] at this;omega
 ·have:=szRs_in (dat:=LiD.dat) hx
  simp only [LiD.dat,szR,szD] at this
  have h5:=szRs_in (dat:=LvD.dat) hy
  simp only [LvD.dat,szR,szD] at h5;omega
 ·have:=szRs_in (dat:=CmD.dat) hx
  simp only [CmD.dat,szR,szD] at this;omega
 have:=szRs_in (dat:=VaD.dat) hx
 simp only [VaD.dat,szR,szD] at this;omega
/-- Settings among other cells. -/
theorem rd_stg {n:Nat} {cs:List Value} {x:DataW H × List MemPlace} (h:DataW.trod enc Tryz.prog W base spare held n 36 cs=some x):∃ (s:StgD) (a b c d:Value),cs=[a,b,c,d]∧StgR (heapG W) s a b c d∧StgB s (8*Rows.uptoBulk x.1):=by
 obtain ⟨xs,m,hx,hl,hxl,hf⟩:=rd_struct sfStg h
 match cs,hl,xs,hxl with
 | [c0,c1,c2,c3],_,[y0,y1,y2,y3],_ =>
  have h0:=hf 0 _ _ _ rfl;have h1:=hf 1 _ _ _ rfl;have h2:=hf 2 _ _ _ rfl;have h3:=hf 3 _ _ _ rfl;obtain ⟨k0,q0,e0,r0,d0⟩:=rd_slice (dat:=StyleD.dat) (sz:=6) (by omega) Tryz.underlying31 cellsStyle h0 (fun n cs' D Pl hh _=>rd_style hh);obtain ⟨k1,q1,e1,r1,d1⟩:=rd_slice (dat:=LiD.dat) (sz:=2) (by omega) Tryz.underlying32 cellsLi h1 (fun n cs' D Pl hh _=>rd_list hh);obtain ⟨k2,q2,e2,r2,d2⟩:=rd_slice (dat:=CmD.dat) (sz:=6) (by omega) Tryz.underlying33 cellsCm h2 (fun n cs' D Pl hh _=>rd_comment hh);obtain ⟨k3,q3,e3,r3,d3⟩:=rd_slice (dat:=VaD.dat) (sz:=2) (by omega) Tryz.underlying34 cellsVa h3 (fun n cs' D Pl hh _=>rd_var hh)
  simp at e0 e1 e2 e3
  subst e0 e1 e2 e3
  have hD:Rows.uptoBulk x.1=Rows.uptoBulk y0.1+(Rows.uptoBulk y1.1+(Rows.uptoBulk y2.1+(Rows.uptoBulk y3.1+0)))+1:=by rw [hx];simp only [List.map_cons,List.map_nil,Rows.uptoBulk,Rows.uptoBulkAll]
  exact ⟨⟨k0,k1,k2,k3⟩,_,_,_,_,rfl,⟨r0,r1,r2,r3⟩,⟨by show szRs (k0.map _)≤_;omega,by show szRs (k1.map _)≤_;omega,by show szRs (k2.map _)≤_;omega,by show szRs (k3.map _)≤_;omega⟩⟩
theorem sfDoc:StF Tryz.prog 38 11 [(22,0,1),(29,1,5),(30,6,1),(36,7,4)]:=⟨by kernel_rfl,by kernel_rfl,by kernel_rfl⟩
theorem sl_of {G:GH} {sz:Nat} {rs:List (List Dat)} {v:Value} (h:RepV G (.sl sz rs) v):∃ x,v=sl3 x:=by
 obtain ⟨a,n,c,rfl⟩:=h.form;exact ⟨(a,n,c),rfl⟩
/-- A document that an argument brings. -/
theorem rd_doc {n:Nat} {cs:List Value} {x:DataW H × List MemPlace} (h:DataW.trod enc Tryz.prog W base spare held n 38 cs=some x) (hb:Rows.uptoBulk x.1≤1048576):∃ (D:DocV) (d:DocD),cs=D.cells∧DocR (heapG W) D d∧DocZ d:=by
 obtain ⟨xs,m,hx,hl,hxl,hf⟩:=rd_struct sfDoc h
 match cs,hl,xs,hxl with
 | [c0,c1,c2,c3,c4,c5,c6,c7,c8,c9,c10],_,[y0,y1,y2,y3],_ =>
  have h0:=hf 0 _ _ _ rfl;have h1:=hf 1 _ _ _ rfl;have h2:=hf 2 _ _ _ rfl;have h3:=hf 3 _ _ _ rfl;obtain ⟨l,q0,e0,r0,d0⟩:=rd_items h0;obtain ⟨hd,p,dd,ll,e1,r1,d1⟩:=rd_head h1;obtain ⟨rv,q2,e2,r2,d2⟩:=rd_slice (dat:=RvD.dat) (sz:=3) (by omega) Tryz.underlying30 cellsRv h2 (fun n cs' D Pl hh _=>rd_rev hh);obtain ⟨s,a,b,c,d,e3,r3,d3⟩:=rd_stg h3
  simp at e0 e1 e2 e3
  obtain ⟨rfl,rfl,rfl,rfl,rfl⟩:=e1;obtain ⟨rfl,rfl,rfl,rfl⟩:=e3;subst e0 e2
  have hD:Rows.uptoBulk x.1=Rows.uptoBulk y0.1+(Rows.uptoBulk y1.1+(Rows.uptoBulk y2.1+(Rows.uptoBulk y3.1+0)))+1:=by rw [hx];simp only [List.map_cons,List.map_nil,Rows.uptoBulk,Rows.uptoBulkAll]
  obtain ⟨x0,rfl⟩:=sl_of r0;obtain ⟨x1,rfl⟩:=sl_of r1.props;obtain ⟨x2,rfl⟩:=sl_of r1.dels;obtain ⟨x3,rfl⟩:=sl_of r1.layers;obtain ⟨x4,rfl⟩:=sl_of r2;obtain ⟨x5,rfl⟩:=sl_of r3.st;obtain ⟨x6,rfl⟩:=sl_of r3.li;obtain ⟨x7,rfl⟩:=sl_of r3.cm;obtain ⟨x8,rfl⟩:=sl_of r3.va;obtain ⟨hz1,hz2⟩:=d3.zn (by omega);have l2:=szRs_length (rv.map RvD.dat);rw [List.length_map] at l2;refine ⟨⟨x0,x1,x2,x3,x4,x5,x6,x7,x8,hd.marks.ins,hd.marks.move⟩,⟨l,hd,rv,s⟩,rfl,⟨r0,r1,rfl,rfl,r2,r3⟩,⟨by show zItems l≤_;omega,by show zHead hd≤_;omega,by show rv.length≤_;omega,fun x hx=>?_,hz2,hz1⟩⟩;have:=szRs_in (dat:=RvD.dat) hx
  simp only [RvD.dat,szR,szD] at this
  omega
end
end
end Go.Proofs.YthichnnlceeofaaGreat
