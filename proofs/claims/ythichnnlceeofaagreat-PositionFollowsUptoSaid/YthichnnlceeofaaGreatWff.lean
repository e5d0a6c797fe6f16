/-
  What the claim stands on, part 6: The examples of layer 15 hold. The law of positions: what Count, Of and Index give. The law of positions: the errors. Package position: Compare, near, Follow, Precede. The law of positions: their order. The law of positions: their neighbours. From what the form reads to documents in memory. From what the form reads to settings and documents in memory.
-/
import Derived.Test.YthichnnlceeofaaGreatWfe
import Derived.ProofKit
import Derived.Deep.Slices
import Derived.Laws.StructEq
namespace Go.Proofs.YthichnnlceeofaaGreat
section
open Go.RowKit
theorem en25kn:∀ args w,(callFunc 25 args).run Tryz.prog w=.ok (.enter 25 args) w:=enters Tryz.func25 rfl (by kernel_rfl)
theorem en13kn:∀ args w,(callFunc 13 args).run Tryz.prog w=.ok (.enter 13 args) w:=enters Tryz.func13 rfl (by kernel_rfl)
theorem en12kn:∀ args w,(callFunc 12 args).run Tryz.prog w=.ok (.enter 12 args) w:=enters Tryz.func12 rfl (by kernel_rfl)
theorem en19kn:∀ args w,(callFunc 19 args).run Tryz.prog w=.ok (.enter 19 args) w:=enters Tryz.func19 rfl (by kernel_rfl)
theorem en11kn:∀ args w,(callFunc 11 args).run Tryz.prog w=.ok (.enter 11 args) w:=enters Tryz.func11 rfl (by kernel_rfl)
theorem known15 (G:GH) (w0:World) (hG:Hold G w0):Calls Tryz.prog 8 #[] w0 (Ret w0 G fun u G'=>u=.bool true):=by
 refine eN [] Tryz.func8 rfl Tryz.ntmps8 rfl rfl hG ?_;intro a H;refine kP H (SR fun _ K1=>Ra rfl (Kz K1 (SR fun _ K2=>?_)));clear H K1;intro a H;refine s_call en25kn H wn rfl (example_spec _ _ H.hp.ro) rfl ?_;clear H;rintro v10 G10 a w ⟨D,rfl,hv⟩ hm10 H;refine s_alloc ty38pq H wn rfl ?_;clear H;intro b1 a w hb1 H;refine s_store ty38pq 0 (vs:=[_,_,_,_,_,_,_,_,_,_,_]) _ H wn rfl rfl rfl rfl rfl rfl rfl rfl ?_;clear H;intro w H;dsimp only [List.set,setRow] at H;refine K2 _ _ ?_;clear K2;refine c_seqR (fun _ K3=>?_);refine s_loada ty38pq (cs:=[_,_,_,_,_,_,_,_,_,_,_]) H wn rfl rfl (H.hp.ocells 0 rfl rfl) rfl ?_;clear H;intro a H;refine s_build sr45pos [_,_] H wn rfl rfl rfl rfl ?_;clear H;intro a H;refine s_call en13kn H wn rfl (index_spec _ _ H.hp.ro D exL 4 1 hv exZ) rfl ?_;clear H;rintro v14 G14 a w rfl hm14 H;rw [exIx] at H;replace hv:=hv.mono hm14;refine kH H (Rm rfl ?_);clear H;intro a H;(iterate 2 refine s_extract H wn rfl rfl rfl ?_;clear H;intro a H);refine kH H (Ra rfl (Ra rfl (Kz K3 (SR fun _ K4=>?_))));clear H K3;intro a H;refine s_loada ty38pq (cs:=[_,_,_,_,_,_,_,_,_,_,_]) H wn rfl rfl (H.hp.ocells 0 rfl rfl) rfl ?_;clear H;intro a H;refine s_call en12kn H wn rfl (of_pos _ _ H.hp.ro D exL 5 hv exZ) rfl ?_;clear H;rintro v19 G19 a w rfl hm19 H;rw [exOf] at H;replace hv:=hv.mono hm19;refine kH H (Rm rfl ?_);clear H;intro a H;(iterate 2 refine s_extract H wn rfl rfl rfl ?_;clear H;intro a H);refine s_alloc ty45pq H wn rfl ?_;clear H;intro b4 a w hb4 H;refine s_store ty45pq 0 (vs:=[_,_]) _ H wn rfl rfl rfl rfl rfl rfl rfl rfl ?_;clear H;intro w H;dsimp only [List.set,setRow] at H;refine kH H (Ra rfl (Kz K4 (SR fun _ K5=>?_)));clear H K4;intro a H;refine s_loada ty38pq (cs:=[_,_,_,_,_,_,_,_,_,_,_]) H wn rfl rfl (H.hp.ocells 1 rfl rfl) rfl ?_;clear H;intro a H;refine s_call en18pth H wn rfl (path_spec _ _ H.hp.ro D exL 4 hv exZ 2 (by omega) _ exPth (fun ps h=>by cases h;exact Nat.le_refl _)) rfl ?_;clear H;rintro v24 G24 a w ⟨v,rfl,hrep⟩ hm24 H;rw [exF4] at H hrep;replace hv:=hv.mono hm24;replace hrep:RepV G24 (.sl 2 ([((0,2):Int × Int)].map posD)) v:=hrep;obtain ⟨vA,vn,vc,rfl⟩:=hrep.form;obtain rfl:vn=1:=hrep.len;obtain ⟨b,o,cs,rfl,hcl,hrow,hr⟩:=hrep.at_ 0 (posD (0,2)) rfl;obtain rfl:=posD_row hr;refine kH H (Rm rfl ?_);clear H;intro a H;(iterate 2 refine s_extract H wn rfl rfl rfl ?_;clear H;intro a H);refine kH H (Ra rfl (Ra rfl (Kz K5 (SR fun _ K6=>?_))));clear H K5;intro a H;refine s_loada ty38pq (cs:=[_,_,_,_,_,_,_,_,_,_,_]) H wn rfl rfl (H.hp.ocells 1 rfl rfl) rfl ?_;clear H;intro a H;refine s_build sr45pos [_,_] H wn rfl rfl rfl rfl ?_;clear H;intro a H;refine s_call en19kn H wn rfl (lift_spec _ _ H.hp.ro D exL 4 1 0 hv exZ 2 (by omega) _ exPth (fun ps h=>by cases h;exact Nat.le_refl _)) rfl ?_;clear H;rintro v30 G30 a w rfl hm30 H
 have e:(if (flowOf exL 4).isSome=true then (some [((0,2):Int × Int)]).getD [] else [])=[(0,2)]:=by rw [exF4];rfl
 rw [e,exLi] at H;replace hv:=hv.mono hm30;replace hrow:=fun j u hj=>gcell_mono hm30 (hrow j u hj);refine kH H (Rm rfl ?_);clear H;intro a H;(iterate 2 refine s_extract H wn rfl rfl rfl ?_;clear H;intro a H);refine kH H (Ra rfl (Ra rfl (Kz K6 (SR fun _ K7=>Rm rfl (Rc rfl (Rm rfl ?_))))));clear H K6;intro a H;refine s_split H 35 rfl ?_ ?_
 ·intro h35
  try have p35:=dT h35
  refine kH H (YM h35 rfl (YC h35 rfl (Pt h35 rfl (Rm rfl ?_))));clear H;intro a H;refine s_split H 39 rfl ?_ ?_
  ·intro h39
   try have p39:=dT h39
   refine s_loada ty45pq (cs:=[_,_]) H (wg H rfl rfl h39) rfl rfl (H.hp.ocells 0 rfl rfl) rfl ?_;clear H;intro a H;refine s_build sr45pos [_,_] H (wg H rfl rfl h39) rfl rfl rfl rfl ?_;clear H;intro a H;refine s_eqagg eqi45idx H (wg H rfl rfl h39) rfl rfl rfl rfl ?_;clear H;intro a H;refine kH H (Pt h39 rfl (Rm rfl ?_));clear H;intro a H;refine s_split H 44 rfl ?_ ?_
   ·intro h44
    try have p44:=dT h44
    refine kH H (YM h44 rfl (YC h44 rfl (Pt h44 rfl (Rm rfl ?_))));clear H;intro a H;refine s_split H 48 rfl ?_ ?_
    ·intro h48
     try have p48:=dT h48
     refine kH H (YM h48 rfl (YL un41pth h48 rfl (YC h48 rfl (Pt h48 rfl (Rm rfl ?_)))));clear H;intro a H;refine s_split H 53 rfl ?_ ?_
     ·intro h53
      try have p53:=dT h53
      refine kH H (YM h53 rfl ?_);clear H;intro a H;refine s_index un41pth ty45pq 0 H (wg H rfl rfl h53) rfl rfl rfl (by omega) rfl ?_;clear H;intro a H;refine s_loada ty45pq (cs:=[_,_]) H (wg H rfl rfl h53) rfl rfl (fun j v hj=>H.hp.gcell (hrow j v hj)) rfl ?_;clear H;intro a H;refine s_build sr45pos [_,_] H (wg H rfl rfl h53) rfl rfl rfl rfl ?_;clear H;intro a H;refine s_eqagg eqi45idx H (wg H rfl rfl h53) rfl rfl rfl rfl ?_;clear H;intro a H;refine kH H (Pt h53 rfl (Rm rfl ?_));clear H;intro a H;refine s_split H 60 rfl ?_ ?_
      ·intro h60
       try have p60:=dT h60
       refine kH H (YM h60 rfl (YC h60 rfl (Pt h60 rfl (Rm rfl ?_))));clear H;intro a H;refine s_split H 64 rfl ?_ ?_
       ·intro h64
        try have p64:=dT h64
        refine kH H (YM h64 rfl (YC h64 rfl (Pt h64 rfl (Rm rfl ?_))));clear H;intro a H;refine s_split H 68 rfl ?_ ?_
        ·intro h68
         try have p68:=dT h68
         refine kH H (YM h68 rfl (Pt h68 rfl (Rm rfl ?_)));clear H;intro a H;refine s_split H 71 rfl ?_ ?_
         ·intro h71
          try have p71:=dT h71
          refine s_loada ty38pq (cs:=[_,_,_,_,_,_,_,_,_,_,_]) H (wg H rfl rfl h71) rfl rfl (H.hp.ocells 1 rfl rfl) rfl ?_;clear H;intro a H;refine s_call en11kn H (wg H rfl rfl h71) rfl (count_pos _ _ H.hp.ro D exL hv exZ) rfl ?_;clear H;rintro v73 G73 a w rfl hm73 H;rw [exN7] at H;refine kH H (YC h71 rfl (Pt h71 rfl (Ra rfl (Kz K7 ?_))));clear H K7;intro a H;refine lr H Tryz.results8 rfl ?_;exact H.hp.ret rfl
         intro h71
         try have p71:=dF h71
         exact absurd h71 (by decide)
        intro h68
        try have p68:=dF h68
        exact absurd h68 (by decide)
       intro h64
       try have p64:=dF h64
       exact absurd h64 (by decide)
      intro h60
      try have p60:=dF h60
      exact absurd h60 (by decide)
     intro h53
     try have p53:=dF h53
     exact absurd h53 (by decide)
    intro h48
    try have p48:=dF h48
    exact absurd h48 (by decide)
   intro h44
   try have p44:=dF h44
   exact absurd h44 (by decide)
  intro h39
  try have p39:=dF h39
  exact absurd h39 (by decide)
 intro h35
 try have p35:=dF h35
 exact absurd h35 (by decide)
end
section
open Go.RowKit
theorem en8pi15:∀ args w,(callFunc 8 args).run Tryz.prog w=.ok (.enter 8 args) w:=enters Tryz.func8 rfl (by kernel_rfl)
theorem en9pi15:∀ args w,(callFunc 9 args).run Tryz.prog w=.ok (.enter 9 args) w:=enters Tryz.func9 rfl (by kernel_rfl)
theorem en10pi15:∀ args w,(callFunc 10 args).run Tryz.prog w=.ok (.enter 10 args) w:=enters Tryz.func10 rfl (by kernel_rfl)
theorem eqs45pi15:EqS Tryz.prog 45 [(0,false),(1,false)]:=⟨by kernel_rfl,by kernel_rfl,by kernel_rfl,by kernel_rfl,by kernel_rfl⟩
theorem gc15 {G:GH} {b:Nat} {cs:List Value} {e:TypeId} {q:Nat × Nat} (h:G b=some (.cells cs.toArray e q)) (j:Nat) (v:Value) (hj:cs[j]?=some v):gcell G b (0+j)=some v:=by
 unfold gcell
 rw [h,Nat.zero_add]
 show cs.toArray[j]?=some v
 simpa using hj
end
section
open Go.RowKit
theorem en15pe15:∀ args w,(callFunc 15 args).run Tryz.prog w=.ok (.enter 15 args) w:=enters Tryz.func15 rfl (by kernel_rfl)
end
section
open Go.RowKit
theorem en37nr15:∀ args w,(callFunc 37 args).run Tryz.prog w=.ok (.enter 37 args) w:=enters Tryz.func37 rfl (by kernel_rfl)
theorem ix_bd (l:List ItemD) (f t:Int) (hz:zItems l≤1073741824):0≤(ixS l f t).1∧(ixS l f t).1≤1073741825:=by
 have hvl:=vItems_len 0 0 l
 unfold ixS
 split
 ·split
  ·rename_i i h
   rw [List.findIdx?_eq_some_iff_getElem] at h;obtain ⟨hi,-⟩:=h;exact ⟨Int.natCast_nonneg _,by dsimp only;omega⟩
  exact ⟨by decide,by decide⟩
 exact ⟨Int.le_refl _,by dsimp only;omega⟩
def nearS (l:List ItemD) (f t k:Int):(Int × Int) × Int:=if (ixS l f t).2≠0 then ((0,0),(ixS l f t).2) else ofS l ((ixS l f t).1+k)
theorem near_spec (G:GH) (w0:World) (hG:Hold G w0) (D:DocV) (l:List ItemD) (f t k:Int) (hv:RepV G (.sl 11 (l.map ItemD.dat)) (sl3 D.f)) (hz:zItems l≤1073741824) (hk:-1≤k∧k≤1) :
  Calls Tryz.prog 37 #[D.val,.agg #[vi f,vi t],vi k] w0 (Ret w0 G fun u G'=>u=.tuple #[.agg #[vi (nearS l f t k).1.1,vi (nearS l f t k).1.2],vi (nearS l f t k).2]):=by
 have hbd:=ix_bd l f t hz;refine eN [(0,_),(1,_),(2,_)] Tryz.func37 rfl Tryz.ntmps37 rfl rfl hG ?_;intro a H;refine c_seqR (fun _ K1=>?_);refine s_box (cs:=[_,_,_,_,_,_,_,_,_,_,_]) H wn rfl rfl rfl ?_;clear H;intro b3 a w hb3 H;refine s_box (cs:=[_,_]) H wn rfl rfl rfl ?_;clear H;intro b4 a w hb4 H;refine s_alloc ty45pq H wn rfl ?_;clear H;intro b6 a w hb6 H;refine kH H (Ra rfl (Kz K1 (SR fun _ K2=>?_)));clear H K1;intro a H;refine s_loada ty38pq (cs:=[_,_,_,_,_,_,_,_,_,_,_]) H wn rfl rfl (H.hp.ocells 2 rfl rfl) rfl ?_;clear H;intro a H;refine s_loada ty45pq (cs:=[_,_]) H wn rfl rfl (H.hp.ocells 1 rfl rfl) rfl ?_;clear H;intro a H;refine s_call en13kn H wn rfl (index_spec _ _ H.hp.ro D l f t hv (by omega)) rfl ?_;clear H;rintro v13 G13 a w rfl hm13 H;refine kH H (Rm rfl ?_);clear H;intro a H;(iterate 2 refine s_extract H wn rfl rfl rfl ?_;clear H;intro a H);refine kH H (Ra rfl (Ra rfl (Kz K2 (SQ fun _ K3=>SR fun _ K4=>Rm rfl (Rc rfl (Kz K4 ?_))))));clear H K2 K4;intro a H;refine c_cond H rfl ?_ ?_
 ·intro h17
  try have p17:=dT h17
  refine c_seqR (fun _ K5=>?_);refine s_build sr45pos [_,_] H wn rfl rfl rfl rfl ?_;clear H;intro a H;refine kH H (Rm rfl ?_);clear H;intro a H;refine s_store ty45pq 0 (vs:=[_,_]) _ H wn rfl rfl rfl rfl rfl rfl rfl rfl ?_;clear H;intro w H;dsimp only [List.set,setRow] at H;refine kH H (Ra rfl (Kz K5 ?_));clear H K5;intro a H;refine c_ret ?_;refine (leaveT H Tryz.results37 (.cons (rv_cella ty45pq (cs:=[_,_]) H rfl rfl (H.hp.ocells 0 rfl rfl)) (.cons (rv_tmp H rfl) .nil)) ?_).1;exact H.hp.ret (by rw [nearS,if_pos p17])
 intro h17
 try have p17:=dF h17
 refine c_skip ?_;refine K3 _ _ ?_;clear K3;refine c_seqR (fun _ K6=>?_);refine s_loada ty38pq (cs:=[_,_,_,_,_,_,_,_,_,_,_]) H wn rfl rfl (H.hp.ocells 2 rfl rfl) rfl ?_;clear H;intro a H;refine kH H (Rm rfl (Rm rfl (Rd rfl ?_)));clear H;intro a H;refine s_call en12kn H wn rfl (of_pos _ _ H.hp.ro D l ((ixS l f t).1+k) (hv.mono hm13) (by omega)) rfl ?_;clear H;rintro v24 G24 a w rfl hm24 H;(iterate 2 refine s_extract H wn rfl rfl rfl ?_;clear H;intro a H);refine s_store ty45pq 0 (vs:=[_,_]) _ H wn rfl rfl rfl rfl rfl rfl rfl rfl ?_;clear H;intro w H;dsimp only [List.set,setRow] at H;refine kH H (Ra rfl (Kz K6 ?_));clear H K6;intro a H;refine c_ret ?_;refine (leaveT H Tryz.results37 (.cons (rv_cella ty45pq (cs:=[_,_]) H rfl rfl (H.hp.ocells 0 rfl rfl)) (.cons (rv_tmp H rfl) .nil)) ?_).1;exact H.hp.ret (by rw [nearS,if_neg p17])
theorem follow_spec (G:GH) (w0:World) (hG:Hold G w0) (D:DocV) (l:List ItemD) (f t:Int) (hv:RepV G (.sl 11 (l.map ItemD.dat)) (sl3 D.f)) (hz:zItems l≤1073741824) :
  Calls Tryz.prog 21 #[D.val,.agg #[vi f,vi t]] w0 (Ret w0 G fun u G'=>u=.tuple #[.agg #[vi (nearS l f t 1).1.1,vi (nearS l f t 1).1.2],vi (nearS l f t 1).2]):=by
 refine eN [(0,_),(1,_)] Tryz.func21 rfl Tryz.ntmps21 rfl rfl hG ?_;intro a H;refine c_seqR (fun _ K1=>?_);refine s_box (cs:=[_,_,_,_,_,_,_,_,_,_,_]) H wn rfl rfl rfl ?_;clear H;intro b2 a w hb2 H;refine s_box (cs:=[_,_]) H wn rfl rfl rfl ?_;clear H;intro b3 a w hb3 H;refine s_alloc ty45pq H wn rfl ?_;clear H;intro b4 a w hb4 H;refine kH H (Ra rfl (Kz K1 (SR fun _ K2=>?_)));clear H K1;intro a H;refine s_loada ty38pq (cs:=[_,_,_,_,_,_,_,_,_,_,_]) H wn rfl rfl (H.hp.ocells 2 rfl rfl) rfl ?_;clear H;intro a H;refine s_loada ty45pq (cs:=[_,_]) H wn rfl rfl (H.hp.ocells 1 rfl rfl) rfl ?_;clear H;intro a H;refine s_call en37nr15 H wn rfl (near_spec _ _ H.hp.ro D l f t 1 hv hz (by decide)) rfl ?_;clear H;rintro v8 G8 a w rfl hm8 H;(iterate 2 refine s_extract H wn rfl rfl rfl ?_;clear H;intro a H);refine s_store ty45pq 0 (vs:=[_,_]) _ H wn rfl rfl rfl rfl rfl rfl rfl rfl ?_;clear H;intro w H;dsimp only [List.set,setRow] at H;refine kH H (Ra rfl (Kz K2 ?_));clear H K2;intro a H;refine c_ret ?_;refine (leaveT H Tryz.results21 (.cons (rv_cella ty45pq (cs:=[_,_]) H rfl rfl (H.hp.ocells 0 rfl rfl)) (.cons (rv_tmp H rfl) .nil)) ?_).1;exact H.hp.ret rfl
theorem precede_spec (G:GH) (w0:World) (hG:Hold G w0) (D:DocV) (l:List ItemD) (f t:Int) (hv:RepV G (.sl 11 (l.map ItemD.dat)) (sl3 D.f)) (hz:zItems l≤1073741824) :
  Calls Tryz.prog 22 #[D.val,.agg #[vi f,vi t]] w0 (Ret w0 G fun u G'=>u=.tuple #[.agg #[vi (nearS l f t (-1)).1.1,vi (nearS l f t (-1)).1.2],vi (nearS l f t (-1)).2]):=by
 refine eN [(0,_),(1,_)] Tryz.func22 rfl Tryz.ntmps22 rfl rfl hG ?_;intro a H;refine c_seqR (fun _ K1=>?_);refine s_box (cs:=[_,_,_,_,_,_,_,_,_,_,_]) H wn rfl rfl rfl ?_;clear H;intro b2 a w hb2 H;refine s_box (cs:=[_,_]) H wn rfl rfl rfl ?_;clear H;intro b3 a w hb3 H;refine s_alloc ty45pq H wn rfl ?_;clear H;intro b4 a w hb4 H;refine kH H (Ra rfl (Kz K1 (SR fun _ K2=>?_)));clear H K1;intro a H;refine s_loada ty38pq (cs:=[_,_,_,_,_,_,_,_,_,_,_]) H wn rfl rfl (H.hp.ocells 2 rfl rfl) rfl ?_;clear H;intro a H;refine s_loada ty45pq (cs:=[_,_]) H wn rfl rfl (H.hp.ocells 1 rfl rfl) rfl ?_;clear H;intro a H;refine s_call en37nr15 H wn rfl (near_spec _ _ H.hp.ro D l f t (-1) hv hz (by decide)) rfl ?_;clear H;rintro v8 G8 a w rfl hm8 H;(iterate 2 refine s_extract H wn rfl rfl rfl ?_;clear H;intro a H);refine s_store ty45pq 0 (vs:=[_,_]) _ H wn rfl rfl rfl rfl rfl rfl rfl rfl ?_;clear H;intro w H;dsimp only [List.set,setRow] at H;refine kH H (Ra rfl (Kz K2 ?_));clear H K2;intro a H;refine c_ret ?_;refine (leaveT H Tryz.results22 (.cons (rv_cella ty45pq (cs:=[_,_]) H rfl rfl (H.hp.ocells 0 rfl rfl)) (.cons (rv_tmp H rfl) .nil)) ?_).1;exact H.hp.ret rfl
end
section
open Go.RowKit
theorem en23pc15:∀ args w,(callFunc 23 args).run Tryz.prog w=.ok (.enter 23 args) w:=enters Tryz.func23 rfl (by kernel_rfl)
theorem fnd_at {A:List (Int × Int)} {f t:Int} {i:Nat} (h:A.findIdx? (fun q=>q.1 == f && q.2 == t)=some i):fnd A f t=i:=by unfold fnd;rw [h]
end
section
open Go.RowKit
theorem en21pf15:∀ args w,(callFunc 21 args).run Tryz.prog w=.ok (.enter 21 args) w:=enters Tryz.func21 rfl (by kernel_rfl)
theorem en22pf15:∀ args w,(callFunc 22 args).run Tryz.prog w=.ok (.enter 22 args) w:=enters Tryz.func22 rfl (by kernel_rfl)
theorem nearS_err {l:List ItemD} {f t k:Int} (h:chkR l f t t≠0):nearS l f t k=((0,0),chkR l f t t):=by rw [nearS,ix_err h,if_pos h]
theorem nearS_ok {l:List ItemD} {f t k:Int} {i:Nat} (h:ixS l f t=((i:Int),0)):nearS l f t k=ofS l (i+k):=by rw [nearS,h,if_neg (by simp)]
theorem pos_row {G:GH} {A:List (Int × Int)} {b o n c k:Nat} (hv:RepV G (.sl 2 (A.map posD)) (.slice (some ⟨b,o,none⟩) n c)) (hk:k < A.length):∀ j u,[vi A[k].1,vi A[k].2][j]?=some u→gcell G b (o+k*2+j)=some u:=by
 obtain ⟨b',o',he,h⟩:=pos_at hv hk
 injection he with he
 injection he with e1 e2
 subst e1;subst e2;exact h
set_option maxHeartbeats 2000000 in
theorem follows_true (G:GH) (w0:World) (hG:Hold G w0) (D:DocV) (d:DocD) (hR:DocR G D d) (hz:DocZ d) (f t:Int) :
  Calls Tryz.prog 6 #[D.val,.agg #[vi f,vi t]] w0 (Ret w0 G fun u G'=>u=.bool true):=by
 have hvl:=vItems_len 0 0 d.flow;have hzf:=hz.fl;refine eN [(0,_),(1,_)] Tryz.func6 rfl Tryz.ntmps6 rfl rfl hG ?_;intro a H;refine c_seqR (fun _ K1=>?_);refine s_box (cs:=[_,_,_,_,_,_,_,_,_,_,_]) H wn rfl rfl rfl ?_;clear H;intro b2 a w hb2 H;refine s_box (cs:=[_,_]) H wn rfl rfl rfl ?_;clear H;intro b3 a w hb3 H;refine kH H (Ra rfl (Kz K1 (SQ fun _ K2=>SQ fun _ K3=>?_)));clear H K1;intro a H;have H:=H.pickT (Pl:=[_,_]) (Pl':=[_,_]) [1,0] (by decide) rfl;obtain ⟨Ga,hma,hb2',H⟩:=H.giveBox;have hga:=fun j v hj=>gc15 (cs:=D.cells) hb2' j v hj;replace hR:=hR.mono hma;refine c_region ?_;refine s_call en8pi15 H wn rfl (known15 _ _ H.hp.ro) rfl ?_;clear H;rintro v12 G12 a w rfl hm12 H;refine kH H (Rn rfl (Rm rfl ?_));clear H;intro a H;refine s_split H 14 rfl ?_ ?_
 ·intro h14
  try have p14:=dT h14
  exact absurd h14 (by decide)
 intro h14
 try have p14:=dF h14
 first
 | (exfalso;omega)
 | (exact absurd h14 (by decide))
 |skip
  refine s_loada ty38pq (cs:=D.cells) H (wg H rfl rfl h14) rfl rfl (fun j v hj=>H.hp.gcell (gcell_mono hm12 (hga j v hj))) rfl ?_;clear H;intro a H;refine s_call en9pi15 H (wg H rfl rfl h14) rfl (small15_spec _ _ H.hp.ro D d (hR.mono hm12) hz) rfl ?_;clear H;rintro v16 G16 a w ⟨b16,rfl,hb16⟩ hm16 H;replace hR:=(hR.mono hm12).mono hm16;have hgb:=fun j v hj=>gcell_mono hm16 (gcell_mono hm12 (hga j v hj));refine kH H (YN h14 rfl (Pf h14 rfl (Kn K3 ?_)));clear H K3;intro a H;refine c_cond H rfl ?_ ?_
  ·intro h18
   try have p18:=dT h18
   first
   | (exfalso;omega)
   | (exact absurd h18 (by decide))
   |skip
    refine c_seqR (fun _ K4=>?_);refine s_call en8pi15 H wn rfl (known15 _ _ H.hp.ro) rfl ?_;clear H;rintro v19 G19 a w rfl hm19 H;refine kH H (Ra rfl (Kz K4 ?_));clear H K4;intro a H;refine lr H Tryz.results6 rfl ?_;exact H.hp.ret (by first|rfl|exact congrArg Value.bool (by simp)|exact congrArg Value.bool (by simp [getI]))
  intro h18
  try have p18:=dF h18
  first
  | (exfalso;omega)
  | (exact absurd h18 (by decide))
  |skip
   have hok:=okDoc_of (hb16 (by simpa using h18));refine c_skip ?_;refine K2 _ _ ?_;clear K2;refine c_seqR (fun _ K5=>?_);refine s_loada ty38pq (cs:=D.cells) H wn rfl rfl (fun j v hj=>H.hp.gcell (hgb j v hj)) rfl ?_;clear H;intro a H;refine s_loada ty45pq (cs:=[_,_]) H wn rfl rfl (H.hp.ocells 0 rfl rfl) rfl ?_;clear H;intro a H;refine s_call en21pf15 H wn rfl (follow_spec _ _ H.hp.ro D d.flow f t hR.fl hzf) rfl ?_;clear H;rintro v23 G23 a w rfl hm23 H;replace hR:=hR.mono hm23;replace hgb:=fun j v hj=>gcell_mono hm23 (hgb j v hj);refine kH H (Rm rfl ?_);clear H;intro a H;(iterate 2 refine s_extract H wn rfl rfl rfl ?_;clear H;intro a H);refine s_alloc ty45pq H wn rfl ?_;clear H;intro b5 a w hb5 H;refine s_store ty45pq 0 (vs:=[_,_]) _ H wn rfl rfl rfl rfl rfl rfl rfl rfl ?_;clear H;intro w H;dsimp only [List.set,setRow] at H;refine kH H (Ra rfl (Kz K5 (SR fun _ K6=>?_)));clear H K5;intro a H;refine s_loada ty38pq (cs:=D.cells) H wn rfl rfl (fun j v hj=>H.hp.gcell (hgb j v hj)) rfl ?_;clear H;intro a H;refine s_loada ty45pq (cs:=[_,_]) H wn rfl rfl (H.hp.ocells 1 rfl rfl) rfl ?_;clear H;intro a H;refine s_call en22pf15 H wn rfl (precede_spec _ _ H.hp.ro D d.flow f t hR.fl hzf) rfl ?_;clear H;rintro v29 G29 a w rfl hm29 H;replace hR:=hR.mono hm29;replace hgb:=fun j v hj=>gcell_mono hm29 (hgb j v hj);refine kH H (Rm rfl ?_);clear H;intro a H;(iterate 2 refine s_extract H wn rfl rfl rfl ?_;clear H;intro a H);refine s_alloc ty45pq H wn rfl ?_;clear H;intro b7 a w hb7 H;refine s_store ty45pq 0 (vs:=[_,_]) _ H wn rfl rfl rfl rfl rfl rfl rfl rfl ?_;clear H;intro w H;dsimp only [List.set,setRow] at H;refine kH H (Ra rfl (Kz K6 (SQ fun _ K7=>SR fun _ K8=>?_)));clear H K6;intro a H;refine s_loada ty38pq (cs:=D.cells) H wn rfl rfl (fun j v hj=>H.hp.gcell (hgb j v hj)) rfl ?_;clear H;intro a H;refine s_loada ty45pq (cs:=[_,_]) H wn rfl rfl (H.hp.ocells 2 rfl rfl) rfl ?_;clear H;intro a H;refine s_call en15pe15 H wn rfl (mchk15_spec _ _ H.hp.ro D d.flow f t hR.fl (by omega)) rfl ?_;clear H;rintro v34 G34 a w rfl hm34 H;replace hR:=hR.mono hm34;replace hgb:=fun j v hj=>gcell_mono hm34 (hgb j v hj);refine kH H (Ra rfl (Kz K8 (SR fun _ K9=>Rm rfl (Rc rfl (Kz K9 ?_)))));clear H K8 K9;intro a H;refine c_cond H rfl ?_ ?_
   ·intro h36
    try have p36:=dT h36
    first
    | (exfalso;omega)
    | (exact absurd h36 (by decide))
    |skip
     rw [nearS_err p36,nearS_err p36] at H;dsimp only at H;refine kP H (SR fun _ K10=>Rm rfl (Rm rfl (Rc rfl (Rm rfl ?_))));clear H;intro a H;refine s_split H 40 rfl ?_ ?_
     ·intro h40
      try have p40:=dT h40
      first
      | (exfalso;omega)
      | (exact absurd h40 (by decide))
      |skip
       refine kH H (YM h40 rfl (YM h40 rfl (YC h40 rfl (Pt h40 rfl (Rm rfl ?_)))));clear H;intro a H;refine s_split H 45 rfl ?_ ?_
       ·intro h45
        try have p45:=dT h45
        first
        | (exfalso;omega)
        | (exact absurd h45 (by decide))
        |skip
         refine s_loada ty45pq (cs:=[_,_]) H (wg H rfl rfl h45) rfl rfl (H.hp.ocells 1 rfl rfl) rfl ?_;clear H;intro a H;refine s_build sr45pos [_,_] H (wg H rfl rfl h45) rfl rfl rfl rfl ?_;clear H;intro a H;refine s_eqagg eqi45idx H (wg H rfl rfl h45) rfl rfl rfl rfl ?_;clear H;intro a H;refine kH H (Pt h45 rfl (Rm rfl ?_));clear H;intro a H;refine s_split H 50 rfl ?_ ?_
         ·intro h50
          try have p50:=dT h50
          first
          | (exfalso;omega)
          | (exact absurd h50 (by decide))
          |skip
           refine s_loada ty45pq (cs:=[_,_]) H (wg H rfl rfl h50) rfl rfl (H.hp.ocells 0 rfl rfl) rfl ?_;clear H;intro a H;refine s_build sr45pos [_,_] H (wg H rfl rfl h50) rfl rfl rfl rfl ?_;clear H;intro a H;refine s_eqagg eqi45idx H (wg H rfl rfl h50) rfl rfl rfl rfl ?_;clear H;intro a H;refine kH H (Pt h50 rfl (Ra rfl (Kz K10 ?_)));clear H K10;intro a H;refine lr H Tryz.results6 rfl ?_;exact H.hp.ret (by first|rfl|exact congrArg Value.bool (by simp)|exact congrArg Value.bool (by simp [getI]))
         intro h50
         try have p50:=dF h50
         first
         | (exfalso;omega)
         | (exact absurd h50 (by decide))
         |skip
          refine kH H (Ks h50 rfl (Ks h50 rfl (Ks h50 rfl (Pf h50 rfl (Ra rfl (Kz K10 ?_))))));clear H K10;intro a H;refine lr H Tryz.results6 rfl ?_;exact H.hp.ret (by first|rfl|exact congrArg Value.bool (by simp)|exact congrArg Value.bool (by simp [getI]))
       intro h45
       try have p45:=dF h45
       first
       | (exfalso;omega)
       | (exact absurd h45 (by decide))
       |skip
        refine kH H (Ks h45 rfl (Ks h45 rfl (Ks h45 rfl (Pf h45 rfl (Rm rfl (Ks rfl rfl (Ks rfl rfl (Ks rfl rfl (Pf rfl rfl (Ra rfl (Kz K10 ?_)))))))))));clear H K10;intro a H;refine lr H Tryz.results6 rfl ?_;exact H.hp.ret (by first|rfl|exact congrArg Value.bool (by simp)|exact congrArg Value.bool (by simp [getI]))
     intro h40
     try have p40:=dF h40
     first
     | (exfalso;omega)
     | (exact absurd h40 (by decide))
     |skip
      refine kH H (Ks h40 rfl (Ks h40 rfl (Ks h40 rfl (Pf h40 rfl (Rm rfl (Ks rfl rfl (Ks rfl rfl (Ks rfl rfl (Pf rfl rfl (Rm rfl (Ks rfl rfl (Ks rfl rfl (Ks rfl rfl (Pf rfl rfl ?_))))))))))))));clear H;intro a H;refine kH H (Ra rfl (Kz K10 ?_));clear H K10;intro a H;refine lr H Tryz.results6 rfl ?_;exact H.hp.ret (by first|rfl|exact congrArg Value.bool (by simp)|exact congrArg Value.bool (by simp [getI]))
   intro h36
   try have p36:=dF h36
   first
   | (exfalso;omega)
   | (exact absurd h36 (by decide))
   |skip
    have hc:chkR d.flow f t t=0:=by omega
    obtain ⟨i,hi,hf1,hf2,hix⟩:=ix_ok hok hc;rw [nearS_ok hix,nearS_ok hix] at H;obtain ⟨A,hA⟩:∃ A,A=vItems 0 0 d.flow:=⟨_,rfl⟩
    have hfn:fnd A f t=(i:Int):=by rw [hA];exact fnd_at hf1
    rw [← hA] at hvl
    have hi2:i < A.length:=by rw [hA];exact hi
    obtain ⟨P,hP⟩:∃ P,P=ofS d.flow (i + -1):=⟨_,rfl⟩;obtain ⟨S,hS⟩:∃ S,S=ofS d.flow (i+1):=⟨_,rfl⟩;rw [← hP,← hS] at H
    have hP0:i=0→P=((0,0),2):=fun h=>by rw [hP];exact of_out (.inl (by omega))
    have hP1:∀ h:0 < i,P=(A[i - 1]'(by omega),0):=fun h=>by
     rw [hP,show (i:Int) + -1=((i - 1:Nat):Int) by omega];subst hA;exact of_in _
    have hS0:i+1=A.length→S=((0,0),2):=fun h=>by rw [hS];exact of_out (.inr (by rw [← hA];omega))
    have hS1:∀ h:i+1 < A.length,S=(A[i+1],0):=fun h=>by
     rw [hS,show (i:Int)+1=((i+1:Nat):Int) by omega];subst hA;exact of_in h
    clear hP hS;obtain ⟨P1,P2,hPP⟩:∃ P1 P2,P=(P1,P2):=⟨_,_,rfl⟩;obtain ⟨S1,S2,hSS⟩:∃ S1 S2,S=(S1,S2):=⟨_,_,rfl⟩;rw [hPP,hSS] at H;dsimp only at H;rw [hPP] at hP0 hP1;rw [hSS] at hS0 hS1
    simp only [Prod.mk.injEq] at hP0 hP1 hS0 hS1
    refine c_skip ?_;refine K7 _ _ ?_;clear K7;refine c_seqR (fun _ K11=>?_);refine s_loada ty38pq (cs:=D.cells) H wn rfl rfl (fun j v hj=>H.hp.gcell (hgb j v hj)) rfl ?_;clear H;intro a H;refine s_call en10pi15 H wn rfl (all15_spec _ _ H.hp.ro D d.flow hR.fl hzf hok.ok) rfl ?_;clear H;rintro v56 G56 a w hrep hm56 H;obtain ⟨B,n56,c,rfl⟩:=hrep.form;have hn56:=hrep.len;rw [List.length_map] at hn56;subst hn56;rw [← hA] at H hrep;refine kH H (Ra rfl (Kz K11 (SR fun _ K12=>Rm rfl ?_)));clear H K11;intro a H;refine s_loada ty45pq (cs:=[_,_]) H wn rfl rfl (H.hp.ocells 2 rfl rfl) rfl ?_;clear H;intro a H;refine s_call en23pc15 H wn rfl (find15_spec _ _ H.hp.ro A _ f t hrep (by omega)) rfl ?_;clear H;rintro v59 G59 a w rfl hm59 H;rw [hfn] at H;replace hrep:=hrep.mono hm59;refine kH H (Ra rfl (Kz K12 ?_));clear H K12;intro a H;refine c_seqJ (ι:=Unit) (Tc:=[(5,_),(6,_),(7,_),(8,_),(10,_),(11,_)]) (Lc:=[(_,_),(_,_),(_,_)]) (fun (gh:Unit)=>[]) (fun (gh:Unit)=>[]) (fun (gh:Unit)=>G59) (fun (gh:Unit)=>True) (by exact (H).sub ⟨rfl,rfl,rfl,rfl,rfl,rfl,trivial⟩) ?_ ?_
    ·skip;refine kP H (SR fun _ K13=>Rm rfl (Rc rfl (Rm rfl ?_)));clear H;intro a H;refine s_split H 62 rfl ?_ ?_
     ·intro h62
      try have p62:=dT h62
      first
      | (exfalso;omega)
      | (exact absurd h62 (by decide))
      |skip
       refine kH H (Ks h62 rfl (Ks h62 rfl (Ks h62 rfl (Ku rfl (Ku rfl (Ku rfl (Ku rfl (Ku rfl (Ku rfl (Ku rfl (Ks h62 rfl (Pt h62 rfl (Rm rfl (Ks rfl rfl (Ks rfl rfl (Ks rfl rfl (Ks rfl rfl (Ks rfl rfl (Ks rfl rfl ?_)))))))))))))))))));clear H;intro a H;refine kH H (Ku rfl (Ku rfl (Ku rfl (Ku rfl (Ku rfl (Ku rfl (Ku rfl (Ks rfl rfl (Pt rfl rfl (Kz K13 ?_))))))))));clear H K13;intro a H;refine c_cond_t H rfl rfl ?_;refine kP H (SR fun _ K14=>Ra rfl (Kz K14 ?_));clear H K14;intro a H;refine lr H Tryz.results6 rfl ?_;exact H.hp.ret (by first|rfl|exact congrArg Value.bool (by simp)|exact congrArg Value.bool (by simp [getI]))
     intro h62
     try have p62:=dF h62
     first
     | (exfalso;omega)
     | (exact absurd h62 (by decide))
     |skip
      refine kH H (YM h62 rfl (YC h62 rfl (YM h62 rfl ?_)));clear H;intro a H;refine s_split H 65 rfl ?_ ?_
      ·intro h65
       try have p65:=dT h65
       first
       | (exfalso;omega)
       | (exact absurd h65 (by decide))
       |skip
        obtain ⟨hq1,hq2⟩:=hP0 (by omega);refine kH H (YM h65 rfl (YC h65 rfl (YM h65 rfl ?_)));clear H;intro a H;refine s_split H 68 rfl ?_ ?_
        ·intro h68
         try have p68:=dT h68
         first
         | (exfalso;omega)
         | (exact absurd h68 (by decide))
         |skip
          refine kH H (Ks h68 rfl (Ks h68 rfl (Ks h68 rfl (PT h65 h68 rfl (PT h62 h65 rfl (Pf h62 rfl (Rm rfl (Ks rfl rfl (Ks rfl rfl (Ks rfl rfl (Ks rfl rfl (Ks rfl rfl (Ks rfl rfl (Ku rfl (Ku rfl (Ku rfl (Ku rfl (Ku rfl (Ku rfl (Ku rfl ?_))))))))))))))))))));clear H;intro a H;refine kH H (Ks rfl rfl (Pt rfl rfl (Kz K13 ?_)));clear H K13;intro a H;refine c_cond_t H rfl rfl ?_;refine kP H (SR fun _ K15=>Ra rfl (Kz K15 ?_));clear H K15;intro a H;refine lr H Tryz.results6 rfl ?_;exact H.hp.ret (by first|rfl|exact congrArg Value.bool (by simp)|exact congrArg Value.bool (by simp [getI]))
        intro h68
        try have p68:=dF h68
        first
        | (exfalso;omega)
        | (exact absurd h68 (by decide))
        |skip
         refine s_loada ty45pq (cs:=[_,_]) H (wg H rfl rfl h68) rfl rfl (H.hp.ocells 0 rfl rfl) rfl ?_;clear H;intro a H;refine s_build sr45pos [_,_] H (wg H rfl rfl h68) rfl rfl rfl rfl ?_;clear H;intro a H;refine s_eqs (.inr rfl) eqs45pi15 H (wg H rfl rfl h68) rfl rfl rfl rfl ?_;clear H;intro a H;refine kH H (PF h65 h68 rfl (PT h62 h65 rfl (Pf h62 rfl (Rm rfl ?_))));clear H;intro a H;refine s_split H 75 rfl ?_ ?_
         ·intro h75
          try have p75:=dT h75
          exact absurd h75 (by rw [hq1];decide)
         intro h75
         try have p75:=dF h75
         first
         | (exfalso;omega)
         | (exact absurd h75 (by decide))
         |skip
          refine kH H (YM h75 rfl (YM h75 rfl (YL un41pth h75 rfl ?_)));clear H;intro a H;refine s_sub _ H (wg H rfl rfl h75) rfl rfl rfl (by omega) (by omega) rfl ?_;clear H;intro a H;refine kH H (YC h75 rfl (YM h75 rfl ?_));clear H;intro a H;refine s_split H 81 rfl ?_ ?_
          ·intro h81
           try have p81:=dT h81
           first
           | (exfalso;omega)
           | (exact absurd h81 (by decide))
           |skip
            obtain ⟨hs1,hs2⟩:=hS0 (by omega);refine kH H (YM h81 rfl (YC h81 rfl (YM h81 rfl ?_)));clear H;intro a H;refine s_split H 84 rfl ?_ ?_
            ·intro h84
             try have p84:=dT h84
             first
             | (exfalso;omega)
             | (exact absurd h84 (by decide))
             |skip
              refine kH H (Ks h84 rfl (Ks h84 rfl (Ks h84 rfl (PT h81 h84 rfl (PT h75 h81 rfl (Pf h75 rfl (Kz K13 ?_)))))));clear H K13;intro a H;refine c_cond_t H rfl rfl ?_;refine kP H (SR fun _ K16=>Ra rfl (Kz K16 ?_));clear H K16;intro a H;refine lr H Tryz.results6 rfl ?_;exact H.hp.ret (by first|rfl|exact congrArg Value.bool (by simp)|exact congrArg Value.bool (by simp [getI]))
            intro h84
            try have p84:=dF h84
            first
            | (exfalso;omega)
            | (exact absurd h84 (by decide))
            |skip
             refine s_loada ty45pq (cs:=[_,_]) H (wg H rfl rfl h84) rfl rfl (H.hp.ocells 1 rfl rfl) rfl ?_;clear H;intro a H;refine s_build sr45pos [_,_] H (wg H rfl rfl h84) rfl rfl rfl rfl ?_;clear H;intro a H;refine s_eqs (.inr rfl) eqs45pi15 H (wg H rfl rfl h84) rfl rfl rfl rfl ?_;clear H;intro a H;refine kH H (PF h81 h84 rfl (PT h75 h81 rfl (Pf h75 rfl (Kz K13 ?_))));clear H K13;intro a H;refine c_cond H rfl ?_ ?_
             ·intro h90
              try have p90:=dT h90
              exact absurd h90 (by rw [hs1];decide)
             intro h90
             try have p90:=dF h90
             first
             | (exfalso;omega)
             | (exact absurd h90 (by decide))
             |skip
              refine c_skip ?_;refine ⟨(),by exact (H).sub ⟨rfl,rfl,rfl,rfl,rfl,rfl,trivial⟩,?_⟩
              trivial
          intro h81
          try have p81:=dF h81
          first
          | (exfalso;omega)
          | (exact absurd h81 (by decide))
          |skip
           refine kH H (Ks h81 rfl (Ks h81 rfl (Ks h81 rfl (Ku rfl (Ku rfl (Ku rfl (Ks h81 rfl (PF h75 h81 rfl (Pf h75 rfl (Kz K13 ?_))))))))));clear H K13;intro a H;refine c_cond_f H rfl rfl ?_;refine c_skip ?_;refine ⟨(),by exact (H).sub ⟨rfl,rfl,rfl,rfl,rfl,rfl,trivial⟩,?_⟩
           trivial
      intro h65
      try have p65:=dF h65
      first
      | (exfalso;omega)
      | (exact absurd h65 (by decide))
      |skip
       refine kH H (Ks h65 rfl (Ks h65 rfl (Ks h65 rfl (Ku rfl (Ku rfl (Ku rfl (Ks h65 rfl (PF h62 h65 rfl (Pf h62 rfl (Rm rfl ?_))))))))));clear H;intro a H;(iterate 2 refine s_move H (wg H rfl rfl rfl) rfl rfl ?_;clear H;intro a H);refine s_len un41pth H (wg H rfl rfl rfl) rfl rfl ?_;clear H;intro a H;refine s_sub _ H (wg H rfl rfl rfl) rfl rfl rfl (by omega) (by omega) rfl ?_;clear H;intro a H;refine s_cmp H (wg H rfl rfl rfl) rfl rfl rfl rfl ?_;clear H;intro a H;refine s_move H (wg H rfl rfl rfl) rfl rfl ?_;clear H;intro a H;refine s_split H 81 rfl ?_ ?_
       ·intro h81
        try have p81:=dT h81
        first
        | (exfalso;omega)
        | (exact absurd h81 (by decide))
        |skip
         obtain ⟨hs1,hs2⟩:=hS0 (by omega);refine kH H (YM h81 rfl (YC h81 rfl (YM h81 rfl ?_)));clear H;intro a H;refine s_split H 84 rfl ?_ ?_
         ·intro h84
          try have p84:=dT h84
          first
          | (exfalso;omega)
          | (exact absurd h84 (by decide))
          |skip
           refine kH H (Ks h84 rfl (Ks h84 rfl (Ks h84 rfl (PT h81 h84 rfl ?_))));clear H;intro a H;refine s_pick_t H (wg H rfl rfl rfl) rfl h81 rfl rfl ?_;clear H;intro a H;refine kH H (Pf rfl rfl (Kz K13 ?_));clear H K13;intro a H;refine c_cond_t H rfl rfl ?_;refine kP H (SR fun _ K17=>Ra rfl (Kz K17 ?_));clear H K17;intro a H;refine lr H Tryz.results6 rfl ?_;exact H.hp.ret (by first|rfl|exact congrArg Value.bool (by simp)|exact congrArg Value.bool (by simp [getI]))
         intro h84
         try have p84:=dF h84
         first
         | (exfalso;omega)
         | (exact absurd h84 (by decide))
         |skip
          refine s_loada ty45pq (cs:=[_,_]) H (wg H rfl rfl h84) rfl rfl (H.hp.ocells 1 rfl rfl) rfl ?_;clear H;intro a H;refine s_build sr45pos [_,_] H (wg H rfl rfl h84) rfl rfl rfl rfl ?_;clear H;intro a H;refine s_eqs (.inr rfl) eqs45pi15 H (wg H rfl rfl h84) rfl rfl rfl rfl ?_;clear H;intro a H;refine kH H (PF h81 h84 rfl ?_);clear H;intro a H;refine s_pick_t H (wg H rfl rfl rfl) rfl h81 rfl rfl ?_;clear H;intro a H;refine kH H (Pf rfl rfl (Kz K13 ?_));clear H K13;intro a H;refine c_cond H rfl ?_ ?_
          ·intro h90
           try have p90:=dT h90
           exact absurd h90 (by rw [hs1];decide)
          intro h90
          try have p90:=dF h90
          first
          | (exfalso;omega)
          | (exact absurd h90 (by decide))
          |skip
           refine c_skip ?_;refine ⟨(),by exact (H).sub ⟨rfl,rfl,rfl,rfl,rfl,rfl,trivial⟩,?_⟩
           trivial
       intro h81
       try have p81:=dF h81
       first
       | (exfalso;omega)
       | (exact absurd h81 (by decide))
       |skip
        refine kH H (Ks h81 rfl (Ks h81 rfl (Ks h81 rfl (Ku rfl (Ku rfl (Ku rfl (Ks h81 rfl ?_)))))));clear H;intro a H;refine s_pick_f H (wg H rfl rfl rfl) rfl h81 rfl rfl ?_;clear H;intro a H;refine kH H (Pf rfl rfl (Kz K13 ?_));clear H K13;intro a H;refine c_cond_f H rfl rfl ?_;refine c_skip ?_;refine ⟨(),by exact (H).sub ⟨rfl,rfl,rfl,rfl,rfl,rfl,trivial⟩,?_⟩
        trivial
    clear H;intro gh a w hI H;obtain ⟨u,hgh⟩:∃ x,x=gh:=⟨_,rfl⟩;subst hgh;skip;dsimp only [List.cons_append,List.nil_append,List.append_nil] at H;refine c_seq (fun _ K18=>?_);obtain ⟨b,o,rfl,-⟩:=pos_at hrep hi2
    by_cases c0:(i:Int)=0
    ·skip
     by_cases c1:(i:Int)=(A.length:Int) - 1
     ·skip;refine c_drawI (hmx) [[],[0],[0,1],[0,1,2],[0,1,2,3],[0,1,2,3,4],[0,1,2,3,4,5],[0,1,2,3,4,5],[0,1,2,3,4,5],[0,1,2,3,4,5,8],[0,1,2,3,4,5,7,8,9],[0,1,2,3,4,5,7,8,9,10],(List.range 12),(List.range 13),(List.range 14),(List.range 15),(List.range 16),(List.range 16),(List.range 16++[17]),(List.range 16++[17,18]),(List.range 20),(List.range 21),(List.range 22),(List.range 23),(List.range 24),(List.range 25),(List.range 25),(List.range 25),(List.range 25++[27]),(List.range 25++[26,27,28]),(List.range 25++[26,27,28,29]),(List.range 31),(List.range 32),(List.range 33),(List.range 34),(List.range 35)] [35] (by kernel_rfl) (by kernel_rfl) (fun (ix_:Nat) (v:Value) (G:GH)=>match ix_ with|0=>v=vi i|1=>v=.bool (decide ((i:Int)=0))|2=>v=.bool (decide ((i:Int)=0))|3=>v=undef|4=>v=undef|5=>v=undef|6=>v=undef|7=>v=undef|8=>v=undef|9=>v=undef|10=>v=undef|11=>v=undef|12=>v=undef|13=>v=undef|14=>v=.bool true|15=>v=.bool true|16=>v=vi i|17=>v=.slice (some ⟨b,o,none⟩) A.length c|18=>v=vi A.length|19=>v=vi ((A.length:Int) - 1)|20=>v=.bool (decide ((i:Int)=(A.length:Int) - 1))|21=>v=.bool (decide ((i:Int)=(A.length:Int) - 1))|22=>v=undef|23=>v=undef|24=>v=undef|25=>v=undef|26=>v=undef|27=>v=undef|28=>v=undef|29=>v=undef|30=>v=undef|31=>v=undef|32=>v=undef|33=>v=.bool true|34=>v=.bool true|_=>True) (fun _ _ _ _ _ h=>h) H ?_ ?_
      ·clear H;refine al4 ?_ ?_ ?_ ?_ (al4 ?_ ?_ ?_ ?_ (al4 ?_ ?_ ?_ ?_ (al4 ?_ ?_ ?_ ?_ (al4 ?_ ?_ ?_ ?_ (al4 ?_ ?_ ?_ ?_ (al4 ?_ ?_ ?_ ?_ (al4 ?_ ?_ ?_ ?_ (al4 ?_ ?_ ?_ ?_ allI_nil))))))))
       ·exact Z0 rfl rfl fun _ _ _ _ _=>Rm rfl
       ·exact Z1 0 91 rfl rfl fun _ _ _ _ _=>Rc rfl
       ·exact Z1 1 92 rfl rfl fun _ _ _ _ _=>Rm rfl
       ·exact skI 2 (decide_eq_true c0) rfl rfl
       ·intro Sd_ a w G1 _ hSi hc hG HT hv;have H:=HT;clear hSi;obtain ⟨u94,hu94,hp94⟩:=hv 3 94 (hc 3 (by decide)) rfl;obtain rfl:u94=undef:=hp94;have H:=H.addS hu94;obtain ⟨u93,hu93,hp93⟩:=hv 2 93 (hc 2 (by decide)) rfl;obtain rfl:u93=.bool (decide ((i:Int)=0)):=hp93;have H:=H.addS hu93;have Hb:=H.full;have H:=Hb;clear hc;refine kH H (Ks (decide_eq_true c0) rfl ?_);clear H;intro a H;refine wl_nil ⟨rfl,?_⟩;exact draw_val (by kernel_rfl) (fun _ _ _ _ _ h=>h) rfl rfl HT Hb hG hv (fun _ _ h=>h) (by first|exact congrArg Value.bool (decide_eq_true (hP1 (by omega)).2)|rfl) H
       ·exact skI 2 (decide_eq_true c0) rfl rfl
       ·exact skipUI (j:=5) (by kernel_rfl) (fun _ _ _ _ _ h=>h) rfl rfl rfl rfl rfl (fun _ _ h=>h) (fun _=>rfl)
       ·exact skipUI (j:=5) (by kernel_rfl) (fun _ _ _ _ _ h=>h) rfl rfl rfl rfl rfl (fun _ _ h=>h) (fun _=>rfl)
       ·exact skipUI (j:=5) (by kernel_rfl) (fun _ _ _ _ _ h=>h) rfl rfl rfl rfl rfl (fun _ _ h=>h) (fun _=>rfl)
       ·intro Sd_ a w G1 _ hSi hc hG HT hv;have H:=HT;clear hSi;obtain ⟨u99,hu99,hp99⟩:=hv 8 99 (hc 8 (by decide)) rfl;obtain rfl:u99=undef:=hp99;have H:=H.addS hu99;obtain ⟨u96,hu96,hp96⟩:=hv 5 96 (hc 5 (by decide)) rfl;obtain rfl:u96=undef:=hp96;have H:=H.addS hu96;have Hb:=H.full;have H:=Hb;clear hc;refine kH H (Ku rfl ?_);clear H;intro a H;refine wl_nil ⟨rfl,?_⟩;exact draw_val (by kernel_rfl) (fun _ _ _ _ _ h=>h) rfl rfl HT Hb hG hv (fun _ _ h=>h) (by first|exact congrArg vi (by omega)|rfl) H
       ·exact skipUI (j:=5) (by kernel_rfl) (fun _ _ _ _ _ h=>h) rfl rfl rfl rfl rfl (fun _ _ h=>h) (fun _=>rfl)
       ·exact skipUI (j:=5) (by kernel_rfl) (fun _ _ _ _ _ h=>h) rfl rfl rfl rfl rfl (fun _ _ h=>h) (fun _=>rfl)
       ·intro Sd_ a w G1 _ hSi hc hG HT hv;have H:=HT;clear hSi;obtain ⟨u97,hu97,hp97⟩:=hv 6 97 (hc 6 (by decide)) rfl;obtain rfl:u97=undef:=hp97;have H:=H.addS hu97;obtain ⟨u102,hu102,hp102⟩:=hv 11 102 (hc 11 (by decide)) rfl;obtain rfl:u102=undef:=hp102;have H:=H.addS hu102;obtain ⟨u96,hu96,hp96⟩:=hv 5 96 (hc 5 (by decide)) rfl;obtain rfl:u96=undef:=hp96;have H:=H.addS hu96;have Hb:=H.full;have H:=Hb;clear hc;refine kH H (Ku rfl ?_);clear H;intro a H;refine wl_nil ⟨rfl,?_⟩;exact draw_val (by kernel_rfl) (fun _ _ _ _ _ h=>h) rfl rfl HT Hb hG hv (fun _ _ h=>h) (by first|exact congrArg Value.bool (by simp [getI,(hP1 (by omega)).1])|rfl) H
       ·exact skI 2 (decide_eq_true c0) rfl rfl
       ·exact Op2 2 93 13 104 rfl rfl fun _ _ _ _ hG _ H fin=>kH H (Pt (decide_eq_true c0) rfl fun _ H=>fin H iJ rfl)
       ·exact Z1 14 105 rfl rfl fun _ _ _ _ _=>Rm rfl
       ·refine Op1 15 106 rfl rfl fun _ a w G1 hG HT H fin=>?_;refine s_move H (wg H rfl rfl rfl) rfl rfl ?_;clear H;intro a H;exact fin H iJ rfl
       ·refine Op1 15 106 rfl rfl fun _ a w G1 hG HT H fin=>?_;refine s_move H (wg H rfl rfl rfl) rfl rfl ?_;clear H;intro a H;exact fin H iJ rfl
       ·refine Op2 17 108 15 106 rfl rfl fun _ a w G1 hG HT H fin=>?_;refine s_len un41pth H (wg H rfl rfl rfl) rfl rfl ?_;clear H;intro a H;exact fin H iJ rfl
       ·refine Op2 18 109 15 106 rfl rfl fun _ a w G1 hG HT H fin=>?_;refine s_sub _ H (wg H rfl rfl rfl) rfl rfl rfl (by omega) (by omega) rfl ?_;clear H;intro a H;exact fin H iJ rfl
       ·refine Op3 16 107 19 110 15 106 rfl rfl fun _ a w G1 hG HT H fin=>?_;refine s_cmp H (wg H rfl rfl rfl) rfl rfl rfl rfl ?_;clear H;intro a H;exact fin H iJ rfl
       ·refine Op2 20 111 15 106 rfl rfl fun _ a w G1 hG HT H fin=>?_;refine s_move H (wg H rfl rfl rfl) rfl rfl ?_;clear H;intro a H;exact fin H iJ rfl
       ·exact skI 21 (decide_eq_true c1) rfl rfl
       ·intro Sd_ a w G1 _ hSi hc hG HT hv;have H:=HT;clear hSi;obtain ⟨u113,hu113,hp113⟩:=hv 22 113 (hc 22 (by decide)) rfl;obtain rfl:u113=undef:=hp113;have H:=H.addS hu113;obtain ⟨u112,hu112,hp112⟩:=hv 21 112 (hc 21 (by decide)) rfl;obtain rfl:u112=.bool (decide ((i:Int)=(A.length:Int) - 1)):=hp112;have H:=H.addS hu112;have Hb:=H.full;have H:=Hb;clear hc;refine kH H (Ks (decide_eq_true c1) rfl ?_);clear H;intro a H;refine wl_nil ⟨rfl,?_⟩;exact draw_val (by kernel_rfl) (fun _ _ _ _ _ h=>h) rfl rfl HT Hb hG hv (fun _ _ h=>h) (by first|exact congrArg Value.bool (decide_eq_true (hS1 (by omega)).2)|rfl) H
       ·exact skI 21 (decide_eq_true c1) rfl rfl
       ·exact skipUI (j:=24) (by kernel_rfl) (fun _ _ _ _ _ h=>h) rfl rfl rfl rfl rfl (fun _ _ h=>h) (fun _=>rfl)
       ·exact skipUI (j:=24) (by kernel_rfl) (fun _ _ _ _ _ h=>h) rfl rfl rfl rfl rfl (fun _ _ h=>h) (fun _=>rfl)
       ·exact skipUI (j:=24) (by kernel_rfl) (fun _ _ _ _ _ h=>h) rfl rfl rfl rfl rfl (fun _ _ h=>h) (fun _=>rfl)
       ·exact skipUI (j:=24) (by kernel_rfl) (fun _ _ _ _ _ h=>h) rfl rfl rfl rfl rfl (fun _ _ h=>h) (fun _=>rfl)
       ·exact skipUI (j:=24) (by kernel_rfl) (fun _ _ _ _ _ h=>h) rfl rfl rfl rfl rfl (fun _ _ h=>h) (fun _=>rfl)
       ·exact skipUI (j:=24) (by kernel_rfl) (fun _ _ _ _ _ h=>h) rfl rfl rfl rfl rfl (fun _ _ h=>h) (fun _=>rfl)
       ·intro Sd_ a w G1 _ hSi hc hG HT hv;have H:=HT;clear hSi;obtain ⟨u116,hu116,hp116⟩:=hv 25 116 (hc 25 (by decide)) rfl;obtain rfl:u116=undef:=hp116;have H:=H.addS hu116;obtain ⟨u121,hu121,hp121⟩:=hv 30 121 (hc 30 (by decide)) rfl;obtain rfl:u121=undef:=hp121;have H:=H.addS hu121;obtain ⟨u115,hu115,hp115⟩:=hv 24 115 (hc 24 (by decide)) rfl;obtain rfl:u115=undef:=hp115;have H:=H.addS hu115;have Hb:=H.full;have H:=Hb;clear hc;refine kH H (Ku rfl ?_);clear H;intro a H;refine wl_nil ⟨rfl,?_⟩;exact draw_val (by kernel_rfl) (fun _ _ _ _ _ h=>h) rfl rfl HT Hb hG hv (fun _ _ h=>h) (by first|exact congrArg Value.bool (by simp [getI,(hS1 (by omega)).1])|rfl) H
       ·exact skI 21 (decide_eq_true c1) rfl rfl
       ·refine Op3 21 112 32 123 15 106 rfl rfl fun _ a w G1 hG HT H fin=>?_;refine s_pick_t H (wg H rfl rfl rfl) rfl (decide_eq_true c1) rfl rfl ?_;clear H;intro a H;exact fin H iJ rfl
       ·exact Op2 15 106 33 124 rfl rfl fun _ _ _ _ hG _ H fin=>kH H (Pt rfl rfl fun _ H=>fin H iJ rfl)
       exact opB rfl
      clear H;intro a w G hGm12 H hv;obtain ⟨u125,hu125,hp125⟩:=hv 34 125 (by decide) rfl;obtain rfl:u125=.bool true:=hp125;have H:=H.addS hu125;clear hv;refine kH H (Ra rfl ?_);clear H;intro a H;refine wl_nil ⟨rfl,?_⟩;refine K18 _ _ ?_;clear K18;refine lr H Tryz.results6 rfl ?_;exact H.hp.ret (by first|rfl|exact congrArg Value.bool (by simp)|exact congrArg Value.bool (by simp [getI]))
     skip;refine c_drawI (hmx) [[],[0],[0,1],[0,1,2],[0,1,2,3],[0,1,2,3,4],[0,1,2,3,4,5],[0,1,2,3,4,5],[0,1,2,3,4,5],[0,1,2,3,4,5,8],[0,1,2,3,4,5,7,8,9],[0,1,2,3,4,5,7,8,9,10],(List.range 12),(List.range 13),(List.range 14),(List.range 15),(List.range 16),(List.range 16),(List.range 16++[17]),(List.range 16++[17,18]),(List.range 20),(List.range 21),(List.range 22),(List.range 23),(List.range 24),(List.range 25),(List.range 25),(List.range 25),(List.range 25++[27]),(List.range 25++[26,27,28]),(List.range 25++[26,27,28,29]),(List.range 31),(List.range 32),(List.range 33),(List.range 34),(List.range 35)] [35] (by kernel_rfl) (by kernel_rfl) (fun (ix_:Nat) (v:Value) (G:GH)=>match ix_ with|0=>v=vi i|1=>v=.bool (decide ((i:Int)=0))|2=>v=.bool (decide ((i:Int)=0))|3=>v=undef|4=>v=undef|5=>v=undef|6=>v=undef|7=>v=undef|8=>v=undef|9=>v=undef|10=>v=undef|11=>v=undef|12=>v=undef|13=>v=undef|14=>v=.bool true|15=>v=.bool true|16=>v=vi i|17=>v=.slice (some ⟨b,o,none⟩) A.length c|18=>v=vi A.length|19=>v=vi ((A.length:Int) - 1)|20=>v=.bool (decide ((i:Int)=(A.length:Int) - 1))|21=>v=.bool (decide ((i:Int)=(A.length:Int) - 1))|22=>v=vi S2|23=>v=.bool true|24=>v=.bool true|25=>v=.agg #[vi S1.1,vi S1.2]|26=>v=.slice (some ⟨b,o,none⟩) A.length c|27=>v=vi i|28=>v=vi ((i+1:Nat):Int)|29=>v=.pointer (some ⟨b,o+(i+1)*2,none⟩)|30=>v=.agg #[vi A[i+1].1,vi A[i+1].2]|31=>v=.bool true|32=>v=.bool true|33=>v=.bool true|34=>v=.bool true|_=>True) (fun _ _ _ _ _ h=>h) H ?_ ?_
     ·clear H;refine al4 ?_ ?_ ?_ ?_ (al4 ?_ ?_ ?_ ?_ (al4 ?_ ?_ ?_ ?_ (al4 ?_ ?_ ?_ ?_ (al4 ?_ ?_ ?_ ?_ (al4 ?_ ?_ ?_ ?_ (al4 ?_ ?_ ?_ ?_ (al4 ?_ ?_ ?_ ?_ (al4 ?_ ?_ ?_ ?_ allI_nil))))))))
      ·exact Z0 rfl rfl fun _ _ _ _ _=>Rm rfl
      ·exact Z1 0 91 rfl rfl fun _ _ _ _ _=>Rc rfl
      ·exact Z1 1 92 rfl rfl fun _ _ _ _ _=>Rm rfl
      ·exact skI 2 (decide_eq_true c0) rfl rfl
      ·intro Sd_ a w G1 _ hSi hc hG HT hv;have H:=HT;clear hSi;obtain ⟨u94,hu94,hp94⟩:=hv 3 94 (hc 3 (by decide)) rfl;obtain rfl:u94=undef:=hp94;have H:=H.addS hu94;obtain ⟨u93,hu93,hp93⟩:=hv 2 93 (hc 2 (by decide)) rfl;obtain rfl:u93=.bool (decide ((i:Int)=0)):=hp93;have H:=H.addS hu93;have Hb:=H.full;have H:=Hb;clear hc;refine kH H (Ks (decide_eq_true c0) rfl ?_);clear H;intro a H;refine wl_nil ⟨rfl,?_⟩;exact draw_val (by kernel_rfl) (fun _ _ _ _ _ h=>h) rfl rfl HT Hb hG hv (fun _ _ h=>h) (by first|exact congrArg Value.bool (decide_eq_true (hP1 (by omega)).2)|rfl) H
      ·exact skI 2 (decide_eq_true c0) rfl rfl
      ·exact skipUI (j:=5) (by kernel_rfl) (fun _ _ _ _ _ h=>h) rfl rfl rfl rfl rfl (fun _ _ h=>h) (fun _=>rfl)
      ·exact skipUI (j:=5) (by kernel_rfl) (fun _ _ _ _ _ h=>h) rfl rfl rfl rfl rfl (fun _ _ h=>h) (fun _=>rfl)
      ·exact skipUI (j:=5) (by kernel_rfl) (fun _ _ _ _ _ h=>h) rfl rfl rfl rfl rfl (fun _ _ h=>h) (fun _=>rfl)
      ·intro Sd_ a w G1 _ hSi hc hG HT hv;have H:=HT;clear hSi;obtain ⟨u99,hu99,hp99⟩:=hv 8 99 (hc 8 (by decide)) rfl;obtain rfl:u99=undef:=hp99;have H:=H.addS hu99;obtain ⟨u96,hu96,hp96⟩:=hv 5 96 (hc 5 (by decide)) rfl;obtain rfl:u96=undef:=hp96;have H:=H.addS hu96;have Hb:=H.full;have H:=Hb;clear hc;refine kH H (Ku rfl ?_);clear H;intro a H;refine wl_nil ⟨rfl,?_⟩;exact draw_val (by kernel_rfl) (fun _ _ _ _ _ h=>h) rfl rfl HT Hb hG hv (fun _ _ h=>h) (by first|exact congrArg vi (by omega)|rfl) H
      ·exact skipUI (j:=5) (by kernel_rfl) (fun _ _ _ _ _ h=>h) rfl rfl rfl rfl rfl (fun _ _ h=>h) (fun _=>rfl)
      ·exact skipUI (j:=5) (by kernel_rfl) (fun _ _ _ _ _ h=>h) rfl rfl rfl rfl rfl (fun _ _ h=>h) (fun _=>rfl)
      ·intro Sd_ a w G1 _ hSi hc hG HT hv;have H:=HT;clear hSi;obtain ⟨u97,hu97,hp97⟩:=hv 6 97 (hc 6 (by decide)) rfl;obtain rfl:u97=undef:=hp97;have H:=H.addS hu97;obtain ⟨u102,hu102,hp102⟩:=hv 11 102 (hc 11 (by decide)) rfl;obtain rfl:u102=undef:=hp102;have H:=H.addS hu102;obtain ⟨u96,hu96,hp96⟩:=hv 5 96 (hc 5 (by decide)) rfl;obtain rfl:u96=undef:=hp96;have H:=H.addS hu96;have Hb:=H.full;have H:=Hb;clear hc;refine kH H (Ku rfl ?_);clear H;intro a H;refine wl_nil ⟨rfl,?_⟩;exact draw_val (by kernel_rfl) (fun _ _ _ _ _ h=>h) rfl rfl HT Hb hG hv (fun _ _ h=>h) (by first|exact congrArg Value.bool (by simp [getI,(hP1 (by omega)).1])|rfl) H
      ·exact skI 2 (decide_eq_true c0) rfl rfl
      ·exact Op2 2 93 13 104 rfl rfl fun _ _ _ _ hG _ H fin=>kH H (Pt (decide_eq_true c0) rfl fun _ H=>fin H iJ rfl)
      ·exact Z1 14 105 rfl rfl fun _ _ _ _ _=>Rm rfl
      ·refine Op1 15 106 rfl rfl fun _ a w G1 hG HT H fin=>?_;refine s_move H (wg H rfl rfl rfl) rfl rfl ?_;clear H;intro a H;exact fin H iJ rfl
      ·refine Op1 15 106 rfl rfl fun _ a w G1 hG HT H fin=>?_;refine s_move H (wg H rfl rfl rfl) rfl rfl ?_;clear H;intro a H;exact fin H iJ rfl
      ·refine Op2 17 108 15 106 rfl rfl fun _ a w G1 hG HT H fin=>?_;refine s_len un41pth H (wg H rfl rfl rfl) rfl rfl ?_;clear H;intro a H;exact fin H iJ rfl
      ·refine Op2 18 109 15 106 rfl rfl fun _ a w G1 hG HT H fin=>?_;refine s_sub _ H (wg H rfl rfl rfl) rfl rfl rfl (by omega) (by omega) rfl ?_;clear H;intro a H;exact fin H iJ rfl
      ·refine Op3 16 107 19 110 15 106 rfl rfl fun _ a w G1 hG HT H fin=>?_;refine s_cmp H (wg H rfl rfl rfl) rfl rfl rfl rfl ?_;clear H;intro a H;exact fin H iJ rfl
      ·refine Op2 20 111 15 106 rfl rfl fun _ a w G1 hG HT H fin=>?_;refine s_move H (wg H rfl rfl rfl) rfl rfl ?_;clear H;intro a H;exact fin H iJ rfl
      ·exact Op1 21 112 rfl rfl fun _ _ _ _ hG _ H fin=>kH H (YM (decide_eq_false c1) rfl fun _ H=>fin H iJ rfl)
      ·refine Op2 22 113 21 112 rfl rfl fun _ a w G1 hG HT H fin=>?_;refine kH H (YC (decide_eq_false c1) rfl ?_);clear H;intro a H;exact fin H iJ (by first|exact congrArg Value.bool (decide_eq_true (hS1 (by omega)).2)|rfl)
      ·exact Op2 23 114 21 112 rfl rfl fun _ _ _ _ hG _ H fin=>kH H (YM (decide_eq_false c1) rfl fun _ H=>fin H iJ rfl)
      ·refine Op1 24 115 rfl rfl fun _ a w G1 hG HT H fin=>?_;refine s_loada ty45pq (cs:=[_,_]) H (wg H rfl rfl rfl) rfl rfl (H.hp.ocells 1 rfl rfl) rfl ?_;clear H;intro a H;exact fin H iJ rfl
      ·refine Op1 24 115 rfl rfl fun _ a w G1 hG HT H fin=>?_;refine s_move H (wg H rfl rfl rfl) rfl rfl ?_;clear H;intro a H;exact fin H iJ rfl
      ·refine Op1 24 115 rfl rfl fun _ a w G1 hG HT H fin=>?_;refine s_move H (wg H rfl rfl rfl) rfl rfl ?_;clear H;intro a H;exact fin H iJ rfl
      ·refine Op2 27 118 24 115 rfl rfl fun _ a w G1 hG HT H fin=>?_;refine s_add _ H (wg H rfl rfl rfl) rfl rfl rfl (by omega) (by omega) rfl ?_;clear H;intro a H;exact fin H iJ rfl
      ·refine Op3 26 117 28 119 24 115 rfl rfl fun _ a w G1 hG HT H fin=>?_;refine s_index un41pth ty45pq _ H (wg H rfl rfl rfl) rfl rfl rfl (by first|assumption|omega) rfl ?_;clear H;intro a H;exact fin H iJ rfl
      ·refine Op2 29 120 24 115 rfl rfl fun _ a w G1 hG HT H fin=>?_;refine s_loada ty45pq (cs:=[vi A[i+1].1,vi A[i+1].2]) H (wg H rfl rfl rfl) rfl rfl (fun j v hj=>H.hp.gcell (gcell_mono hG (pos_row hrep (by omega) j v hj))) rfl ?_;clear H;intro a H;exact fin H iJ rfl
      ·refine Op3 25 116 30 121 24 115 rfl rfl fun _ a w G1 hG HT H fin=>?_;refine s_eqagg eqi45idx H (wg H rfl rfl rfl) rfl rfl rfl rfl ?_;clear H;intro a H;exact fin H iJ (by first|exact congrArg Value.bool (by simp [getI,(hS1 (by omega)).1])|rfl)
      ·exact Op3 24 115 31 122 21 112 rfl rfl fun _ _ _ _ hG _ H fin=>kH H (PT (decide_eq_false c1) rfl rfl fun _ H=>fin H iJ rfl)
      ·refine Op3 21 112 32 123 15 106 rfl rfl fun _ a w G1 hG HT H fin=>?_;refine s_pick_f H (wg H rfl rfl rfl) rfl (decide_eq_false c1) rfl rfl ?_;clear H;intro a H;exact fin H iJ rfl
      ·exact Op2 15 106 33 124 rfl rfl fun _ _ _ _ hG _ H fin=>kH H (Pt rfl rfl fun _ H=>fin H iJ rfl)
      exact opB rfl
     clear H;intro a w G hGm12 H hv;obtain ⟨u125,hu125,hp125⟩:=hv 34 125 (by decide) rfl;obtain rfl:u125=.bool true:=hp125;have H:=H.addS hu125;clear hv;refine kH H (Ra rfl ?_);clear H;intro a H;refine wl_nil ⟨rfl,?_⟩;refine K18 _ _ ?_;clear K18;refine lr H Tryz.results6 rfl ?_;exact H.hp.ret (by first|rfl|exact congrArg Value.bool (by simp)|exact congrArg Value.bool (by simp [getI]))
    skip
    by_cases c1:(i:Int)=(A.length:Int) - 1
    ·skip;refine c_drawI (hmx) [[],[0],[0,1],[0,1,2],[0,1,2,3],[0,1,2,3,4],[0,1,2,3,4,5],[0,1,2,3,4,5],[0,1,2,3,4,5],[0,1,2,3,4,5,8],[0,1,2,3,4,5,7,8,9],[0,1,2,3,4,5,7,8,9,10],(List.range 12),(List.range 13),(List.range 14),(List.range 15),(List.range 16),(List.range 16),(List.range 16++[17]),(List.range 16++[17,18]),(List.range 20),(List.range 21),(List.range 22),(List.range 23),(List.range 24),(List.range 25),(List.range 25),(List.range 25),(List.range 25++[27]),(List.range 25++[26,27,28]),(List.range 25++[26,27,28,29]),(List.range 31),(List.range 32),(List.range 33),(List.range 34),(List.range 35)] [35] (by kernel_rfl) (by kernel_rfl) (fun (ix_:Nat) (v:Value) (G:GH)=>match ix_ with|0=>v=vi i|1=>v=.bool (decide ((i:Int)=0))|2=>v=.bool (decide ((i:Int)=0))|3=>v=vi P2|4=>v=.bool true|5=>v=.bool true|6=>v=.agg #[vi P1.1,vi P1.2]|7=>v=.slice (some ⟨b,o,none⟩) A.length c|8=>v=vi i|9=>v=vi ((i - 1:Nat):Int)|10=>v=.pointer (some ⟨b,o+(i - 1)*2,none⟩)|11=>v=.agg #[vi A[i - 1].1,vi A[i - 1].2]|12=>v=.bool true|13=>v=.bool true|14=>v=.bool true|15=>v=.bool true|16=>v=vi i|17=>v=.slice (some ⟨b,o,none⟩) A.length c|18=>v=vi A.length|19=>v=vi ((A.length:Int) - 1)|20=>v=.bool (decide ((i:Int)=(A.length:Int) - 1))|21=>v=.bool (decide ((i:Int)=(A.length:Int) - 1))|22=>v=undef|23=>v=undef|24=>v=undef|25=>v=undef|26=>v=undef|27=>v=undef|28=>v=undef|29=>v=undef|30=>v=undef|31=>v=undef|32=>v=undef|33=>v=.bool true|34=>v=.bool true|_=>True) (fun _ _ _ _ _ h=>h) H ?_ ?_
     ·clear H;refine al4 ?_ ?_ ?_ ?_ (al4 ?_ ?_ ?_ ?_ (al4 ?_ ?_ ?_ ?_ (al4 ?_ ?_ ?_ ?_ (al4 ?_ ?_ ?_ ?_ (al4 ?_ ?_ ?_ ?_ (al4 ?_ ?_ ?_ ?_ (al4 ?_ ?_ ?_ ?_ (al4 ?_ ?_ ?_ ?_ allI_nil))))))))
      ·exact Z0 rfl rfl fun _ _ _ _ _=>Rm rfl
      ·exact Z1 0 91 rfl rfl fun _ _ _ _ _=>Rc rfl
      ·exact Z1 1 92 rfl rfl fun _ _ _ _ _=>Rm rfl
      ·exact Op1 2 93 rfl rfl fun _ _ _ _ hG _ H fin=>kH H (YM (decide_eq_false c0) rfl fun _ H=>fin H iJ rfl)
      ·refine Op2 3 94 2 93 rfl rfl fun _ a w G1 hG HT H fin=>?_;refine kH H (YC (decide_eq_false c0) rfl ?_);clear H;intro a H;exact fin H iJ (by first|exact congrArg Value.bool (decide_eq_true (hP1 (by omega)).2)|rfl)
      ·exact Op2 4 95 2 93 rfl rfl fun _ _ _ _ hG _ H fin=>kH H (YM (decide_eq_false c0) rfl fun _ H=>fin H iJ rfl)
      ·refine Op1 5 96 rfl rfl fun _ a w G1 hG HT H fin=>?_;refine s_loada ty45pq (cs:=[_,_]) H (wg H rfl rfl rfl) rfl rfl (H.hp.ocells 0 rfl rfl) rfl ?_;clear H;intro a H;exact fin H iJ rfl
      ·refine Op1 5 96 rfl rfl fun _ a w G1 hG HT H fin=>?_;refine s_move H (wg H rfl rfl rfl) rfl rfl ?_;clear H;intro a H;exact fin H iJ rfl
      ·refine Op1 5 96 rfl rfl fun _ a w G1 hG HT H fin=>?_;refine s_move H (wg H rfl rfl rfl) rfl rfl ?_;clear H;intro a H;exact fin H iJ rfl
      ·refine Op2 8 99 5 96 rfl rfl fun _ a w G1 hG HT H fin=>?_;refine s_sub _ H (wg H rfl rfl rfl) rfl rfl rfl (by omega) (by omega) rfl ?_;clear H;intro a H;exact fin H iJ (by first|exact congrArg vi (by omega)|rfl)
      ·refine Op3 7 98 9 100 5 96 rfl rfl fun _ a w G1 hG HT H fin=>?_;refine s_index un41pth ty45pq _ H (wg H rfl rfl rfl) rfl rfl rfl (by first|assumption|omega) rfl ?_;clear H;intro a H;exact fin H iJ rfl
      ·refine Op2 10 101 5 96 rfl rfl fun _ a w G1 hG HT H fin=>?_;refine s_loada ty45pq (cs:=[vi A[i - 1].1,vi A[i - 1].2]) H (wg H rfl rfl rfl) rfl rfl (fun j v hj=>H.hp.gcell (gcell_mono hG (pos_row hrep (by omega) j v hj))) rfl ?_;clear H;intro a H;exact fin H iJ rfl
      ·refine Op3 6 97 11 102 5 96 rfl rfl fun _ a w G1 hG HT H fin=>?_;refine s_eqagg eqi45idx H (wg H rfl rfl rfl) rfl rfl rfl rfl ?_;clear H;intro a H;exact fin H iJ (by first|exact congrArg Value.bool (by simp [getI,(hP1 (by omega)).1])|rfl)
      ·exact Op3 5 96 12 103 2 93 rfl rfl fun _ _ _ _ hG _ H fin=>kH H (PT (decide_eq_false c0) rfl rfl fun _ H=>fin H iJ rfl)
      ·exact Op2 2 93 13 104 rfl rfl fun _ _ _ _ hG _ H fin=>kH H (Pf (decide_eq_false c0) rfl fun _ H=>fin H iJ rfl)
      ·exact Z1 14 105 rfl rfl fun _ _ _ _ _=>Rm rfl
      ·refine Op1 15 106 rfl rfl fun _ a w G1 hG HT H fin=>?_;refine s_move H (wg H rfl rfl rfl) rfl rfl ?_;clear H;intro a H;exact fin H iJ rfl
      ·refine Op1 15 106 rfl rfl fun _ a w G1 hG HT H fin=>?_;refine s_move H (wg H rfl rfl rfl) rfl rfl ?_;clear H;intro a H;exact fin H iJ rfl
      ·refine Op2 17 108 15 106 rfl rfl fun _ a w G1 hG HT H fin=>?_;refine s_len un41pth H (wg H rfl rfl rfl) rfl rfl ?_;clear H;intro a H;exact fin H iJ rfl
      ·refine Op2 18 109 15 106 rfl rfl fun _ a w G1 hG HT H fin=>?_;refine s_sub _ H (wg H rfl rfl rfl) rfl rfl rfl (by omega) (by omega) rfl ?_;clear H;intro a H;exact fin H iJ rfl
      ·refine Op3 16 107 19 110 15 106 rfl rfl fun _ a w G1 hG HT H fin=>?_;refine s_cmp H (wg H rfl rfl rfl) rfl rfl rfl rfl ?_;clear H;intro a H;exact fin H iJ rfl
      ·refine Op2 20 111 15 106 rfl rfl fun _ a w G1 hG HT H fin=>?_;refine s_move H (wg H rfl rfl rfl) rfl rfl ?_;clear H;intro a H;exact fin H iJ rfl
      ·exact skI 21 (decide_eq_true c1) rfl rfl
      ·intro Sd_ a w G1 _ hSi hc hG HT hv;have H:=HT;clear hSi;obtain ⟨u113,hu113,hp113⟩:=hv 22 113 (hc 22 (by decide)) rfl;obtain rfl:u113=undef:=hp113;have H:=H.addS hu113;obtain ⟨u112,hu112,hp112⟩:=hv 21 112 (hc 21 (by decide)) rfl;obtain rfl:u112=.bool (decide ((i:Int)=(A.length:Int) - 1)):=hp112;have H:=H.addS hu112;have Hb:=H.full;have H:=Hb;clear hc;refine kH H (Ks (decide_eq_true c1) rfl ?_);clear H;intro a H;refine wl_nil ⟨rfl,?_⟩;exact draw_val (by kernel_rfl) (fun _ _ _ _ _ h=>h) rfl rfl HT Hb hG hv (fun _ _ h=>h) (by first|exact congrArg Value.bool (decide_eq_true (hS1 (by omega)).2)|rfl) H
      ·exact skI 21 (decide_eq_true c1) rfl rfl
      ·exact skipUI (j:=24) (by kernel_rfl) (fun _ _ _ _ _ h=>h) rfl rfl rfl rfl rfl (fun _ _ h=>h) (fun _=>rfl)
      ·exact skipUI (j:=24) (by kernel_rfl) (fun _ _ _ _ _ h=>h) rfl rfl rfl rfl rfl (fun _ _ h=>h) (fun _=>rfl)
      ·exact skipUI (j:=24) (by kernel_rfl) (fun _ _ _ _ _ h=>h) rfl rfl rfl rfl rfl (fun _ _ h=>h) (fun _=>rfl)
      ·exact skipUI (j:=24) (by kernel_rfl) (fun _ _ _ _ _ h=>h) rfl rfl rfl rfl rfl (fun _ _ h=>h) (fun _=>rfl)
      ·exact skipUI (j:=24) (by kernel_rfl) (fun _ _ _ _ _ h=>h) rfl rfl rfl rfl rfl (fun _ _ h=>h) (fun _=>rfl)
      ·exact skipUI (j:=24) (by kernel_rfl) (fun _ _ _ _ _ h=>h) rfl rfl rfl rfl rfl (fun _ _ h=>h) (fun _=>rfl)
      ·intro Sd_ a w G1 _ hSi hc hG HT hv;have H:=HT;clear hSi;obtain ⟨u116,hu116,hp116⟩:=hv 25 116 (hc 25 (by decide)) rfl;obtain rfl:u116=undef:=hp116;have H:=H.addS hu116;obtain ⟨u121,hu121,hp121⟩:=hv 30 121 (hc 30 (by decide)) rfl;obtain rfl:u121=undef:=hp121;have H:=H.addS hu121;obtain ⟨u115,hu115,hp115⟩:=hv 24 115 (hc 24 (by decide)) rfl;obtain rfl:u115=undef:=hp115;have H:=H.addS hu115;have Hb:=H.full;have H:=Hb;clear hc;refine kH H (Ku rfl ?_);clear H;intro a H;refine wl_nil ⟨rfl,?_⟩;exact draw_val (by kernel_rfl) (fun _ _ _ _ _ h=>h) rfl rfl HT Hb hG hv (fun _ _ h=>h) (by first|exact congrArg Value.bool (by simp [getI,(hS1 (by omega)).1])|rfl) H
      ·exact skI 21 (decide_eq_true c1) rfl rfl
      ·refine Op3 21 112 32 123 15 106 rfl rfl fun _ a w G1 hG HT H fin=>?_;refine s_pick_t H (wg H rfl rfl rfl) rfl (decide_eq_true c1) rfl rfl ?_;clear H;intro a H;exact fin H iJ rfl
      ·exact Op2 15 106 33 124 rfl rfl fun _ _ _ _ hG _ H fin=>kH H (Pt rfl rfl fun _ H=>fin H iJ rfl)
      exact opB rfl
     clear H;intro a w G hGm12 H hv;obtain ⟨u125,hu125,hp125⟩:=hv 34 125 (by decide) rfl;obtain rfl:u125=.bool true:=hp125;have H:=H.addS hu125;clear hv;refine kH H (Ra rfl ?_);clear H;intro a H;refine wl_nil ⟨rfl,?_⟩;refine K18 _ _ ?_;clear K18;refine lr H Tryz.results6 rfl ?_;exact H.hp.ret (by first|rfl|exact congrArg Value.bool (by simp)|exact congrArg Value.bool (by simp [getI]))
    skip;refine c_drawI (hmx) [[],[0],[0,1],[0,1,2],[0,1,2,3],[0,1,2,3,4],[0,1,2,3,4,5],[0,1,2,3,4,5],[0,1,2,3,4,5],[0,1,2,3,4,5,8],[0,1,2,3,4,5,7,8,9],[0,1,2,3,4,5,7,8,9,10],(List.range 12),(List.range 13),(List.range 14),(List.range 15),(List.range 16),(List.range 16),(List.range 16++[17]),(List.range 16++[17,18]),(List.range 20),(List.range 21),(List.range 22),(List.range 23),(List.range 24),(List.range 25),(List.range 25),(List.range 25),(List.range 25++[27]),(List.range 25++[26,27,28]),(List.range 25++[26,27,28,29]),(List.range 31),(List.range 32),(List.range 33),(List.range 34),(List.range 35)] [35] (by kernel_rfl) (by kernel_rfl) (fun (ix_:Nat) (v:Value) (G:GH)=>match ix_ with|0=>v=vi i|1=>v=.bool (decide ((i:Int)=0))|2=>v=.bool (decide ((i:Int)=0))|3=>v=vi P2|4=>v=.bool true|5=>v=.bool true|6=>v=.agg #[vi P1.1,vi P1.2]|7=>v=.slice (some ⟨b,o,none⟩) A.length c|8=>v=vi i|9=>v=vi ((i - 1:Nat):Int)|10=>v=.pointer (some ⟨b,o+(i - 1)*2,none⟩)|11=>v=.agg #[vi A[i - 1].1,vi A[i - 1].2]|12=>v=.bool true|13=>v=.bool true|14=>v=.bool true|15=>v=.bool true|16=>v=vi i|17=>v=.slice (some ⟨b,o,none⟩) A.length c|18=>v=vi A.length|19=>v=vi ((A.length:Int) - 1)|20=>v=.bool (decide ((i:Int)=(A.length:Int) - 1))|21=>v=.bool (decide ((i:Int)=(A.length:Int) - 1))|22=>v=vi S2|23=>v=.bool true|24=>v=.bool true|25=>v=.agg #[vi S1.1,vi S1.2]|26=>v=.slice (some ⟨b,o,none⟩) A.length c|27=>v=vi i|28=>v=vi ((i+1:Nat):Int)|29=>v=.pointer (some ⟨b,o+(i+1)*2,none⟩)|30=>v=.agg #[vi A[i+1].1,vi A[i+1].2]|31=>v=.bool true|32=>v=.bool true|33=>v=.bool true|34=>v=.bool true|_=>True) (fun _ _ _ _ _ h=>h) H ?_ ?_
    ·clear H;refine al4 ?_ ?_ ?_ ?_ (al4 ?_ ?_ ?_ ?_ (al4 ?_ ?_ ?_ ?_ (al4 ?_ ?_ ?_ ?_ (al4 ?_ ?_ ?_ ?_ (al4 ?_ ?_ ?_ ?_ (al4 ?_ ?_ ?_ ?_ (al4 ?_ ?_ ?_ ?_ (al4 ?_ ?_ ?_ ?_ allI_nil))))))))
     ·exact Z0 rfl rfl fun _ _ _ _ _=>Rm rfl
     ·exact Z1 0 91 rfl rfl fun _ _ _ _ _=>Rc rfl
     ·exact Z1 1 92 rfl rfl fun _ _ _ _ _=>Rm rfl
     ·exact Op1 2 93 rfl rfl fun _ _ _ _ hG _ H fin=>kH H (YM (decide_eq_false c0) rfl fun _ H=>fin H iJ rfl)
     ·refine Op2 3 94 2 93 rfl rfl fun _ a w G1 hG HT H fin=>?_;refine kH H (YC (decide_eq_false c0) rfl ?_);clear H;intro a H;exact fin H iJ (by first|exact congrArg Value.bool (decide_eq_true (hP1 (by omega)).2)|rfl)
     ·exact Op2 4 95 2 93 rfl rfl fun _ _ _ _ hG _ H fin=>kH H (YM (decide_eq_false c0) rfl fun _ H=>fin H iJ rfl)
     ·refine Op1 5 96 rfl rfl fun _ a w G1 hG HT H fin=>?_;refine s_loada ty45pq (cs:=[_,_]) H (wg H rfl rfl rfl) rfl rfl (H.hp.ocells 0 rfl rfl) rfl ?_;clear H;intro a H;exact fin H iJ rfl
     ·refine Op1 5 96 rfl rfl fun _ a w G1 hG HT H fin=>?_;refine s_move H (wg H rfl rfl rfl) rfl rfl ?_;clear H;intro a H;exact fin H iJ rfl
     ·refine Op1 5 96 rfl rfl fun _ a w G1 hG HT H fin=>?_;refine s_move H (wg H rfl rfl rfl) rfl rfl ?_;clear H;intro a H;exact fin H iJ rfl
     ·refine Op2 8 99 5 96 rfl rfl fun _ a w G1 hG HT H fin=>?_;refine s_sub _ H (wg H rfl rfl rfl) rfl rfl rfl (by omega) (by omega) rfl ?_;clear H;intro a H;exact fin H iJ (by first|exact congrArg vi (by omega)|rfl)
     ·refine Op3 7 98 9 100 5 96 rfl rfl fun _ a w G1 hG HT H fin=>?_;refine s_index un41pth ty45pq _ H (wg H rfl rfl rfl) rfl rfl rfl (by first|assumption|omega) rfl ?_;clear H;intro a H;exact fin H iJ rfl
     ·refine Op2 10 101 5 96 rfl rfl fun _ a w G1 hG HT H fin=>?_;refine s_loada ty45pq (cs:=[vi A[i - 1].1,vi A[i - 1].2]) H (wg H rfl rfl rfl) rfl rfl (fun j v hj=>H.hp.gcell (gcell_mono hG (pos_row hrep (by omega) j v hj))) rfl ?_;clear H;intro a H;exact fin H iJ rfl
     ·refine Op3 6 97 11 102 5 96 rfl rfl fun _ a w G1 hG HT H fin=>?_;refine s_eqagg eqi45idx H (wg H rfl rfl rfl) rfl rfl rfl rfl ?_;clear H;intro a H;exact fin H iJ (by first|exact congrArg Value.bool (by simp [getI,(hP1 (by omega)).1])|rfl)
     ·exact Op3 5 96 12 103 2 93 rfl rfl fun _ _ _ _ hG _ H fin=>kH H (PT (decide_eq_false c0) rfl rfl fun _ H=>fin H iJ rfl)
     ·exact Op2 2 93 13 104 rfl rfl fun _ _ _ _ hG _ H fin=>kH H (Pf (decide_eq_false c0) rfl fun _ H=>fin H iJ rfl)
     ·exact Z1 14 105 rfl rfl fun _ _ _ _ _=>Rm rfl
     ·refine Op1 15 106 rfl rfl fun _ a w G1 hG HT H fin=>?_;refine s_move H (wg H rfl rfl rfl) rfl rfl ?_;clear H;intro a H;exact fin H iJ rfl
     ·refine Op1 15 106 rfl rfl fun _ a w G1 hG HT H fin=>?_;refine s_move H (wg H rfl rfl rfl) rfl rfl ?_;clear H;intro a H;exact fin H iJ rfl
     ·refine Op2 17 108 15 106 rfl rfl fun _ a w G1 hG HT H fin=>?_;refine s_len un41pth H (wg H rfl rfl rfl) rfl rfl ?_;clear H;intro a H;exact fin H iJ rfl
     ·refine Op2 18 109 15 106 rfl rfl fun _ a w G1 hG HT H fin=>?_;refine s_sub _ H (wg H rfl rfl rfl) rfl rfl rfl (by omega) (by omega) rfl ?_;clear H;intro a H;exact fin H iJ rfl
     ·refine Op3 16 107 19 110 15 106 rfl rfl fun _ a w G1 hG HT H fin=>?_;refine s_cmp H (wg H rfl rfl rfl) rfl rfl rfl rfl ?_;clear H;intro a H;exact fin H iJ rfl
     ·refine Op2 20 111 15 106 rfl rfl fun _ a w G1 hG HT H fin=>?_;refine s_move H (wg H rfl rfl rfl) rfl rfl ?_;clear H;intro a H;exact fin H iJ rfl
     ·exact Op1 21 112 rfl rfl fun _ _ _ _ hG _ H fin=>kH H (YM (decide_eq_false c1) rfl fun _ H=>fin H iJ rfl)
     ·refine Op2 22 113 21 112 rfl rfl fun _ a w G1 hG HT H fin=>?_;refine kH H (YC (decide_eq_false c1) rfl ?_);clear H;intro a H;exact fin H iJ (by first|exact congrArg Value.bool (decide_eq_true (hS1 (by omega)).2)|rfl)
     ·exact Op2 23 114 21 112 rfl rfl fun _ _ _ _ hG _ H fin=>kH H (YM (decide_eq_false c1) rfl fun _ H=>fin H iJ rfl)
     ·refine Op1 24 115 rfl rfl fun _ a w G1 hG HT H fin=>?_;refine s_loada ty45pq (cs:=[_,_]) H (wg H rfl rfl rfl) rfl rfl (H.hp.ocells 1 rfl rfl) rfl ?_;clear H;intro a H;exact fin H iJ rfl
     ·refine Op1 24 115 rfl rfl fun _ a w G1 hG HT H fin=>?_;refine s_move H (wg H rfl rfl rfl) rfl rfl ?_;clear H;intro a H;exact fin H iJ rfl
     ·refine Op1 24 115 rfl rfl fun _ a w G1 hG HT H fin=>?_;refine s_move H (wg H rfl rfl rfl) rfl rfl ?_;clear H;intro a H;exact fin H iJ rfl
     ·refine Op2 27 118 24 115 rfl rfl fun _ a w G1 hG HT H fin=>?_;refine s_add _ H (wg H rfl rfl rfl) rfl rfl rfl (by omega) (by omega) rfl ?_;clear H;intro a H;exact fin H iJ rfl
     ·refine Op3 26 117 28 119 24 115 rfl rfl fun _ a w G1 hG HT H fin=>?_;refine s_index un41pth ty45pq _ H (wg H rfl rfl rfl) rfl rfl rfl (by first|assumption|omega) rfl ?_;clear H;intro a H;exact fin H iJ rfl
     ·refine Op2 29 120 24 115 rfl rfl fun _ a w G1 hG HT H fin=>?_;refine s_loada ty45pq (cs:=[vi A[i+1].1,vi A[i+1].2]) H (wg H rfl rfl rfl) rfl rfl (fun j v hj=>H.hp.gcell (gcell_mono hG (pos_row hrep (by omega) j v hj))) rfl ?_;clear H;intro a H;exact fin H iJ rfl
     ·refine Op3 25 116 30 121 24 115 rfl rfl fun _ a w G1 hG HT H fin=>?_;refine s_eqagg eqi45idx H (wg H rfl rfl rfl) rfl rfl rfl rfl ?_;clear H;intro a H;exact fin H iJ (by first|exact congrArg Value.bool (by simp [getI,(hS1 (by omega)).1])|rfl)
     ·exact Op3 24 115 31 122 21 112 rfl rfl fun _ _ _ _ hG _ H fin=>kH H (PT (decide_eq_false c1) rfl rfl fun _ H=>fin H iJ rfl)
     ·refine Op3 21 112 32 123 15 106 rfl rfl fun _ a w G1 hG HT H fin=>?_;refine s_pick_f H (wg H rfl rfl rfl) rfl (decide_eq_false c1) rfl rfl ?_;clear H;intro a H;exact fin H iJ rfl
     ·exact Op2 15 106 33 124 rfl rfl fun _ _ _ _ hG _ H fin=>kH H (Pt rfl rfl fun _ H=>fin H iJ rfl)
     exact opB rfl
    clear H;intro a w G hGm12 H hv;obtain ⟨u125,hu125,hp125⟩:=hv 34 125 (by decide) rfl;obtain rfl:u125=.bool true:=hp125;have H:=H.addS hu125;clear hv;refine kH H (Ra rfl ?_);clear H;intro a H;refine wl_nil ⟨rfl,?_⟩;refine K18 _ _ ?_;clear K18;refine lr H Tryz.results6 rfl ?_;exact H.hp.ret (by first|rfl|exact congrArg Value.bool (by simp)|exact congrArg Value.bool (by simp [getI]))
end
section
open Go.ChangeShapes Go.RowKit Go.Deep
abbrev heapG (W:World):GH:=fun k=>W.heap[k]?
theorem gcell_heap {W:World} {b o:Nat} {v:Value} (h:W.cell? ⟨b,o,none⟩=some v):gcell (heapG W) b o=some v:=by
 unfold World.cell? at h
 unfold gcell heapG
 split at h
 ·rename_i c e f hh
  simp only at hh
  rw [hh];simpa using h
 cases h
theorem list_of {α:Type} {p:Nat→α→Prop}:∀ n:Nat,(∀ i,i < n→∃ x,p i x)→∃ l:List α,l.length=n∧∀ i x,l[i]?=some x→p i x
 | 0,_=>⟨[],rfl,fun i x h=>by simp at h⟩
 | n+1,h=>by
  obtain ⟨l,hl,hp⟩:=list_of n (fun i hi=>h i (by omega));obtain ⟨x,hx⟩:=h n (by omega);refine ⟨l++[x],by simp [hl],fun i y hy=>?_⟩
  by_cases hi:i < l.length
  ·exact hp i y (by rwa [List.getElem?_append_left hi] at hy)
  rw [List.getElem?_append_right (by omega)] at hy
  have hin:i - l.length=0:=by
   have:=(List.getElem?_eq_some_iff.1 hy).1
   simp at this;omega
  rw [hin] at hy
  simp only [List.getElem?_cons_zero,Option.some.injEq] at hy
  subst hy;rw [show i=n by omega];exact hx
theorem bulk_pos {H:Type} (d:DataW H):1≤Rows.uptoBulk d:=by
 cases d <;> (try simp only [Rows.uptoBulk]) <;> (try omega)
 rename_i x;cases x <;> simp only [Rows.uptoBulk] <;> omega
theorem bulk_rows {H ρ:Type} {dat:ρ→List Dat}:∀ (rs:List ρ) (D:Nat→DataW H),(∀ i r,rs[i]?=some r→szR (dat r)+1≤8*Rows.uptoBulk (D i))→szRs (rs.map dat)≤8*Rows.uptoBulkAll ((List.range rs.length).map D)
 | [],D,_=>Nat.zero_le _
 | r :: rs,D,h=>by
  have h0:=h 0 r rfl;have hp:=bulk_pos (D 0);have ih:=bulk_rows rs (fun i=>D (i+1)) (fun i r hr=>h (i+1) r (by simpa using hr));rw [List.length_cons,List.range_succ_eq_map]
  simp only [List.map_cons,List.map_map,szRs,Rows.uptoBulkAll]
  have e:(List.map (D ∘ Nat.succ) (List.range rs.length))=(List.map (fun i=>D (i+1)) (List.range rs.length)):=rfl;rw [e];omega
theorem bulk_mem {H:Type} {D:Nat→DataW H}:∀ {n i:Nat},i < n→Rows.uptoBulk (D i)≤Rows.uptoBulkAll ((List.range n).map D)
 | 0,i,h=>absurd h (by omega)
 | n+1,i,h=>by
  have key:∀ (l m:List (DataW H)),Rows.uptoBulkAll (l++m)=Rows.uptoBulkAll l+Rows.uptoBulkAll m:=by
   intro l m
   induction l with
   | nil=>simp [Rows.uptoBulkAll]
   | cons x l ih=>simp only [List.cons_append,Rows.uptoBulkAll,ih];omega
  rw [List.range_succ,List.map_append,key]
  by_cases hi:i < n
  ·have:=bulk_mem (D:=D) hi;omega
  have:i=n:=by omega
  subst this
  simp only [List.map_cons,List.map_nil,Rows.uptoBulkAll];omega
section
variable {H:Type} {enc:TypeId × Value→H} {P:Program} {W:World} {base:Nat} {spare:Nat→Bool} {held:Bool}
/-- A slice whose elements read as rows. -/
theorem rd_slice {ρ:Type} {dat:ρ→List Dat} {t e:TypeId} {sz:Nat} (hsz:0 < sz) {fuel:Nat} {cs:List Value} {x:DataW H × List MemPlace} (ht:P.underlying t=some (.slice e)) (hc:P.cellsOf e=sz) (h:DataW.trod enc P W base spare held fuel t cs=some x)
  (row:∀ n cs' D Pl,DataW.trod enc P W base spare held n e cs'=some (D,Pl)→Rows.uptoBulk D < Rows.uptoBulk x.1→∃ r:ρ,RepRow (heapG W) (dat r) cs'∧szR (dat r)+1≤8*Rows.uptoBulk D) :
  ∃ (rs:List ρ) (v:Value),cs=[v]∧RepV (heapG W) (.sl sz (rs.map dat)) v∧szRs (rs.map dat)+8≤8*Rows.uptoBulk x.1:=by
 rcases open_slice ht h with ⟨rfl,rfl⟩|⟨a,len,cap,m,n,D,Pl,rfl,hb,hl,hm,hmm,rfl,hx⟩
 ·exact ⟨[],_,rfl,RepV.nil_ rfl (by decide),by simp [szRs,Rows.uptoBulk]⟩
 obtain ⟨rs,hrl,hrs⟩:=list_of (p:=fun i (r:ρ)=>∃ cs',W.cells? base (a.add (i*sz)) sz=some cs'∧RepRow (heapG W) (dat r) cs'∧szR (dat r)+1≤8*Rows.uptoBulk (D i)) len (fun i hi=>by
  have him:i < m:=by rw [hmm];split <;> omega
  obtain ⟨cs',h1,h2⟩:=hx i him;rw [hc] at h1;have hb1:=bulk_mem (D:=D) hi;obtain ⟨r,hr1,hr2⟩:=row n cs' (D i) (Pl i) h2 (by simp only [Rows.uptoBulk];omega)
  exact ⟨r,cs',h1,hr1,hr2⟩)
 refine ⟨rs,_,rfl,?_,?_⟩
 ·simp only [RepV,List.length_map]
  refine ⟨some a,cap,by rw [hrl],by omega,hm,fun hne=>?_⟩;obtain ⟨b,off,spot⟩:=a
  have hlen:0 < rs.length:=by cases rs with|nil=>simp at hne|cons _ _=>simp
  obtain ⟨cs0,h1,-,-⟩:=hrs 0 rs[0] (List.getElem?_eq_getElem hlen);obtain ⟨-,hl0,hg0⟩:=World.cells?_some h1
  have hspot:spot=none:=by
   have h3:=hg0 0 hsz;rw [List.getElem?_eq_getElem (by omega)] at h3
   simpa [Addr.add] using World.cell?_spot h3
  subst hspot;refine ⟨b,off,rfl,RepRows.mk fun k r hk=>?_⟩;rw [List.getElem?_map] at hk;obtain ⟨y,hy,rfl⟩:=Option.map_eq_some_iff.1 hk;obtain ⟨cs',h2,h3,-⟩:=hrs k y hy;obtain ⟨-,hl1,hg1⟩:=World.cells?_some h2;refine ⟨cs',hl1,fun j u hj=>gcell_heap ?_,h3⟩
  have hj2:j < sz:=by rw [← hl1];exact (List.getElem?_eq_some_iff.1 hj).1
  have:=hg1 j hj2;rw [add_add,Go.WideShapes.add_plain] at this;rw [show off+k*sz+j=off+(k*sz+j) by omega,this];exact hj
 have:=bulk_rows rs D (fun i r hr=>(hrs i r hr).choose_spec.2.2);rw [hrl] at this
 simp only [Rows.uptoBulk];omega
end
/-- A struct's fields: their types and where they begin. -/
structure StF (P:Program) (t:TypeId) (sz:Nat) (fs:List (TypeId × Nat × Nat)):Prop where
 und:P.underlying t=some (.struct (P.fieldsOf t))
 cells:P.cellsOf t=sz
 flds:(P.fieldsOf t).toList.map (fun f=>(f.type,f.offset,P.cellsOf f.type))=fs
theorem rd_struct {P:Program} {H:Type} {enc:TypeId × Value→H} {W:World} {base:Nat} {spare:Nat→Bool} {held:Bool} {t:TypeId} {sz fuel:Nat} {fs:List (TypeId × Nat × Nat)} {cs:List Value} {x:DataW H × List MemPlace} (hs:StF P t sz fs) (h:DataW.trod enc P W base spare held fuel t cs=some x) :
  ∃ (xs:List (DataW H × List MemPlace)) (n:Nat),x.1=.agg (xs.map (·.1))∧cs.length=sz∧xs.length=fs.length∧∀ (i:Nat) (ti:TypeId) (off k:Nat),fs[i]?=some (ti,off,k)→DataW.trod enc P W base spare held n ti ((cs.drop off).take k)=xs[i]?:=by
 obtain ⟨xs,n,-,rfl,hl,hxl,hf⟩:=DataW.trod_struct hs.und h;refine ⟨xs,n,rfl,by rw [hl,hs.cells],by rw [hxl,← hs.flds];simp,fun i ti off k hi=>?_⟩;rw [← hs.flds,List.getElem?_map] at hi;obtain ⟨f,hf1,hf2⟩:=Option.map_eq_some_iff.1 hi
 simp only [Prod.mk.injEq] at hf2
 obtain ⟨rfl,rfl,rfl⟩:=hf2;exact hf i f (by simpa using hf1)
section
variable {H:Type} {enc:TypeId × Value→H} {W:World} {base:Nat} {spare:Nat→Bool} {held:Bool}
theorem sfProp:StF Tryz.prog 147 2 [(3,0,1),(3,1,1)]:=⟨by kernel_rfl,by kernel_rfl,by kernel_rfl⟩
theorem rd_prop {n:Nat} {cs:List Value} {D:DataW H} {Pl:List MemPlace} (h:DataW.trod enc Tryz.prog W base spare held n 147 cs=some (D,Pl)):∃ r:PropD,RepRow (heapG W) r.dat cs∧szR r.dat+1≤8*Rows.uptoBulk D:=by
 obtain ⟨xs,m,hx,hl,hxl,hf⟩:=rd_struct sfProp h
 match cs,hl,xs,hxl with
 | [c0,c1],_,[y0,y1],_ =>
  have h0:=hf 0 _ _ _ rfl;have h1:=hf 1 _ _ _ rfl;obtain ⟨k0,e0,d0,-⟩:=DataW.trod_int Tryz.underlying3 h0;obtain ⟨k1,e1,d1,-⟩:=DataW.trod_int Tryz.underlying3 h1
  simp at e0 e1
  subst e0 e1
  simp only at hx
  refine ⟨⟨k0,k1⟩,?_,?_⟩
  ·simp [RepRow,PropD.dat,RepV,Value.oneCell']
  rw [hx];simp [d0,d1,PropD.dat,szR,szD,Rows.uptoBulk,Rows.uptoBulkAll]
theorem sfDel:StF Tryz.prog 150 2 [(3,0,1),(3,1,1)]:=⟨by kernel_rfl,by kernel_rfl,by kernel_rfl⟩
theorem rd_del {n:Nat} {cs:List Value} {D:DataW H} {Pl:List MemPlace} (h:DataW.trod enc Tryz.prog W base spare held n 150 cs=some (D,Pl)):∃ r:DelD,RepRow (heapG W) r.dat cs∧szR r.dat+1≤8*Rows.uptoBulk D:=by
 obtain ⟨xs,m,hx,hl,hxl,hf⟩:=rd_struct sfDel h
 match cs,hl,xs,hxl with
 | [c0,c1],_,[y0,y1],_ =>
  have h0:=hf 0 _ _ _ rfl;have h1:=hf 1 _ _ _ rfl;obtain ⟨k0,e0,d0,-⟩:=DataW.trod_int Tryz.underlying3 h0;obtain ⟨k1,e1,d1,-⟩:=DataW.trod_int Tryz.underlying3 h1
  simp at e0 e1
  subst e0 e1
  simp only at hx
  refine ⟨⟨k0,k1⟩,?_,?_⟩
  ·simp [RepRow,DelD.dat,RepV,Value.oneCell']
  rw [hx];simp [d0,d1,DelD.dat,szR,szD,Rows.uptoBulk,Rows.uptoBulkAll]
theorem sfLayer:StF Tryz.prog 178 4 [(3,0,1),(3,1,1),(3,2,1),(4,3,1)]:=⟨by kernel_rfl,by kernel_rfl,by kernel_rfl⟩
theorem rd_layer {n:Nat} {cs:List Value} {D:DataW H} {Pl:List MemPlace} (h:DataW.trod enc Tryz.prog W base spare held n 178 cs=some (D,Pl)):∃ r:LayerD,RepRow (heapG W) r.dat cs∧szR r.dat+1≤8*Rows.uptoBulk D:=by
 obtain ⟨xs,m,hx,hl,hxl,hf⟩:=rd_struct sfLayer h
 match cs,hl,xs,hxl with
 | [c0,c1,c2,c3],_,[y0,y1,y2,y3],_ =>
  have h0:=hf 0 _ _ _ rfl;have h1:=hf 1 _ _ _ rfl;have h2:=hf 2 _ _ _ rfl;have h3:=hf 3 _ _ _ rfl;obtain ⟨k0,e0,d0,-⟩:=DataW.trod_int Tryz.underlying3 h0;obtain ⟨k1,e1,d1,-⟩:=DataW.trod_int Tryz.underlying3 h1;obtain ⟨k2,e2,d2,-⟩:=DataW.trod_int Tryz.underlying3 h2;obtain ⟨k3,e3,d3⟩:=DataW.trod_bool Tryz.underlying4 h3
  simp at e0 e1 e2 e3
  subst e0 e1 e2 e3
  simp only at hx
  refine ⟨⟨k0,k1,k2,k3⟩,?_,?_⟩
  ·simp [RepRow,LayerD.dat,RepV,Value.oneCell']
  rw [hx];simp [d0,d1,d2,d3,LayerD.dat,szR,szD,Rows.uptoBulk,Rows.uptoBulkAll]
theorem sfMarks:StF Tryz.prog 27 4 [(3,0,1),(3,1,1),(24,2,1),(25,3,1)]:=⟨by kernel_rfl,by kernel_rfl,by kernel_rfl⟩
theorem sfHead:StF Tryz.prog 29 5 [(23,0,1),(27,1,4)]:=⟨by kernel_rfl,by kernel_rfl,by kernel_rfl⟩
theorem cellsProp:Tryz.prog.cellsOf 147=2:=by kernel_rfl
theorem cellsDel:Tryz.prog.cellsOf 150=2:=by kernel_rfl
theorem cellsLayer:Tryz.prog.cellsOf 178=4:=by kernel_rfl
/-- A head among other cells. -/
theorem rd_head {n:Nat} {cs:List Value} {x:DataW H × List MemPlace} (h:DataW.trod enc Tryz.prog W base spare held n 29 cs=some x):∃ (r:HeadD) (p d l:Value),cs=[p,vi r.marks.ins,vi r.marks.move,d,l]∧HeadR (heapG W) r p d l∧zHead r+15≤8*Rows.uptoBulk x.1:=by
 obtain ⟨xs,m,hx,hl,hxl,hf⟩:=rd_struct sfHead h
 match cs,hl,xs,hxl with
 | [c0,c1,c2,c3,c4],_,[y0,y1],_ =>
  have h0:=hf 0 _ _ _ rfl;have h1:=hf 1 _ _ _ rfl;obtain ⟨ps,pv,e0,rp,sp⟩:=rd_slice (dat:=PropD.dat) (sz:=2) (by omega) Tryz.underlying23 cellsProp h0 (fun n cs' D Pl hh _=>rd_prop hh);obtain ⟨zs,m2,hz,hzl,hzx,hzf⟩:=rd_struct sfMarks h1
  match zs,hzx with
  | [z0,z1,z2,z3],_ =>
   have g0:=hzf 0 _ _ _ rfl;have g1:=hzf 1 _ _ _ rfl;have g2:=hzf 2 _ _ _ rfl;have g3:=hzf 3 _ _ _ rfl;obtain ⟨k0,e1,d0,-⟩:=DataW.trod_int Tryz.underlying3 g0;obtain ⟨k1,e2,d1,-⟩:=DataW.trod_int Tryz.underlying3 g1;obtain ⟨ds,dv,e3,rd,sd⟩:=rd_slice (dat:=DelD.dat) (sz:=2) (by omega) Tryz.underlying24 cellsDel g2 (fun n cs' D Pl hh _=>rd_del hh);obtain ⟨ls,lv,e4,rl,sl⟩:=rd_slice (dat:=LayerD.dat) (sz:=4) (by omega) Tryz.underlying25 cellsLayer g3 (fun n cs' D Pl hh _=>rd_layer hh)
   simp at e0 e1 e2 e3 e4
   subst e0 e1 e2 e3 e4;refine ⟨⟨ps,⟨k0,k1,ds,ls⟩⟩,_,_,_,rfl,⟨rp,rd,rl⟩,?_⟩;have hzh:=zHead_eq ⟨ps,⟨k0,k1,ds,ls⟩⟩
   simp only at hzh
   rw [hx]
   simp only [List.map_cons,List.map_nil,Rows.uptoBulk,Rows.uptoBulkAll,hz,d0,d1]
   omega
theorem sfItem:StF Tryz.prog 85 11 [(3,0,1),(3,1,1),(3,2,1),(9,3,1),(29,4,5),(22,9,1),(83,10,1)]:=⟨by kernel_rfl,by kernel_rfl,by kernel_rfl⟩
theorem sfRow:StF Tryz.prog 88 6 [(29,0,5),(86,5,1)]:=⟨by kernel_rfl,by kernel_rfl,by kernel_rfl⟩
theorem sfCell:StF Tryz.prog 90 7 [(3,0,1),(29,1,5),(22,6,1)]:=⟨by kernel_rfl,by kernel_rfl,by kernel_rfl⟩
theorem cellsItem:Tryz.prog.cellsOf 85=11:=by kernel_rfl
theorem cellsRow:Tryz.prog.cellsOf 88=6:=by kernel_rfl
theorem cellsCell:Tryz.prog.cellsOf 90=7:=by kernel_rfl
theorem rd_item:∀ (N:Nat) (n:Nat) (cs:List Value) (D:DataW H) (Pl:List MemPlace),DataW.trod enc Tryz.prog W base spare held n 85 cs=some (D,Pl)→Rows.uptoBulk D < N→∃ r:ItemD,RepRow (heapG W) r.dat cs∧szR r.dat+1≤8*Rows.uptoBulk D
 | 0,_,_,_,_,_,hN=>absurd hN (by omega)
 | N+1,n,cs,D,Pl,h,hN=>by
  have ih:=rd_item N;obtain ⟨xs,m,hx,hl,hxl,hf⟩:=rd_struct sfItem h
  match cs,hl,xs,hxl with
  | [c0,c1,c2,c3,c4,c5,c6,c7,c8,c9,c10],_,[y0,y1,y2,y3,y4,y5,y6],_ =>
   have h0:=hf 0 _ _ _ rfl;have h1:=hf 1 _ _ _ rfl;have h2:=hf 2 _ _ _ rfl;have h3:=hf 3 _ _ _ rfl;have h4:=hf 4 _ _ _ rfl;have h5:=hf 5 _ _ _ rfl;have h6:=hf 6 _ _ _ rfl
   simp only at hx
   have hD:Rows.uptoBulk D=Rows.uptoBulk y0.1+(Rows.uptoBulk y1.1+(Rows.uptoBulk y2.1+(Rows.uptoBulk y3.1+(Rows.uptoBulk y4.1+(Rows.uptoBulk y5.1+(Rows.uptoBulk y6.1+0))))))+1:=by
    rw [hx];simp only [List.map_cons,List.map_nil,Rows.uptoBulk,Rows.uptoBulkAll]
   obtain ⟨k0,e0,d0,-⟩:=DataW.trod_int Tryz.underlying3 h0;obtain ⟨k1,e1,d1,-⟩:=DataW.trod_int Tryz.underlying3 h1;obtain ⟨k2,e2,d2,-⟩:=DataW.trod_int Tryz.underlying3 h2;obtain ⟨s,e3,d3,-⟩:=DataW.trod_string Tryz.underlying9 h3;obtain ⟨hd,p,d,l,e4,rh,sh⟩:=rd_head h4;obtain ⟨fl,fv,e5,rf,sf⟩:=rd_slice (dat:=ItemD.dat) (sz:=11) (by omega) Tryz.underlying22 cellsItem h5 (fun n cs' D' Pl' hh hlt=>ih n cs' D' Pl' hh (by omega))
   obtain ⟨rs,rv,e6,rr,sr⟩:=rd_slice (dat:=RowD.dat) (sz:=6) (by omega) Tryz.underlying83 cellsRow h6 (fun n cs' D' Pl' hh hlt=>by
    obtain ⟨xs,m,hx,hl,hxl,hf⟩:=rd_struct sfRow hh
    match cs',hl,xs,hxl with
    | [a0,a1,a2,a3,a4,a5],_,[w0,w1],_ =>
     have g0:=hf 0 _ _ _ rfl;have g1:=hf 1 _ _ _ rfl
     simp only at hx
     have hD':Rows.uptoBulk D'=Rows.uptoBulk w0.1+(Rows.uptoBulk w1.1+0)+1:=by
      rw [hx];simp only [List.map_cons,List.map_nil,Rows.uptoBulk,Rows.uptoBulkAll]
     obtain ⟨hd2,p2,d2',l2,q0,rh2,sh2⟩:=rd_head g0
     obtain ⟨cl,cv,q1,rc,sc⟩:=rd_slice (dat:=CellD.dat) (sz:=7) (by omega) Tryz.underlying86 cellsCell g1 (fun n cs'' D'' Pl'' hh2 hlt2=>by
      obtain ⟨xs,m,hx2,hl2,hxl2,hf2⟩:=rd_struct sfCell hh2
      match cs'',hl2,xs,hxl2 with
      | [b0,b1,b2,b3,b4,b5,b6],_,[v0,v1,v2],_ =>
       have u0:=hf2 0 _ _ _ rfl;have u1:=hf2 1 _ _ _ rfl;have u2:=hf2 2 _ _ _ rfl
       simp only at hx2
       have hD'':Rows.uptoBulk D''=Rows.uptoBulk v0.1+(Rows.uptoBulk v1.1+(Rows.uptoBulk v2.1+0))+1:=by
        rw [hx2];simp only [List.map_cons,List.map_nil,Rows.uptoBulk,Rows.uptoBulkAll]
       obtain ⟨j0,t0,z0,-⟩:=DataW.trod_int Tryz.underlying3 u0;obtain ⟨hd3,p3,d3',l3,t1,rh3,sh3⟩:=rd_head u1;obtain ⟨fl3,fv3,t2,rf3,sf3⟩:=rd_slice (dat:=ItemD.dat) (sz:=11) (by omega) Tryz.underlying22 cellsItem u2 (fun n cs3 D3 Pl3 hh3 hlt3=>ih n cs3 D3 Pl3 hh3 (by omega))
       simp at t0 t1 t2
       obtain ⟨rfl,rfl,rfl,rfl,rfl⟩:=t1;subst t0 t2;have hz:=zCell_eq (CellD.mk j0 hd3 fl3)
       simp only [CellD.head,CellD.flow] at hz
       have bz:Rows.uptoBulk v0.1=1:=by rw [z0];rfl
       exact ⟨CellD.mk j0 hd3 fl3,RepRow.mkCell (x:=CellD.mk j0 hd3 fl3) rh3 rf3,by simp only [zItems] at hz;omega⟩)
     simp at q0 q1
     obtain ⟨rfl,rfl,rfl,rfl,rfl⟩:=q0;subst q1;have hz:=zRow_eq (RowD.mk hd2 cl)
     simp only [RowD.head,RowD.cells] at hz
     exact ⟨RowD.mk hd2 cl,RepRow.mkRow (x:=RowD.mk hd2 cl) rh2 rc,by simp only [zCells] at hz;omega⟩)
   simp at e0 e1 e2 e3 e4 e5 e6
   obtain ⟨rfl,rfl,rfl,rfl,rfl⟩:=e4;subst e0 e1 e2 e3 e5 e6;have hz:=zItem_eq (ItemD.mk k0 k1 k2 s hd fl rs)
   simp only [ItemD.text,ItemD.head,ItemD.flow,ItemD.rows] at hz
   have b0:Rows.uptoBulk y0.1=1:=by rw [d0];rfl
   have b1:Rows.uptoBulk y1.1=1:=by rw [d1];rfl
   have b2:Rows.uptoBulk y2.1=1:=by rw [d2];rfl
   have b3:Rows.uptoBulk y3.1=s.size+1:=by rw [d3];show s.data.toList.length+1=s.data.size+1;rw [Array.length_toList]
   exact ⟨ItemD.mk k0 k1 k2 s hd fl rs,RepRow.mkItem (x:=ItemD.mk k0 k1 k2 s hd fl rs) rh rf rr,by simp only [zItems,zRows] at hz;omega⟩
/-- A flow that an argument brings. -/
theorem rd_items {n:Nat} {cs:List Value} {x:DataW H × List MemPlace} (h:DataW.trod enc Tryz.prog W base spare held n 22 cs=some x):∃ (l:List ItemD) (v:Value),cs=[v]∧RepV (heapG W) (.sl 11 (l.map ItemD.dat)) v∧zItems l+8≤8*Rows.uptoBulk x.1 :=
 rd_slice (dat:=ItemD.dat) (sz:=11) (by omega) Tryz.underlying22 cellsItem h (fun n cs' D' Pl' hh _=>rd_item _ n cs' D' Pl' hh (Nat.lt_succ_self _))
end
end
section
open Go.ChangeShapes Go.RowKit Go.Deep
theorem szRs_in {ρ:Type} {dat:ρ→List Dat}:∀ {l:List ρ} {x:ρ},x∈l→szR (dat x)+1≤szRs (l.map dat)
 | y :: l,x,h=>by
  rw [List.map_cons,szRs]
  rcases List.mem_cons.1 h with rfl|h
  ·omega
  have:=szRs_in (dat:=dat) h;omega
section
variable {H:Type} {enc:TypeId × Value→H} {W:World} {base:Nat} {spare:Nat→Bool} {held:Bool}
theorem sfStyle:StF Tryz.prog 141 6 [(3,0,1),(3,1,1),(9,2,1),(3,3,1),(3,4,1),(23,5,1)]:=⟨by kernel_rfl,by kernel_rfl,by kernel_rfl⟩
theorem cellsStyle:Tryz.prog.cellsOf 141=6:=by kernel_rfl
theorem rd_style {n:Nat} {cs:List Value} {D:DataW H} {Pl:List MemPlace} (h:DataW.trod enc Tryz.prog W base spare held n 141 cs=some (D,Pl)):∃ r:StyleD,RepRow (heapG W) r.dat cs∧szR r.dat+1≤8*Rows.uptoBulk D:=by
 obtain ⟨xs,m,hx,hl,hxl,hf⟩:=rd_struct sfStyle h
 match cs,hl,xs,hxl with
 | [c0,c1,c2,c3,c4,c5],_,[y0,y1,y2,y3,y4,y5],_ =>
  have h0:=hf 0 _ _ _ rfl;have h1:=hf 1 _ _ _ rfl;have h2:=hf 2 _ _ _ rfl;have h3:=hf 3 _ _ _ rfl;have h4:=hf 4 _ _ _ rfl;have h5:=hf 5 _ _ _ rfl
  simp only at hx
  have hD:Rows.uptoBulk D=Rows.uptoBulk y0.1+(Rows.uptoBulk y1.1+(Rows.uptoBulk y2.1+(Rows.uptoBulk y3.1+(Rows.uptoBulk y4.1+(Rows.uptoBulk y5.1+0)))))+1:=by rw [hx];simp only [List.map_cons,List.map_nil,Rows.uptoBulk,Rows.uptoBulkAll]
  obtain ⟨k0,e0,d0,-⟩:=DataW.trod_int Tryz.underlying3 h0;obtain ⟨k1,e1,d1,-⟩:=DataW.trod_int Tryz.underlying3 h1;obtain ⟨k2,e2,d2,-⟩:=DataW.trod_string Tryz.underlying9 h2;obtain ⟨k3,e3,d3,-⟩:=DataW.trod_int Tryz.underlying3 h3;obtain ⟨k4,e4,d4,-⟩:=DataW.trod_int Tryz.underlying3 h4;obtain ⟨k5,q5,e5,r5,d5⟩:=rd_slice (dat:=PropD.dat) (sz:=2) (by omega) Tryz.underlying23 cellsProp h5 (fun n cs' D Pl hh _=>rd_prop hh)
  simp at e0 e1 e2 e3 e4 e5
  subst e0 e1 e2 e3 e4 e5
  have b0:Rows.uptoBulk y0.1=1:=by rw [d0];rfl
  have b1:Rows.uptoBulk y1.1=1:=by rw [d1];rfl
  have b2:Rows.uptoBulk y2.1=k2.size+1:=by rw [d2];show k2.data.toList.length+1=k2.data.size+1;rw [Array.length_toList]
  have b3:Rows.uptoBulk y3.1=1:=by rw [d3];rfl
  have b4:Rows.uptoBulk y4.1=1:=by rw [d4];rfl
  refine ⟨⟨k0,k1,k2,k3,k4,k5⟩,?_,?_⟩
  ·exact ⟨_,_,rfl,(by simp [RepV,Value.oneCell']),⟨_,_,rfl,(by simp [RepV,Value.oneCell']),⟨_,_,rfl,(by simp [RepV,Value.oneCell']),⟨_,_,rfl,(by simp [RepV,Value.oneCell']),⟨_,_,rfl,(by simp [RepV,Value.oneCell']),⟨_,_,rfl,r5,rfl⟩⟩⟩⟩⟩⟩
  simp only [StyleD.dat,szR,szD];omega
theorem sfLv:StF Tryz.prog 193 4 [(3,0,1),(3,1,1),(9,2,1),(3,3,1)]:=⟨by kernel_rfl,by kernel_rfl,by kernel_rfl⟩
theorem cellsLv:Tryz.prog.cellsOf 193=4:=by kernel_rfl
theorem rd_level {n:Nat} {cs:List Value} {D:DataW H} {Pl:List MemPlace} (h:DataW.trod enc Tryz.prog W base spare held n 193 cs=some (D,Pl)):∃ r:LvD,RepRow (heapG W) r.dat cs∧szR r.dat+1≤8*Rows.uptoBulk D:=by
 obtain ⟨xs,m,hx,hl,hxl,hf⟩:=rd_struct sfLv h
 match cs,hl,xs,hxl with
 | [c0,c1,c2,c3],_,[y0,y1,y2,y3],_ =>
  have h0:=hf 0 _ _ _ rfl;have h1:=hf 1 _ _ _ rfl;have h2:=hf 2 _ _ _ rfl;have h3:=hf 3 _ _ _ rfl
  simp only at hx
  have hD:Rows.uptoBulk D=Rows.uptoBulk y0.1+(Rows.uptoBulk y1.1+(Rows.uptoBulk y2.1+(Rows.uptoBulk y3.1+0)))+1:=by rw [hx];simp only [List.map_cons,List.map_nil,Rows.uptoBulk,Rows.uptoBulkAll]
  obtain ⟨k0,e0,d0,-⟩:=DataW.trod_int Tryz.underlying3 h0;obtain ⟨k1,e1,d1,-⟩:=DataW.trod_int Tryz.underlying3 h1;obtain ⟨k2,e2,d2,-⟩:=DataW.trod_string Tryz.underlying9 h2;obtain ⟨k3,e3,d3,-⟩:=DataW.trod_int Tryz.underlying3 h3
  simp at e0 e1 e2 e3
  subst e0 e1 e2 e3
  have b0:Rows.uptoBulk y0.1=1:=by rw [d0];rfl
  have b1:Rows.uptoBulk y1.1=1:=by rw [d1];rfl
  have b2:Rows.uptoBulk y2.1=k2.size+1:=by rw [d2];show k2.data.toList.length+1=k2.data.size+1;rw [Array.length_toList]
  have b3:Rows.uptoBulk y3.1=1:=by rw [d3];rfl
  refine ⟨⟨k0,k1,k2,k3⟩,?_,?_⟩
  ·exact ⟨_,_,rfl,(by simp [RepV,Value.oneCell']),⟨_,_,rfl,(by simp [RepV,Value.oneCell']),⟨_,_,rfl,(by simp [RepV,Value.oneCell']),⟨_,_,rfl,(by simp [RepV,Value.oneCell']),rfl⟩⟩⟩⟩
  simp only [LvD.dat,szR,szD];omega
theorem sfLi:StF Tryz.prog 144 2 [(3,0,1),(142,1,1)]:=⟨by kernel_rfl,by kernel_rfl,by kernel_rfl⟩
theorem cellsLi:Tryz.prog.cellsOf 144=2:=by kernel_rfl
theorem rd_list {n:Nat} {cs:List Value} {D:DataW H} {Pl:List MemPlace} (h:DataW.trod enc Tryz.prog W base spare held n 144 cs=some (D,Pl)):∃ r:LiD,RepRow (heapG W) r.dat cs∧szR r.dat+1≤8*Rows.uptoBulk D:=by
 obtain ⟨xs,m,hx,hl,hxl,hf⟩:=rd_struct sfLi h
 match cs,hl,xs,hxl with
 | [c0,c1],_,[y0,y1],_ =>
  have h0:=hf 0 _ _ _ rfl;have h1:=hf 1 _ _ _ rfl
  simp only at hx
  have hD:Rows.uptoBulk D=Rows.uptoBulk y0.1+(Rows.uptoBulk y1.1+0)+1:=by rw [hx];simp only [List.map_cons,List.map_nil,Rows.uptoBulk,Rows.uptoBulkAll]
  obtain ⟨k0,e0,d0,-⟩:=DataW.trod_int Tryz.underlying3 h0;obtain ⟨k1,q1,e1,r1,d1⟩:=rd_slice (dat:=LvD.dat) (sz:=4) (by omega) Tryz.underlying142 cellsLv h1 (fun n cs' D Pl hh _=>rd_level hh)
  simp at e0 e1
  subst e0 e1
  have b0:Rows.uptoBulk y0.1=1:=by rw [d0];rfl
  refine ⟨⟨k0,k1⟩,?_,?_⟩
  ·exact ⟨_,_,rfl,(by simp [RepV,Value.oneCell']),⟨_,_,rfl,r1,rfl⟩⟩
  simp only [LiD.dat,szR,szD];omega
theorem sfCm:StF Tryz.prog 170 6 [(3,0,1),(3,1,1),(9,2,1),(3,3,1),(9,4,1),(4,5,1)]:=⟨by kernel_rfl,by kernel_rfl,by kernel_rfl⟩
theorem cellsCm:Tryz.prog.cellsOf 170=6:=by kernel_rfl
theorem rd_comment {n:Nat} {cs:List Value} {D:DataW H} {Pl:List MemPlace} (h:DataW.trod enc Tryz.prog W base spare held n 170 cs=some (D,Pl)):∃ r:CmD,RepRow (heapG W) r.dat cs∧szR r.dat+1≤8*Rows.uptoBulk D:=by
 obtain ⟨xs,m,hx,hl,hxl,hf⟩:=rd_struct sfCm h
 match cs,hl,xs,hxl with
 | [c0,c1,c2,c3,c4,c5],_,[y0,y1,y2,y3,y4,y5],_ =>
  have h0:=hf 0 _ _ _ rfl;have h1:=hf 1 _ _ _ rfl;have h2:=hf 2 _ _ _ rfl;have h3:=hf 3 _ _ _ rfl;have h4:=hf 4 _ _ _ rfl;have h5:=hf 5 _ _ _ rfl
  simp only at hx
  have hD:Rows.uptoBulk D=Rows.uptoBulk y0.1+(Rows.uptoBulk y1.1+(Rows.uptoBulk y2.1+(Rows.uptoBulk y3.1+(Rows.uptoBulk y4.1+(Rows.uptoBulk y5.1+0)))))+1:=by rw [hx];simp only [List.map_cons,List.map_nil,Rows.uptoBulk,Rows.uptoBulkAll]
  obtain ⟨k0,e0,d0,-⟩:=DataW.trod_int Tryz.underlying3 h0;obtain ⟨k1,e1,d1,-⟩:=DataW.trod_int Tryz.underlying3 h1;obtain ⟨k2,e2,d2,-⟩:=DataW.trod_string Tryz.underlying9 h2;obtain ⟨k3,e3,d3,-⟩:=DataW.trod_int Tryz.underlying3 h3;obtain ⟨k4,e4,d4,-⟩:=DataW.trod_string Tryz.underlying9 h4;obtain ⟨k5,e5,d5⟩:=DataW.trod_bool Tryz.underlying4 h5
  simp at e0 e1 e2 e3 e4 e5
  subst e0 e1 e2 e3 e4 e5
  have b0:Rows.uptoBulk y0.1=1:=by rw [d0];rfl
  have b1:Rows.uptoBulk y1.1=1:=by rw [d1];rfl
  have b2:Rows.uptoBulk y2.1=k2.size+1:=by rw [d2];show k2.data.toList.length+1=k2.data.size+1;rw [Array.length_toList]
  have b3:Rows.uptoBulk y3.1=1:=by rw [d3];rfl
  have b4:Rows.uptoBulk y4.1=k4.size+1:=by rw [d4];show k4.data.toList.length+1=k4.data.size+1;rw [Array.length_toList]
  have b5:Rows.uptoBulk y5.1=1:=by rw [d5];rfl
  refine ⟨⟨k0,k1,k2,k3,k4,k5⟩,?_,?_⟩
  ·exact ⟨_,_,rfl,(by simp [RepV,Value.oneCell']),⟨_,_,rfl,(by simp [RepV,Value.oneCell']),⟨_,_,rfl,(by simp [RepV,Value.oneCell']),⟨_,_,rfl,(by simp [RepV,Value.oneCell']),⟨_,_,rfl,(by simp [RepV,Value.oneCell']),⟨_,_,rfl,(by simp [RepV,Value.oneCell']),rfl⟩⟩⟩⟩⟩⟩
  simp only [CmD.dat,szR,szD];omega
theorem sfVa:StF Tryz.prog 175 2 [(9,0,1),(9,1,1)]:=⟨by kernel_rfl,by kernel_rfl,by kernel_rfl⟩
theorem cellsVa:Tryz.prog.cellsOf 175=2:=by kernel_rfl
theorem rd_var {n:Nat} {cs:List Value} {D:DataW H} {Pl:List MemPlace} (h:DataW.trod enc Tryz.prog W base spare held n 175 cs=some (D,Pl)):∃ r:VaD,RepRow (heapG W) r.dat cs∧szR r.dat+1≤8*Rows.uptoBulk D:=by
 obtain ⟨xs,m,hx,hl,hxl,hf⟩:=rd_struct sfVa h
 match cs,hl,xs,hxl with
 | [c0,c1],_,[y0,y1],_ =>
  have h0:=hf 0 _ _ _ rfl;have h1:=hf 1 _ _ _ rfl
  simp only at hx
  have hD:Rows.uptoBulk D=Rows.uptoBulk y0.1+(Rows.uptoBulk y1.1+0)+1:=by rw [hx];simp only [List.map_cons,List.map_nil,Rows.uptoBulk,Rows.uptoBulkAll]
  obtain ⟨k0,e0,d0,-⟩:=DataW.trod_string Tryz.underlying9 h0;obtain ⟨k1,e1,d1,-⟩:=DataW.trod_string Tryz.underlying9 h1
  simp at e0 e1
  subst e0 e1
  have b0:Rows.uptoBulk y0.1=k0.size+1:=by rw [d0];show k0.data.toList.length+1=k0.data.size+1;rw [Array.length_toList]
  have b1:Rows.uptoBulk y1.1=k1.size+1:=by rw [d1];show k1.data.toList.length+1=k1.data.size+1;rw [Array.length_toList]
  refine ⟨⟨k0,k1⟩,?_,?_⟩
  ·exact ⟨_,_,rfl,(by simp [RepV,Value.oneCell']),⟨_,_,rfl,(by simp [RepV,Value.oneCell']),rfl⟩⟩
  simp only [VaD.dat,szR,szD];omega
theorem sfRv:StF Tryz.prog 135 3 [(3,0,1),(9,1,1),(3,2,1)]:=⟨by kernel_rfl,by kernel_rfl,by kernel_rfl⟩
theorem cellsRv:Tryz.prog.cellsOf 135=3:=by kernel_rfl
theorem rd_rev {n:Nat} {cs:List Value} {D:DataW H} {Pl:List MemPlace} (h:DataW.trod enc Tryz.prog W base spare held n 135 cs=some (D,Pl)):∃ r:RvD,RepRow (heapG W) r.dat cs∧szR r.dat+1≤8*Rows.uptoBulk D:=by
 obtain ⟨xs,m,hx,hl,hxl,hf⟩:=rd_struct sfRv h
 match cs,hl,xs,hxl with
 | [c0,c1,c2],_,[y0,y1,y2],_ =>
  have h0:=hf 0 _ _ _ rfl;have h1:=hf 1 _ _ _ rfl;have h2:=hf 2 _ _ _ rfl
  simp only at hx
  have hD:Rows.uptoBulk D=Rows.uptoBulk y0.1+(Rows.uptoBulk y1.1+(Rows.uptoBulk y2.1+0))+1:=by rw [hx];simp only [List.map_cons,List.map_nil,Rows.uptoBulk,Rows.uptoBulkAll]
  obtain ⟨k0,e0,d0,-⟩:=DataW.trod_int Tryz.underlying3 h0;obtain ⟨k1,e1,d1,-⟩:=DataW.trod_string Tryz.underlying9 h1;obtain ⟨k2,e2,d2,-⟩:=DataW.trod_int Tryz.underlying3 h2
  simp at e0 e1 e2
  subst e0 e1 e2
  have b0:Rows.uptoBulk y0.1=1:=by rw [d0];rfl
  have b1:Rows.uptoBulk y1.1=k1.size+1:=by rw [d1];show k1.data.toList.length+1=k1.data.size+1;rw [Array.length_toList]
  have b2:Rows.uptoBulk y2.1=1:=by rw [d2];rfl
  refine ⟨⟨k0,k1,k2⟩,?_,?_⟩
  ·exact ⟨_,_,rfl,(by simp [RepV,Value.oneCell']),⟨_,_,rfl,(by simp [RepV,Value.oneCell']),⟨_,_,rfl,(by simp [RepV,Value.oneCell']),rfl⟩⟩⟩
  simp only [RvD.dat,szR,szD];omega
theorem sfStg:StF Tryz.prog 36 4 [(31,0,1),(32,1,1),(33,2,1),(34,3,1)]:=⟨by kernel_rfl,by kernel_rfl,by kernel_rfl⟩
/-- Sizes of settings that were read. -/
structure StgB (s:StgD) (n:Nat):Prop where
 st:szRs (s.styles.map StyleD.dat)≤n
 li:szRs (s.lists.map LiD.dat)≤n
 cm:szRs (s.comments.map CmD.dat)≤n
 va:szRs (s.vars.map VaD.dat)≤n
theorem StgB.zn {s:StgD} {n:Nat} (h:StgB s n) (hn:n≤4294967296):StgZ s∧s.styles.length≤4294967296:=by
 obtain ⟨h1,h2,h3,h4⟩:=h;have l1:=szRs_length (s.styles.map StyleD.dat);have l2:=szRs_length (s.lists.map LiD.dat);have l3:=szRs_length (s.comments.map CmD.dat);have l4:=szRs_length (s.vars.map VaD.dat);rw [List.length_map] at l1 l2 l3 l4;refine ⟨⟨fun x hx=>?_,by omega,fun x hx y hy=>?_,by omega,fun x hx=>?_,by omega,fun x hx=>?_⟩,by omega⟩
 ·have:=szRs_in (dat:=StyleD.dat) hx
  simp only [StyleD.dat,szR,szD] at this;omega
 ·have:=szRs_in (dat:=LiD.dat) hx
  simp only [LiD.dat,szR,szD] at this
  have h5:=szRs_in (dat:=LvD.dat) hy
  simp only [LvD.dat,szR,szD] at h5;omega
 ·have:=szRs_in (dat:=CmD.dat) hx
  simp only [CmD.dat,szR,szD] at this;omega
 have:=szRs_in (dat:=VaD.dat) hx
 simp only [VaD.dat,szR,szD] at this;omega
/-- Settings among other cells. -/
theorem rd_stg {n:Nat} {cs:List Value} {x:DataW H × List MemPlace} (h:DataW.trod enc Tryz.prog W base spare held n 36 cs=some x):∃ (s:StgD) (a b c d:Value),cs=[a,b,c,d]∧StgR (heapG W) s a b c d∧StgB s (8*Rows.uptoBulk x.1):=by
 obtain ⟨xs,m,hx,hl,hxl,hf⟩:=rd_struct sfStg h
 match cs,hl,xs,hxl with
 | [c0,c1,c2,c3],_,[y0,y1,y2,y3],_ =>
  have h0:=hf 0 _ _ _ rfl;have h1:=hf 1 _ _ _ rfl;have h2:=hf 2 _ _ _ rfl;have h3:=hf 3 _ _ _ rfl;obtain ⟨k0,q0,e0,r0,d0⟩:=rd_slice (dat:=StyleD.dat) (sz:=6) (by omega) Tryz.underlying31 cellsStyle h0 (fun n cs' D Pl hh _=>rd_style hh);obtain ⟨k1,q1,e1,r1,d1⟩:=rd_slice (dat:=LiD.dat) (sz:=2) (by omega) Tryz.underlying32 cellsLi h1 (fun n cs' D Pl hh _=>rd_list hh);obtain ⟨k2,q2,e2,r2,d2⟩:=rd_slice (dat:=CmD.dat) (sz:=6) (by omega) Tryz.underlying33 cellsCm h2 (fun n cs' D Pl hh _=>rd_comment hh);obtain ⟨k3,q3,e3,r3,d3⟩:=rd_slice (dat:=VaD.dat) (sz:=2) (by omega) Tryz.underlying34 cellsVa h3 (fun n cs' D Pl hh _=>rd_var hh)
  simp at e0 e1 e2 e3
  subst e0 e1 e2 e3
  have hD:Rows.uptoBulk x.1=Rows.uptoBulk y0.1+(Rows.uptoBulk y1.1+(Rows.uptoBulk y2.1+(Rows.uptoBulk y3.1+0)))+1:=by rw [hx];simp only [List.map_cons,List.map_nil,Rows.uptoBulk,Rows.uptoBulkAll]
  exact ⟨⟨k0,k1,k2,k3⟩,_,_,_,_,rfl,⟨r0,r1,r2,r3⟩,⟨by show szRs (k0.map _)≤_;omega,by show szRs (k1.map _)≤_;omega,by show szRs (k2.map _)≤_;omega,by show szRs (k3.map _)≤_;omega⟩⟩
theorem sfDoc:StF Tryz.prog 38 11 [(22,0,1),(29,1,5),(30,6,1),(36,7,4)]:=⟨by kernel_rfl,by kernel_rfl,by kernel_rfl⟩
theorem sl_of {G:GH} {sz:Nat} {rs:List (List Dat)} {v:Value} (h:RepV G (.sl sz rs) v):∃ x,v=sl3 x:=by
 obtain ⟨a,n,c,rfl⟩:=h.form;exact ⟨(a,n,c),rfl⟩
/-- A document that an argument brings. -/
theorem rd_doc {n:Nat} {cs:List Value} {x:DataW H × List MemPlace} (h:DataW.trod enc Tryz.prog W base spare held n 38 cs=some x) (hb:Rows.uptoBulk x.1≤1048576):∃ (D:DocV) (d:DocD),cs=D.cells∧DocR (heapG W) D d∧DocZ d:=by
 obtain ⟨xs,m,hx,hl,hxl,hf⟩:=rd_struct sfDoc h
 match cs,hl,xs,hxl with
 | [c0,c1,c2,c3,c4,c5,c6,c7,c8,c9,c10],_,[y0,y1,y2,y3],_ =>
  have h0:=hf 0 _ _ _ rfl;have h1:=hf 1 _ _ _ rfl;have h2:=hf 2 _ _ _ rfl;have h3:=hf 3 _ _ _ rfl;obtain ⟨l,q0,e0,r0,d0⟩:=rd_items h0;obtain ⟨hd,p,dd,ll,e1,r1,d1⟩:=rd_head h1;obtain ⟨rv,q2,e2,r2,d2⟩:=rd_slice (dat:=RvD.dat) (sz:=3) (by omega) Tryz.underlying30 cellsRv h2 (fun n cs' D Pl hh _=>rd_rev hh);obtain ⟨s,a,b,c,d,e3,r3,d3⟩:=rd_stg h3
  simp at e0 e1 e2 e3
  obtain ⟨rfl,rfl,rfl,rfl,rfl⟩:=e1;obtain ⟨rfl,rfl,rfl,rfl⟩:=e3;subst e0 e2
  have hD:Rows.uptoBulk x.1=Rows.uptoBulk y0.1+(Rows.uptoBulk y1.1+(Rows.uptoBulk y2.1+(Rows.uptoBulk y3.1+0)))+1:=by rw [hx];simp only [List.map_cons,List.map_nil,Rows.uptoBulk,Rows.uptoBulkAll]
  obtain ⟨x0,rfl⟩:=sl_of r0;obtain ⟨x1,rfl⟩:=sl_of r1.props;obtain ⟨x2,rfl⟩:=sl_of r1.dels;obtain ⟨x3,rfl⟩:=sl_of r1.layers;obtain ⟨x4,rfl⟩:=sl_of r2;obtain ⟨x5,rfl⟩:=sl_of r3.st;obtain ⟨x6,rfl⟩:=sl_of r3.li;obtain ⟨x7,rfl⟩:=sl_of r3.cm;obtain ⟨x8,rfl⟩:=sl_of r3.va;obtain ⟨hz1,hz2⟩:=d3.zn (by omega);have l2:=szRs_length (rv.map RvD.dat);rw [List.length_map] at l2;refine ⟨⟨x0,x1,x2,x3,x4,x5,x6,x7,x8,hd.marks.ins,hd.marks.move⟩,⟨l,hd,rv,s⟩,rfl,⟨r0,r1,rfl,rfl,r2,r3⟩,⟨by show zItems l≤_;omega,by show zHead hd≤_;omega,by show rv.length≤_;omega,fun x hx=>?_,hz2,hz1⟩⟩;have:=szRs_in (dat:=RvD.dat) hx
  simp only [RvD.dat,szR,szD] at this
  omega
end
end
end Go.Proofs.YthichnnlceeofaaGreat
