/-
  What the claim stands on, part 3: Package document: in, when, first, all, increasing. Packages codepoint, document and obeluslaw13: names, authors, texts, ids. Pointers that may be nil. Regions that draw the order of their operations, in which each operation has its own part of what is owned: the layout is told by what is done. Regions that draw the order of their operations, in which one operation among the others makes what is owned more. Drawn regions in which one operation makes what is owned more, and others look into what is owned. Drawn regions in which one operation, not the last, stores into what is owned. Package leveltext: the scanner's builder. Drawn regions in which two operations make what is owned more. Drawn regions in which a call turns what is owned, and an operation behind it makes it more. Package leveltext: the scanner's flush and place. Regions that draw the order of their operations, of which some write slots that others read before; the beginning of a string. Package leveltext: the scanner's percent. Package leveltext: the scanner's scan. The bytes of a string as a slice that is only read. Package leveltext: Parse, Check, CheckLevels. Package leveltext: CheckLevels. Package document: checkLists.
-/
import Derived.Test.YtlnhhlighgaapaaGreatSb
import Derived.Lib.ConvBytes
namespace Go.Proofs.YtlnhhlighgaapaaGreat
section
open Go.RowKit
theorem ty22fst:Ty Tryz.prog 22 1 8 [.int .i64 0] false:=⟨by kernel_rfl,by kernel_rfl⟩
theorem un221fst:Tryz.prog.underlying 221=some (.slice 22):=by kernel_rfl
theorem en128fst:∀ args w,(callFunc 128 args).run Tryz.prog w=.ok (.enter 128 args) w:=enters Tryz.func128 rfl (by kernel_rfl)
theorem in_spec (G:GH) (w0:World) (hG:Hold G w0) (n l h:Int):Calls Tryz.prog 128 #[vi n,vi l,vi h] w0 (Ret w0 G fun u G'=>u=.bool (decide (l≤n∧n≤h))∧G=G'):=by
 refine eN [(0,_),(1,_),(2,_)] Tryz.func128 rfl Tryz.ntmps128 rfl rfl hG ?_;intro a H;refine c_seqR (fun _ K1=>?_);refine kH H (Ra rfl ?_);clear H;intro a H;refine K1 _ _ ?_;clear K1;refine c_seqR (fun _ K2=>?_);refine kH H (Rm rfl (Rm rfl (Rc rfl (Rm rfl ?_))));clear H;intro a H;refine s_split H 10 rfl ?_ ?_
 ·intro h10
  try have p10:=of_decide_eq_true h10
  (iterate 2 refine s_move H (wg H rfl rfl h10) rfl rfl ?_;clear H;intro a H);refine s_cmp H (wg H rfl rfl h10) rfl rfl rfl rfl ?_;clear H;intro a H;refine s_pick_t H wn rfl h10 rfl rfl ?_;clear H;intro a H;refine kH H (Ra rfl ?_);clear H;intro a H;refine K2 _ _ ?_;clear K2;refine c_ret ?_;refine lv H Tryz.results128 rfl ?_;exact H.hp.ret ⟨congrArg Value.bool (by first|(simp_all;done)|(simp_all;omega)),rfl⟩
 intro h10
 try have p10:=of_decide_eq_false h10
 (iterate 3 refine s_skip H rfl rfl h10 rfl ?_;clear H;intro a H);refine s_pick_f H wn rfl h10 rfl rfl ?_;clear H;intro a H;refine kH H (Ra rfl ?_);clear H;intro a H;refine K2 _ _ ?_;clear K2;refine c_ret ?_;refine lv H Tryz.results128 rfl ?_;exact H.hp.ret ⟨congrArg Value.bool (by first|(simp_all;done)|(simp_all;omega)),rfl⟩
def whenE (b:Bool) (e:Int):Int:=if b=true then e else 0
theorem when_spec (G:GH) (w0:World) (hG:Hold G w0) (b:Bool) (e:Int):Calls Tryz.prog 65 #[.bool b,vi e] w0 (Ret w0 G fun u G'=>u=vi (whenE b e)∧G=G'):=by
 refine eN [(0,_),(1,_)] Tryz.func65 rfl Tryz.ntmps65 rfl rfl hG ?_;intro a H;refine c_seqR (fun _ K1=>?_);refine kH H (Ra rfl ?_);clear H;intro a H;refine K1 _ _ ?_;clear K1;refine c_seq (fun _ K2=>?_);refine c_seqR (fun _ K3=>?_);refine kH H (Rm rfl ?_);clear H;intro a H;refine K3 _ _ ?_;clear K3;refine c_cond H rfl ?_ ?_
 ·intro h5
  try have p5:=of_decide_eq_true h5
  refine c_seqR (fun _ K4=>?_);refine kH H (Rm rfl (Ra rfl ?_));clear H;intro a H;refine K4 _ _ ?_;clear K4;refine c_ret ?_;refine lv H Tryz.results65 rfl ?_;exact H.hp.ret ⟨congrArg vi (by simp_all [whenE]),rfl⟩
 intro h5
 try have p5:=of_decide_eq_false h5
 refine c_skip ?_;refine K2 _ _ ?_;clear K2;refine c_seqR (fun _ K5=>?_);refine kH H (Ra rfl ?_);clear H;intro a H;refine K5 _ _ ?_;clear K5;refine c_ret ?_;refine lv H Tryz.results65 rfl ?_;exact H.hp.ret ⟨congrArg vi (by simp_all [whenE]),rfl⟩
/-- The first error of a list. -/
def firstE:List Int→Int
 | []=>0
 | e :: r=>if e≠0 then e else firstE r
theorem firstE_at {l:List Int} {k:Nat} (h:k < l.length):firstE (l.drop k)=if l[k]≠0 then l[k] else firstE (l.drop (k+1)):=by
 rw [List.drop_eq_getElem_cons h,firstE]
theorem first_spec1 (G:GH) (w0:World) (hG:Hold G w0) (l:List Int) (v:Value) (hv:RepV G (.sl 1 (l.map fun k=>[li k])) v) :
  Calls Tryz.prog 52 #[v] w0 (Ret w0 G fun u G'=>u=vi (firstE l)∧G=G'):=by
 obtain ⟨A,c,rfl,hc1,hc2,hg⟩:=hv.slice;have hml:maxLen=9223372036854775807:=rfl;rw [List.length_map] at *;refine eN [(0,_)] Tryz.func52 rfl Tryz.ntmps52 rfl rfl hG ?_;intro a H;refine c_seqR (fun _ K1=>?_);refine kH H (Ra rfl ?_);clear H;intro a H;refine K1 _ _ ?_;clear K1;refine c_seq (fun _ K2=>?_);refine c_seqR (fun _ K3=>?_);refine kH H (Rm rfl (Rl un221fst rfl (Rm rfl ?_)));clear H;intro a H;refine K3 _ _ ?_;clear K3;refine c_block ?_;skip;refine c_loopS (ι:=Nat) (Tc:=[(5,_),(6,_)]) (Lc:=[]) (fun (gh:Nat)=>[(7,vi gh)]) (fun (gh:Nat)=>[]) (fun (gh:Nat)=>G) (fun (gh:Nat)=>gh≤l.length∧firstE (l.drop gh)=firstE l) (fun (gh:Nat)=>l.length - gh) (0) (by exact (H).sub ⟨rfl,rfl,rfl,trivial⟩) ?_ ?_
 ·exact ⟨Nat.zero_le _,rfl⟩
 clear H;intro gh a w hI H;obtain ⟨k,hgh⟩:∃ x,x=gh:=⟨_,rfl⟩;subst hgh;obtain ⟨hk,he⟩:=hI;dsimp only [List.cons_append,List.nil_append,List.append_nil] at H;refine c_seqR (fun _ K4=>?_);refine kH H (Rc rfl ?_);clear H;intro a H;refine K4 _ _ ?_;clear K4;refine c_seq (fun _ K5=>?_);refine c_cond H rfl ?_ ?_
 ·intro h8
  try have p8:=of_decide_eq_true h8
  have hk2:k < l.length:=by omega
  obtain ⟨b,o,cs,rfl,hcl,hrow,hr⟩:=hg k [li l[k]] (by simp [hk2]);obtain ⟨v1,_,rfl,⟨rfl,-⟩,rfl⟩:∃ v vs,cs=v :: vs∧RepV G (li l[k]) v∧RepRow G [] vs:=hr
  have hcell:gcell G b (o+k*1)=some (vi l[k]):=by simpa using hrow 0 _ rfl
  refine c_skip ?_;refine K5 _ _ ?_;clear K5;refine c_seq (fun _ K6=>?_);refine c_block ?_;refine c_seqR (fun _ K7=>?_);refine s_index un221fst ty22fst _ H wn rfl rfl rfl (by first|assumption|omega) rfl ?_;clear H;intro a H;refine s_load ty22fst H wn rfl (H.hp.gcell hcell) rfl ?_;clear H;intro a H;refine kH H (Ra rfl ?_);clear H;intro a H;refine K7 _ _ ?_;clear K7;refine c_seqR (fun _ K8=>?_);refine kH H (Rm rfl (Rc rfl ?_));clear H;intro a H;refine K8 _ _ ?_;clear K8;refine c_cond H rfl ?_ ?_
  ·intro h12
   try have p12:=of_decide_eq_true h12
   refine c_seqR (fun _ K9=>?_);refine kH H (Rm rfl (Ra rfl ?_));clear H;intro a H;refine K9 _ _ ?_;clear K9;refine c_ret ?_;refine lv H Tryz.results52 rfl ?_;exact H.hp.ret ⟨congrArg vi (by rw [firstE_at hk2,if_pos p12] at he;exact he),rfl⟩
  intro h12
  try have p12:=of_decide_eq_false h12
  refine c_skip ?_;refine K6 _ _ ?_;clear K6;refine c_region ?_;refine s_add _ H wn rfl rfl rfl (by omega) (by omega) rfl ?_;clear H;intro a H;refine kH H (Rm rfl ?_);clear H;intro a H;refine wl_nil ?_;refine loop_end ((k+1)) (by exact (H).sub ⟨rfl,rfl,rfl,trivial⟩) ?_ ?_
  ·exact ⟨by omega,by rw [firstE_at hk2,if_neg p12] at he;exact he⟩
  first|omega|(dsimp only;omega)
 intro h8
 try have p8:=of_decide_eq_false h8
 refine c_exit ?_;refine K2 _ _ ?_;clear K2;refine c_seqR (fun _ K10=>?_);refine kH H (Ra rfl ?_);clear H;intro a H;refine K10 _ _ ?_;clear K10;refine c_ret ?_;refine lv H Tryz.results52 rfl ?_;exact H.hp.ret ⟨congrArg vi (by rw [List.drop_of_length_le (by omega)] at he;exact he),rfl⟩
/-- A function of an index that gives an error. -/
def IxCb (fv:Value) (Gi:GH) (n:Nat) (E:Nat→Int):Prop:=∀ i,i < n→∀ (G1:GH) (w1:World),(∀ b o,Gi b=some o→G1 b=some o)→Hold G1 w1→CallV Tryz.prog fv [vi i] w1 (Ret w1 G1 fun u G'=>u=vi (E i))
theorem IxCb.mono {fv:Value} {G G':GH} {n:Nat} {E:Nat→Int} (h:IxCb fv G n E) (hm:∀ b o,G b=some o→G' b=some o):IxCb fv G' n E:=fun i hi G1 w1 hG1=>h i hi G1 w1 fun b o hb=>hG1 b o (hm b o hb)
def allE (E:Nat→Int) (n:Nat):Int:=firstE ((List.range n).map E)
theorem allE_at {E:Nat→Int} {n k:Nat} (h:k < n):firstE (((List.range n).map E).drop k)=if E k≠0 then E k else firstE (((List.range n).map E).drop (k+1)):=by
 rw [firstE_at (by simpa using h)];simp
theorem all_spec (G:GH) (w0:World) (hG:Hold G w0) (n:Nat) (E:Nat→Int) (fv:Value) (hn:n≤4611686018427387904) (hf:IxCb fv G n E) :
  Calls Tryz.prog 119 #[vi n,fv] w0 (Ret w0 G fun u G'=>u=vi (allE E n)):=by
 refine eN [(0,_),(1,_)] Tryz.func119 rfl Tryz.ntmps119 rfl rfl hG ?_;intro a H;refine c_seqR (fun _ K1=>?_);refine kH H (Ra rfl ?_);clear H;intro a H;refine K1 _ _ ?_;clear K1;refine c_seq (fun _ K2=>?_);refine c_seqR (fun _ K3=>?_);refine kH H (Rm rfl (Rm rfl ?_));clear H;intro a H;refine K3 _ _ ?_;clear K3;refine c_block ?_;skip;refine c_loopS (ι:=Nat × GH) (Tc:=[(1,_),(7,_)]) (Lc:=[]) (fun (gh:Nat × GH)=>[(8,vi gh.1)]) (fun (gh:Nat × GH)=>[]) (fun (gh:Nat × GH)=>gh.2) (fun (gh:Nat × GH)=>gh.1≤n∧firstE (((List.range n).map E).drop gh.1)=allE E n∧(∀ b o,G b=some o→gh.2 b=some o)) (fun (gh:Nat × GH)=>n - gh.1) ((0,G)) (by exact (H).sub ⟨rfl,rfl,rfl,trivial⟩) ?_ ?_
 ·exact ⟨Nat.zero_le _,rfl,fun _ _ h=>h⟩
 clear H;intro gh a w hI H;obtain ⟨k,g⟩:=gh;dsimp only at hI H;obtain ⟨hk,he,hgm⟩:=hI;dsimp only [List.cons_append,List.nil_append,List.append_nil] at H;refine c_seqR (fun _ K4=>?_);refine kH H (Rc rfl ?_);clear H;intro a H;refine K4 _ _ ?_;clear K4;refine c_seq (fun _ K5=>?_);refine c_cond H rfl ?_ ?_
 ·intro h9
  try have p9:=of_decide_eq_true h9
  have hk2:k < n:=by omega
  refine c_skip ?_;refine K5 _ _ ?_;clear K5;refine c_seq (fun _ K6=>?_);refine c_block ?_;refine c_seqR (fun _ K7=>?_);refine kH H (Rm rfl (Ra rfl ?_));clear H;intro a H;refine K7 _ _ ?_;clear K7;refine c_seqR (fun _ K8=>?_);refine kH H (Rm rfl (Rm rfl ?_));clear H;intro a H;refine s_callv0 H wn rfl rfl (hf k hk2 _ _ hgm H.hp.ro) rfl ?_;clear H;rintro v13 G13 a w rfl hm13 H;refine kH H (Ra rfl ?_);clear H;intro a H;refine K8 _ _ ?_;clear K8;refine c_seqR (fun _ K9=>?_);refine kH H (Rm rfl (Rc rfl ?_));clear H;intro a H;refine K9 _ _ ?_;clear K9;refine c_cond H rfl ?_ ?_
  ·intro h15
   try have p15:=of_decide_eq_true h15
   refine c_seqR (fun _ K10=>?_);refine kH H (Rm rfl (Ra rfl ?_));clear H;intro a H;refine K10 _ _ ?_;clear K10;refine c_ret ?_;refine lv H Tryz.results119 rfl ?_;exact H.hp.ret (congrArg vi (by rw [allE_at hk2,if_pos p15] at he;exact he))
  intro h15
  try have p15:=of_decide_eq_false h15
  refine c_skip ?_;refine K6 _ _ ?_;clear K6;refine c_region ?_;refine s_add _ H wn rfl rfl rfl (by omega) (by omega) rfl ?_;clear H;intro a H;refine kH H (Rm rfl ?_);clear H;intro a H;refine wl_nil ?_;refine loop_end ((k+1,G13)) (by exact (H).sub ⟨rfl,rfl,rfl,trivial⟩) ?_ ?_
  ·(try dsimp only);exact ⟨by omega,by rw [allE_at hk2,if_neg p15] at he;exact he,fun b o h=>hm13 b o (hgm b o h)⟩
  first|omega|(dsimp only;omega)
 intro h9
 try have p9:=of_decide_eq_false h9
 refine c_exit ?_;refine K2 _ _ ?_;clear K2;refine c_seqR (fun _ K11=>?_);refine kH H (Ra rfl ?_);clear H;intro a H;refine K11 _ _ ?_;clear K11;refine c_ret ?_;refine lv H Tryz.results119 rfl ?_;exact H.hp.ret (congrArg vi (by rw [List.drop_of_length_le (by simp;omega)] at he;exact he))
/-- The error of the id with an index. -/
def incE (id:Nat→Int) (i:Nat):Int:=if ¬ (1≤id i∧id i≤1073741824) then 18 else if 0 < i∧id i=id (i - 1) then 7 else if 0 < i∧id i < id (i - 1) then 6 else 0
theorem increasing_spec (G:GH) (w0:World) (hG:Hold G w0) (i:Nat) (id:Nat→Int) (fv:Value) (hn:i≤4611686018427387904) (hf:IxCb fv G (i+1) id) :
  Calls Tryz.prog 121 #[vi i,fv] w0 (Ret w0 G fun u G'=>u=vi (incE id i)):=by
 refine eN [(0,_),(1,_)] Tryz.func121 rfl Tryz.ntmps121 rfl rfl hG ?_;intro a H;refine c_seqR (fun _ K1=>?_);refine kH H (Ra rfl ?_);clear H;intro a H;refine K1 _ _ ?_;clear K1;refine c_seq (fun _ K2=>?_);refine c_block ?_;refine c_seqR (fun _ K3=>?_);refine kH H (Rm rfl (Rm rfl ?_));clear H;intro a H;refine s_callv0 H wn rfl rfl (hf i (Nat.lt_succ_self _) _ _ (fun _ _ h=>h) H.hp.ro) rfl ?_;clear H;rintro v8 G8 a w rfl hm8 H;refine s_call en128fst H wn rfl (in_spec _ _ H.hp.ro (id i) 1 1073741824) rfl ?_;clear H;rintro v9 _ a w ⟨rfl,rfl⟩ - H;refine kH H (Rn rfl (Ra rfl ?_));clear H;intro a H;refine K3 _ _ ?_;clear K3;refine c_cond H rfl ?_ ?_
 ·intro h5
  try have p5:=of_decide_eq_true h5
  refine c_seqR (fun _ K4=>?_);refine kH H (Ra rfl ?_);clear H;intro a H;refine K4 _ _ ?_;clear K4;refine c_ret ?_;refine lv H Tryz.results121 rfl ?_
  exact H.hp.ret (congrArg vi (by unfold incE;(repeat' split) <;> first|rfl|(exfalso;simp_all;done)|(exfalso;simp_all;omega)))
 intro h5
 try have p5:=of_decide_eq_false h5
 refine c_seqR (fun _ K5=>?_);refine kH H (Rm rfl (Rc rfl (Rm rfl ?_)));clear H;intro a H;refine s_split H 14 rfl ?_ ?_
 ·intro h14
  try have p14:=of_decide_eq_true h14
  (iterate 2 refine s_move H (wg H rfl rfl h14) rfl rfl ?_;clear H;intro a H);refine s_callv0 H (wg H rfl rfl h14) rfl rfl (hf i (Nat.lt_succ_self _) _ _ hm8 H.hp.ro) rfl ?_;clear H;rintro v17 G17 a w rfl hm17 H;(iterate 2 refine s_move H (wg H rfl rfl h14) rfl rfl ?_;clear H;intro a H);refine s_sub _ H (wg H rfl rfl h14) rfl rfl rfl (by omega) (by omega) rfl ?_;clear H;intro a H;rw [show ((i:Int) - 1)=((i - 1:Nat):Int) by omega] at H;refine s_callv0 H (wg H rfl rfl h14) rfl rfl (hf (i - 1) (by omega) _ _ (fun b o h=>hm17 b o (hm8 b o h)) H.hp.ro) rfl ?_;clear H;rintro v21 G21 a w rfl hm21 H;refine s_cmp H (wg H rfl rfl h14) rfl rfl rfl rfl ?_;clear H;intro a H;refine s_pick_t H wn rfl h14 rfl rfl ?_;clear H;intro a H;refine kH H (Ra rfl ?_);clear H;intro a H;refine K5 _ _ ?_;clear K5;refine c_cond H rfl ?_ ?_
  ·intro h11
   try have p11:=of_decide_eq_true h11
   refine c_seqR (fun _ K6=>?_);refine kH H (Ra rfl ?_);clear H;intro a H;refine K6 _ _ ?_;clear K6;refine c_ret ?_;refine lv H Tryz.results121 rfl ?_
   exact H.hp.ret (congrArg vi (by unfold incE;(repeat' split) <;> first|rfl|(exfalso;simp_all;done)|(exfalso;simp_all;omega)))
  intro h11
  try have p11:=of_decide_eq_false h11
  refine c_seqR (fun _ K7=>?_);refine kH H (Rm rfl (Rc rfl (Rm rfl ?_)));clear H;intro a H;refine s_split H 27 rfl ?_ ?_
  ·intro h27
   try have p27:=of_decide_eq_true h27
   (iterate 2 refine s_move H (wg H rfl rfl h27) rfl rfl ?_;clear H;intro a H);refine s_callv0 H (wg H rfl rfl h27) rfl rfl (hf i (Nat.lt_succ_self _) _ _ (fun b o h=>by first|exact hm21 b o (hm17 b o (hm8 b o h))|(exfalso;omega)) H.hp.ro) rfl ?_;clear H;rintro v30 G30 a w rfl hm30 H;(iterate 2 refine s_move H (wg H rfl rfl h27) rfl rfl ?_;clear H;intro a H);refine s_sub _ H (wg H rfl rfl h27) rfl rfl rfl (by omega) (by omega) rfl ?_;clear H;intro a H;rw [show ((i:Int) - 1)=((i - 1:Nat):Int) by omega] at H;refine s_callv0 H (wg H rfl rfl h27) rfl rfl (hf (i - 1) (by omega) _ _ (fun b o h=>by first|exact hm30 b o (hm21 b o (hm17 b o (hm8 b o h)))|(exfalso;omega)) H.hp.ro) rfl ?_;clear H;rintro v34 G34 a w rfl hm34 H;refine s_cmp H (wg H rfl rfl h27) rfl rfl rfl rfl ?_;clear H;intro a H;refine s_pick_t H wn rfl h27 rfl rfl ?_;clear H;intro a H;refine kH H (Ra rfl ?_);clear H;intro a H;refine K7 _ _ ?_;clear K7;refine c_cond H rfl ?_ ?_
   ·intro h24
    try have p24:=of_decide_eq_true h24
    refine c_seqR (fun _ K8=>?_);refine kH H (Ra rfl ?_);clear H;intro a H;refine K8 _ _ ?_;clear K8;refine c_ret ?_;refine lv H Tryz.results121 rfl ?_
    exact H.hp.ret (congrArg vi (by unfold incE;(repeat' split) <;> first|rfl|(exfalso;simp_all;done)|(exfalso;simp_all;omega)))
   intro h24
   try have p24:=of_decide_eq_false h24
   refine c_skip ?_;refine K2 _ _ ?_;clear K2;refine c_seqR (fun _ K9=>?_);refine kH H (Ra rfl ?_);clear H;intro a H;refine K9 _ _ ?_;clear K9;refine c_ret ?_;refine lv H Tryz.results121 rfl ?_
   exact H.hp.ret (congrArg vi (by unfold incE;(repeat' split) <;> first|rfl|(exfalso;simp_all;done)|(exfalso;simp_all;omega)))
  intro h27
  try have p27:=of_decide_eq_false h27
  (iterate 8 refine s_skip H rfl rfl h27 rfl ?_;clear H;intro a H);refine s_pick_f H wn rfl h27 rfl rfl ?_;clear H;intro a H;refine kH H (Ra rfl ?_);clear H;intro a H;refine K7 _ _ ?_;clear K7;refine c_cond_f H rfl rfl ?_;refine c_skip ?_;refine K2 _ _ ?_;clear K2;refine c_seqR (fun _ K10=>?_);refine kH H (Ra rfl ?_);clear H;intro a H;refine K10 _ _ ?_;clear K10;refine c_ret ?_;refine lv H Tryz.results121 rfl ?_
  exact H.hp.ret (congrArg vi (by unfold incE;(repeat' split) <;> first|rfl|(exfalso;simp_all;done)|(exfalso;simp_all;omega)))
 intro h14
 try have p14:=of_decide_eq_false h14
 (iterate 8 refine s_skip H rfl rfl h14 rfl ?_;clear H;intro a H);refine s_pick_f H wn rfl h14 rfl rfl ?_;clear H;intro a H;refine kH H (Ra rfl ?_);clear H;intro a H;refine K5 _ _ ?_;clear K5;refine c_cond_f H rfl rfl ?_;refine c_seqR (fun _ K11=>?_);refine kH H (Rm rfl (Rc rfl (Rm rfl ?_)));clear H;intro a H;refine s_split H 27 rfl ?_ ?_
 ·intro h27
  try have p27:=of_decide_eq_true h27
  (iterate 2 refine s_move H (wg H rfl rfl h27) rfl rfl ?_;clear H;intro a H);refine s_callv0 H (wg H rfl rfl h27) rfl rfl (hf i (Nat.lt_succ_self _) _ _ (fun b o h=>by first|exact hm21 b o (hm17 b o (hm8 b o h))|(exfalso;omega)) H.hp.ro) rfl ?_;clear H;rintro v30 G30 a w rfl hm30 H;(iterate 2 refine s_move H (wg H rfl rfl h27) rfl rfl ?_;clear H;intro a H);refine s_sub _ H (wg H rfl rfl h27) rfl rfl rfl (by omega) (by omega) rfl ?_;clear H;intro a H;rw [show ((i:Int) - 1)=((i - 1:Nat):Int) by omega] at H;refine s_callv0 H (wg H rfl rfl h27) rfl rfl (hf (i - 1) (by omega) _ _ (fun b o h=>by first|exact hm30 b o (hm21 b o (hm17 b o (hm8 b o h)))|(exfalso;omega)) H.hp.ro) rfl ?_;clear H;rintro v34 G34 a w rfl hm34 H;refine s_cmp H (wg H rfl rfl h27) rfl rfl rfl rfl ?_;clear H;intro a H;refine s_pick_t H wn rfl h27 rfl rfl ?_;clear H;intro a H;refine kH H (Ra rfl ?_);clear H;intro a H;refine K11 _ _ ?_;clear K11;refine c_cond H rfl ?_ ?_
  ·intro h24
   try have p24:=of_decide_eq_true h24
   refine c_seqR (fun _ K12=>?_);refine kH H (Ra rfl ?_);clear H;intro a H;refine K12 _ _ ?_;clear K12;refine c_ret ?_;refine lv H Tryz.results121 rfl ?_
   exact H.hp.ret (congrArg vi (by unfold incE;(repeat' split) <;> first|rfl|(exfalso;simp_all;done)|(exfalso;simp_all;omega)))
  intro h24
  try have p24:=of_decide_eq_false h24
  refine c_skip ?_;refine K2 _ _ ?_;clear K2;refine c_seqR (fun _ K13=>?_);refine kH H (Ra rfl ?_);clear H;intro a H;refine K13 _ _ ?_;clear K13;refine c_ret ?_;refine lv H Tryz.results121 rfl ?_
  exact H.hp.ret (congrArg vi (by unfold incE;(repeat' split) <;> first|rfl|(exfalso;simp_all;done)|(exfalso;simp_all;omega)))
 intro h27
 try have p27:=of_decide_eq_false h27
 (iterate 8 refine s_skip H rfl rfl h27 rfl ?_;clear H;intro a H);refine s_pick_f H wn rfl h27 rfl rfl ?_;clear H;intro a H;refine kH H (Ra rfl ?_);clear H;intro a H;refine K11 _ _ ?_;clear K11;refine c_cond_f H rfl rfl ?_;refine c_skip ?_;refine K2 _ _ ?_;clear K2;refine c_seqR (fun _ K14=>?_);refine kH H (Ra rfl ?_);clear H;intro a H;refine K14 _ _ ?_;clear K14;refine c_ret ?_;refine lv H Tryz.results121 rfl ?_
 exact H.hp.ret (congrArg vi (by unfold incE;(repeat' split) <;> first|rfl|(exfalso;simp_all;done)|(exfalso;simp_all;omega)))
end
section
open Go.RowKit
theorem en65nam:∀ args w,(callFunc 65 args).run Tryz.prog w=.ok (.enter 65 args) w:=enters Tryz.func65 rfl (by kernel_rfl)
theorem en52nam:∀ args w,(callFunc 52 args).run Tryz.prog w=.ok (.enter 52 args) w:=enters Tryz.func52 rfl (by kernel_rfl)
def autS (s:ByteArray):Bool:=decide (1≤s.size∧s.size≤40) && validS s
theorem author_spec (G:GH) (w0:World) (hG:Hold G w0) (s:ByteArray) (hs:s.size < 4611686018427387904):Calls Tryz.prog 127 #[.string s] w0 (Ret w0 G fun u G'=>u=.bool (autS s)∧G=G'):=by
 refine eN [(0,_)] Tryz.func127 rfl Tryz.ntmps127 rfl rfl hG ?_;intro a H;refine c_seqR (fun _ K1=>?_);refine kH H (Ra rfl ?_);clear H;intro a H;refine K1 _ _ ?_;clear K1;refine c_seqR (fun _ K2=>?_);refine kH H (Rm rfl ?_);clear H;intro a H;refine s_lens un9cp H wn rfl rfl ?_;clear H;intro a H;refine kH H (Rc rfl (Rm rfl ?_));clear H;intro a H;refine s_split H 6 rfl ?_ ?_
 ·intro h6
  try have p6:=of_decide_eq_true h6
  refine s_move H (wg H rfl rfl h6) rfl rfl ?_;clear H;intro a H;refine s_lens un9cp H (wg H rfl rfl h6) rfl rfl ?_;clear H;intro a H;refine s_cmp H (wg H rfl rfl h6) rfl rfl rfl rfl ?_;clear H;intro a H;refine s_pick_t H wn rfl h6 rfl rfl ?_;clear H;intro a H;refine kH H (Rm rfl ?_);clear H;intro a H;refine s_split H 11 rfl ?_ ?_
  ·intro h11
   try have p11:=of_decide_eq_true h11
   refine s_move H (wg H rfl rfl h11) rfl rfl ?_;clear H;intro a H;refine s_call en132cp H (wg H rfl rfl h11) rfl (valid_spec _ _ H.hp.ro s hs) rfl ?_;clear H;rintro v13 _ a w ⟨rfl,rfl⟩ - H;refine s_pick_t H wn rfl h11 rfl rfl ?_;clear H;intro a H;refine kH H (Ra rfl ?_);clear H;intro a H;refine K2 _ _ ?_;clear K2;refine c_ret ?_;refine lv H Tryz.results127 rfl ?_;exact H.hp.ret ⟨congrArg Value.bool (by unfold autS;first|(simp_all;done)|(simp_all;omega)),rfl⟩
  intro h11
  try have p11:=of_decide_eq_false h11
  (iterate 2 refine s_skip H rfl rfl h11 rfl ?_;clear H;intro a H);refine s_pick_f H wn rfl h11 rfl rfl ?_;clear H;intro a H;refine kH H (Ra rfl ?_);clear H;intro a H;refine K2 _ _ ?_;clear K2;refine c_ret ?_;refine lv H Tryz.results127 rfl ?_;exact H.hp.ret ⟨congrArg Value.bool (by unfold autS;first|(simp_all;done)|(simp_all;omega)),rfl⟩
 intro h6
 try have p6:=of_decide_eq_false h6
 (iterate 3 refine s_skip H rfl rfl h6 rfl ?_;clear H;intro a H);refine s_pick_f H wn rfl h6 rfl rfl ?_;clear H;intro a H;refine kH H (Rm rfl ?_);clear H;intro a H;(iterate 2 refine s_skip H rfl rfl rfl rfl ?_;clear H;intro a H);refine s_pick_f H wn rfl rfl rfl rfl ?_;clear H;intro a H;refine kH H (Ra rfl ?_);clear H;intro a H;refine K2 _ _ ?_;clear K2;refine c_ret ?_;refine lv H Tryz.results127 rfl ?_;exact H.hp.ret ⟨congrArg Value.bool (by unfold autS;first|(simp_all;done)|(simp_all;omega)),rfl⟩
theorem author13_spec (G:GH) (w0:World) (hG:Hold G w0) (s:ByteArray) (hs:s.size < 4611686018427387904):Calls Tryz.prog 58 #[.string s] w0 (Ret w0 G fun u G'=>u=.bool (autS s)∧G=G'):=by
 refine eN [(0,_)] Tryz.func58 rfl Tryz.ntmps58 rfl rfl hG ?_;intro a H;refine c_seqR (fun _ K1=>?_);refine kH H (Ra rfl ?_);clear H;intro a H;refine K1 _ _ ?_;clear K1;refine c_seqR (fun _ K2=>?_);refine kH H (Rm rfl ?_);clear H;intro a H;refine s_call en132cp H wn rfl (valid_spec _ _ H.hp.ro s hs) rfl ?_;clear H;rintro v4 _ a w ⟨rfl,rfl⟩ - H;refine kH H (Rm rfl ?_);clear H;intro a H;refine s_split H 5 rfl ?_ ?_
 ·intro h5
  try have p5:=of_decide_eq_true h5
  refine s_move H (wg H rfl rfl h5) rfl rfl ?_;clear H;intro a H;refine s_lens un9cp H (wg H rfl rfl h5) rfl rfl ?_;clear H;intro a H;refine s_cmp H (wg H rfl rfl h5) rfl rfl rfl rfl ?_;clear H;intro a H;refine s_pick_t H wn rfl h5 rfl rfl ?_;clear H;intro a H;refine kH H (Rm rfl ?_);clear H;intro a H;refine s_split H 10 rfl ?_ ?_
  ·intro h10
   try have p10:=of_decide_eq_true h10
   refine s_move H (wg H rfl rfl h10) rfl rfl ?_;clear H;intro a H;refine s_lens un9cp H (wg H rfl rfl h10) rfl rfl ?_;clear H;intro a H;refine s_cmp H (wg H rfl rfl h10) rfl rfl rfl rfl ?_;clear H;intro a H;refine s_pick_t H wn rfl h10 rfl rfl ?_;clear H;intro a H;refine kH H (Ra rfl ?_);clear H;intro a H;refine K2 _ _ ?_;clear K2;refine c_ret ?_;refine lv H Tryz.results58 rfl ?_;refine H.hp.ret ⟨congrArg Value.bool ?_,rfl⟩
   unfold autS
   cases hvs:validS s <;> simp_all
   all_goals (first|omega|(rw [Bool.eq_iff_iff];simp;omega))
  intro h10
  try have p10:=of_decide_eq_false h10
  (iterate 3 refine s_skip H rfl rfl h10 rfl ?_;clear H;intro a H);refine s_pick_f H wn rfl h10 rfl rfl ?_;clear H;intro a H;refine kH H (Ra rfl ?_);clear H;intro a H;refine K2 _ _ ?_;clear K2;refine c_ret ?_;refine lv H Tryz.results58 rfl ?_;refine H.hp.ret ⟨congrArg Value.bool ?_,rfl⟩
  unfold autS
  cases hvs:validS s <;> simp_all
  all_goals (first|omega|(rw [Bool.eq_iff_iff];simp;omega))
 intro h5
 try have p5:=of_decide_eq_false h5
 (iterate 3 refine s_skip H rfl rfl h5 rfl ?_;clear H;intro a H);refine s_pick_f H wn rfl h5 rfl rfl ?_;clear H;intro a H;refine kH H (Rm rfl ?_);clear H;intro a H;(iterate 3 refine s_skip H rfl rfl rfl rfl ?_;clear H;intro a H);refine s_pick_f H wn rfl rfl rfl rfl ?_;clear H;intro a H;refine kH H (Ra rfl ?_);clear H;intro a H;refine K2 _ _ ?_;clear K2;refine c_ret ?_;refine lv H Tryz.results58 rfl ?_;refine H.hp.ret ⟨congrArg Value.bool ?_,rfl⟩
 unfold autS
 cases hvs:validS s <;> simp_all
 all_goals (first|omega|(rw [Bool.eq_iff_iff];simp;omega))
def txE (s:ByteArray):Int:=firstE [whenE (!validS s) 12,whenE (decide (1024 < (s.size:Int))) 10]
theorem two_rep {G:GH} {b:Nat} {x y:Int} (h:G b=some (.cells #[vi x,vi y] 22 (0,0))):RepV G (.sl 1 ([x,y].map fun k=>[li k])) (.slice (some ⟨b,0,none⟩) 2 2) :=
 RepV.of_row (n:=2) (cap:=2) h rfl (Nat.le_refl _) (show 2≤maxLen by decide) (List.take_of_length_le (Nat.le_refl _)) (ints_cat G [x,y])
theorem text_spec1 (G:GH) (w0:World) (hG:Hold G w0) (s:ByteArray) (hs:s.size < 4611686018427387904):Calls Tryz.prog 129 #[.string s] w0 (Ret w0 G fun u G'=>u=vi (txE s)):=by
 refine eN [(0,_)] Tryz.func129 rfl Tryz.ntmps129 rfl rfl hG ?_;intro a H;refine c_seqR (fun _ K1=>?_);refine kH H (Ra rfl ?_);clear H;intro a H;refine K1 _ _ ?_;clear K1;refine c_seqR (fun _ K2=>?_);refine kH H (Rm rfl ?_);clear H;intro a H;refine s_call en132cp H wn rfl (valid_spec _ _ H.hp.ro s hs) rfl ?_;clear H;rintro v4 _ a w ⟨rfl,rfl⟩ - H;refine kH H (Rn rfl ?_);clear H;intro a H;refine s_call en65nam H wn rfl (when_spec _ _ H.hp.ro _ 12) rfl ?_;clear H;rintro v6 _ a w ⟨rfl,rfl⟩ - H;refine kH H (Rm rfl ?_);clear H;intro a H;refine s_lens un9cp H wn rfl rfl ?_;clear H;intro a H;refine kH H (Rc rfl ?_);clear H;intro a H;refine s_call en65nam H wn rfl (when_spec _ _ H.hp.ro _ 10) rfl ?_;clear H;rintro v10 _ a w ⟨rfl,rfl⟩ - H;refine s_buildSlice un221fst ty22fst [_,_] [_,_] H wn rfl rfl rfl rfl rfl (by intro i q h;match i,h with|0,h=>exact h|1,h=>exact h|n+2,h=>simp at h) rfl rfl ?_;clear H;intro b11 a w hb11 H;obtain ⟨G11,hm11,hb11',H⟩:=H.giveBox;refine s_call en52nam H wn rfl (first_spec1 _ _ H.hp.ro _ _ (two_rep hb11')) rfl ?_;clear H;rintro v12 _ a w ⟨rfl,rfl⟩ - H;refine kH H (Ra rfl ?_);clear H;intro a H;refine K2 _ _ ?_;clear K2;refine c_ret ?_;refine lv H Tryz.results129 rfl ?_;exact H.hp.ret rfl
theorem text13_spec (G:GH) (w0:World) (hG:Hold G w0) (s:ByteArray) (hs:s.size < 4611686018427387904):Calls Tryz.prog 59 #[.string s] w0 (Ret w0 G fun u G'=>u=vi (txE s)∧G=G'):=by
 refine eN [(0,_)] Tryz.func59 rfl Tryz.ntmps59 rfl rfl hG ?_;intro a H;refine c_seqR (fun _ K1=>?_);refine kH H (Ra rfl ?_);clear H;intro a H;refine K1 _ _ ?_;clear K1;refine c_seq (fun _ K2=>?_);refine c_block ?_;refine c_seqR (fun _ K3=>?_);refine kH H (Rm rfl ?_);clear H;intro a H;refine s_call en132cp H wn rfl (valid_spec _ _ H.hp.ro s hs) rfl ?_;clear H;rintro v5 _ a w ⟨rfl,rfl⟩ - H;refine kH H (Rn rfl (Ra rfl ?_));clear H;intro a H;refine K3 _ _ ?_;clear K3;refine c_cond H rfl ?_ ?_
 ·intro h3
  try have p3:=of_decide_eq_true h3
  refine c_seqR (fun _ K4=>?_);refine kH H (Ra rfl ?_);clear H;intro a H;refine K4 _ _ ?_;clear K4;refine c_ret ?_;refine lv H Tryz.results59 rfl ?_;exact H.hp.ret ⟨congrArg vi (by unfold txE;simp_all [firstE,whenE]),rfl⟩
 intro h3
 try have p3:=of_decide_eq_false h3
 refine c_seqR (fun _ K5=>?_);refine kH H (Rm rfl ?_);clear H;intro a H;refine s_lens un9cp H wn rfl rfl ?_;clear H;intro a H;refine kH H (Rc rfl (Ra rfl ?_));clear H;intro a H;refine K5 _ _ ?_;clear K5;refine c_cond H rfl ?_ ?_
 ·intro h7
  try have p7:=of_decide_eq_true h7
  refine c_seqR (fun _ K6=>?_);refine kH H (Ra rfl ?_);clear H;intro a H;refine K6 _ _ ?_;clear K6;refine c_ret ?_;refine lv H Tryz.results59 rfl ?_;exact H.hp.ret ⟨congrArg vi (by unfold txE;simp_all [firstE,whenE]),rfl⟩
 intro h7
 try have p7:=of_decide_eq_false h7
 refine c_skip ?_;refine K2 _ _ ?_;clear K2;refine c_seqR (fun _ K7=>?_);refine kH H (Ra rfl ?_);clear H;intro a H;refine K7 _ _ ?_;clear K7;refine c_ret ?_;refine lv H Tryz.results59 rfl ?_;exact H.hp.ret ⟨congrArg vi (by unfold txE;simp_all [firstE,whenE]),rfl⟩
def inc13 (id before:Int) (fst:Bool):Int:=if id < 1∨1073741824 < id then 18 else if fst=false∧id=before then 7 else if fst=false∧id < before then 6 else 0
theorem inc13_spec (G:GH) (w0:World) (hG:Hold G w0) (id before:Int) (fst:Bool):Calls Tryz.prog 56 #[vi id,vi before,.bool fst] w0 (Ret w0 G fun u G'=>u=vi (inc13 id before fst)∧G=G'):=by
 refine eN [(0,_),(1,_),(2,_)] Tryz.func56 rfl Tryz.ntmps56 rfl rfl hG ?_;intro a H;refine c_seqR (fun _ K1=>?_);refine kH H (Ra rfl ?_);clear H;intro a H;refine K1 _ _ ?_;clear K1;refine c_seq (fun _ K2=>?_);refine c_block ?_;refine c_seqR (fun _ K3=>?_);refine kH H (Rm rfl (Rc rfl (Rm rfl ?_)));clear H;intro a H;refine s_split H 10 rfl ?_ ?_
 ·intro h10
  try have p10:=of_decide_eq_true h10
  (iterate 2 refine s_skip H rfl rfl h10 rfl ?_;clear H;intro a H);refine s_pick_t H wn rfl h10 rfl rfl ?_;clear H;intro a H;refine kH H (Ra rfl ?_);clear H;intro a H;refine K3 _ _ ?_;clear K3;refine c_cond_t H rfl rfl ?_;refine c_seqR (fun _ K4=>?_);refine kH H (Ra rfl ?_);clear H;intro a H;refine K4 _ _ ?_;clear K4;refine c_ret ?_;refine lv H Tryz.results56 rfl ?_
  exact H.hp.ret ⟨congrArg vi (by unfold inc13;(repeat' split) <;> first|rfl|(exfalso;simp_all;done)|(exfalso;simp_all;omega)),rfl⟩
 intro h10
 try have p10:=of_decide_eq_false h10
 refine s_move H (wg H rfl rfl h10) rfl rfl ?_;clear H;intro a H;refine s_cmp H (wg H rfl rfl h10) rfl rfl rfl rfl ?_;clear H;intro a H;refine s_pick_f H wn rfl h10 rfl rfl ?_;clear H;intro a H;refine kH H (Ra rfl ?_);clear H;intro a H;refine K3 _ _ ?_;clear K3;refine c_cond H rfl ?_ ?_
 ·intro h7
  try have p7:=of_decide_eq_true h7
  refine c_seqR (fun _ K5=>?_);refine kH H (Ra rfl ?_);clear H;intro a H;refine K5 _ _ ?_;clear K5;refine c_ret ?_;refine lv H Tryz.results56 rfl ?_
  exact H.hp.ret ⟨congrArg vi (by unfold inc13;(repeat' split) <;> first|rfl|(exfalso;simp_all;done)|(exfalso;simp_all;omega)),rfl⟩
 intro h7
 try have p7:=of_decide_eq_false h7
 refine c_seqR (fun _ K6=>?_);refine kH H (Rm rfl (Rn rfl (Rm rfl ?_)));clear H;intro a H;refine s_split H 17 rfl ?_ ?_
 ·intro h17
  try have p17:=of_decide_eq_true h17
  (iterate 2 refine s_move H (wg H rfl rfl h17) rfl rfl ?_;clear H;intro a H);refine s_cmp H (wg H rfl rfl h17) rfl rfl rfl rfl ?_;clear H;intro a H;refine s_pick_t H wn rfl h17 rfl rfl ?_;clear H;intro a H;refine kH H (Ra rfl ?_);clear H;intro a H;refine K6 _ _ ?_;clear K6;refine c_cond H rfl ?_ ?_
  ·intro h14
   try have p14:=of_decide_eq_true h14
   refine c_seqR (fun _ K7=>?_);refine kH H (Ra rfl ?_);clear H;intro a H;refine K7 _ _ ?_;clear K7;refine c_ret ?_;refine lv H Tryz.results56 rfl ?_
   exact H.hp.ret ⟨congrArg vi (by unfold inc13;(repeat' split) <;> first|rfl|(exfalso;simp_all;done)|(exfalso;simp_all;omega)),rfl⟩
  intro h14
  try have p14:=of_decide_eq_false h14
  refine c_seqR (fun _ K8=>?_);refine kH H (Rm rfl (Rn rfl (Rm rfl ?_)));clear H;intro a H;refine s_split H 25 rfl ?_ ?_
  ·intro h25
   try have p25:=of_decide_eq_true h25
   (iterate 2 refine s_move H (wg H rfl rfl h25) rfl rfl ?_;clear H;intro a H);refine s_cmp H (wg H rfl rfl h25) rfl rfl rfl rfl ?_;clear H;intro a H;refine s_pick_t H wn rfl h25 rfl rfl ?_;clear H;intro a H;refine kH H (Ra rfl ?_);clear H;intro a H;refine K8 _ _ ?_;clear K8;refine c_cond H rfl ?_ ?_
   ·intro h22
    try have p22:=of_decide_eq_true h22
    refine c_seqR (fun _ K9=>?_);refine kH H (Ra rfl ?_);clear H;intro a H;refine K9 _ _ ?_;clear K9;refine c_ret ?_;refine lv H Tryz.results56 rfl ?_
    exact H.hp.ret ⟨congrArg vi (by unfold inc13;(repeat' split) <;> first|rfl|(exfalso;simp_all;done)|(exfalso;simp_all;omega)),rfl⟩
   intro h22
   try have p22:=of_decide_eq_false h22
   refine c_skip ?_;refine K2 _ _ ?_;clear K2;refine c_seqR (fun _ K10=>?_);refine kH H (Ra rfl ?_);clear H;intro a H;refine K10 _ _ ?_;clear K10;refine c_ret ?_;refine lv H Tryz.results56 rfl ?_
   exact H.hp.ret ⟨congrArg vi (by unfold inc13;(repeat' split) <;> first|rfl|(exfalso;simp_all;done)|(exfalso;simp_all;omega)),rfl⟩
  intro h25
  try have p25:=of_decide_eq_false h25
  (iterate 3 refine s_skip H rfl rfl h25 rfl ?_;clear H;intro a H);refine s_pick_f H wn rfl h25 rfl rfl ?_;clear H;intro a H;refine kH H (Ra rfl ?_);clear H;intro a H;refine K8 _ _ ?_;clear K8;refine c_cond_f H rfl rfl ?_;refine c_skip ?_;refine K2 _ _ ?_;clear K2;refine c_seqR (fun _ K11=>?_);refine kH H (Ra rfl ?_);clear H;intro a H;refine K11 _ _ ?_;clear K11;refine c_ret ?_;refine lv H Tryz.results56 rfl ?_
  exact H.hp.ret ⟨congrArg vi (by unfold inc13;(repeat' split) <;> first|rfl|(exfalso;simp_all;done)|(exfalso;simp_all;omega)),rfl⟩
 intro h17
 try have p17:=of_decide_eq_false h17
 (iterate 3 refine s_skip H rfl rfl h17 rfl ?_;clear H;intro a H);refine s_pick_f H wn rfl h17 rfl rfl ?_;clear H;intro a H;refine kH H (Ra rfl ?_);clear H;intro a H;refine K6 _ _ ?_;clear K6;refine c_cond_f H rfl rfl ?_;refine c_seqR (fun _ K12=>?_);refine kH H (Rm rfl (Rn rfl (Rm rfl ?_)));clear H;intro a H;refine s_split H 25 rfl ?_ ?_
 ·intro h25
  try have p25:=of_decide_eq_true h25
  (iterate 2 refine s_move H (wg H rfl rfl h25) rfl rfl ?_;clear H;intro a H);refine s_cmp H (wg H rfl rfl h25) rfl rfl rfl rfl ?_;clear H;intro a H;refine s_pick_t H wn rfl h25 rfl rfl ?_;clear H;intro a H;refine kH H (Ra rfl ?_);clear H;intro a H;refine K12 _ _ ?_;clear K12;refine c_cond H rfl ?_ ?_
  ·intro h22
   try have p22:=of_decide_eq_true h22
   refine c_seqR (fun _ K13=>?_);refine kH H (Ra rfl ?_);clear H;intro a H;refine K13 _ _ ?_;clear K13;refine c_ret ?_;refine lv H Tryz.results56 rfl ?_
   exact H.hp.ret ⟨congrArg vi (by unfold inc13;(repeat' split) <;> first|rfl|(exfalso;simp_all;done)|(exfalso;simp_all;omega)),rfl⟩
  intro h22
  try have p22:=of_decide_eq_false h22
  refine c_skip ?_;refine K2 _ _ ?_;clear K2;refine c_seqR (fun _ K14=>?_);refine kH H (Ra rfl ?_);clear H;intro a H;refine K14 _ _ ?_;clear K14;refine c_ret ?_;refine lv H Tryz.results56 rfl ?_
  exact H.hp.ret ⟨congrArg vi (by unfold inc13;(repeat' split) <;> first|rfl|(exfalso;simp_all;done)|(exfalso;simp_all;omega)),rfl⟩
 intro h25
 try have p25:=of_decide_eq_false h25
 (iterate 3 refine s_skip H rfl rfl h25 rfl ?_;clear H;intro a H);refine s_pick_f H wn rfl h25 rfl rfl ?_;clear H;intro a H;refine kH H (Ra rfl ?_);clear H;intro a H;refine K12 _ _ ?_;clear K12;refine c_cond_f H rfl rfl ?_;refine c_skip ?_;refine K2 _ _ ?_;clear K2;refine c_seqR (fun _ K15=>?_);refine kH H (Ra rfl ?_);clear H;intro a H;refine K15 _ _ ?_;clear K15;refine c_ret ?_;refine lv H Tryz.results56 rfl ?_
 exact H.hp.ret ⟨congrArg vi (by unfold inc13;(repeat' split) <;> first|rfl|(exfalso;simp_all;done)|(exfalso;simp_all;omega)),rfl⟩
theorem inc13_eq (id:Nat→Int) (i:Nat):inc13 (id i) (id (i - 1)) (decide (i=0))=incE id i:=by
 unfold inc13 incE
 (repeat' split) <;> first|rfl|(exfalso;simp_all;done)|(exfalso;simp_all;omega)
/-- Whether a byte is a letter; a digit, a hyphen or an underscore; whether it may stand at a place of a name. -/
def ltrB (c:Int):Bool:=decide (97≤bitI .or .u8 c 32) && decide (bitI .or .u8 c 32≤122)
def othB (c:Int):Bool:=(decide (48≤c) && decide (c≤57)) || decide (c=45) || decide (c=95)
def nmC (s:ByteArray) (k:Nat):Bool:=ltrB (byteAt s k) || (decide (k≠0) && othB (byteAt s k))
def cpNm (s:ByteArray):Bool:=decide (1≤s.size∧s.size≤40) && (List.range s.size).all (nmC s)
theorem cpNm_spec (G:GH) (w0:World) (hG:Hold G w0) (s:ByteArray) (hs:s.size < 4611686018427387904):Calls Tryz.prog 60 #[.string s] w0 (Ret w0 G fun u G'=>u=.bool (cpNm s)∧G=G'):=by
 refine eN [(0,_)] Tryz.func60 rfl Tryz.ntmps60 rfl rfl hG ?_;intro a H;refine c_seqR (fun _ K1=>?_);refine kH H (Ra rfl ?_);clear H;intro a H;refine K1 _ _ ?_;clear K1;refine c_seq (fun _ K2=>?_);refine c_seqR (fun _ K3=>?_);refine kH H (Rm rfl ?_);clear H;intro a H;refine s_lens un9cp H wn rfl rfl ?_;clear H;intro a H;refine kH H (Rc rfl (Rm rfl ?_));clear H;intro a H;refine s_split H 10 rfl ?_ ?_
 ·intro h10
  try have p10:=of_decide_eq_true h10
  (iterate 3 refine s_skip H rfl rfl h10 rfl ?_;clear H;intro a H);refine s_pick_t H wn rfl h10 rfl rfl ?_;clear H;intro a H;refine K3 _ _ ?_;clear K3;refine c_cond_t H rfl rfl ?_;refine c_seqR (fun _ K4=>?_);refine kH H (Ra rfl ?_);clear H;intro a H;refine K4 _ _ ?_;clear K4;refine c_ret ?_;refine lv H Tryz.results60 rfl ?_;exact H.hp.ret ⟨congrArg Value.bool (by unfold cpNm;rw [decide_eq_false (by omega)];rfl),rfl⟩
 intro h10
 try have p10:=of_decide_eq_false h10
 refine s_move H (wg H rfl rfl h10) rfl rfl ?_;clear H;intro a H;refine s_lens un9cp H (wg H rfl rfl h10) rfl rfl ?_;clear H;intro a H;refine s_cmp H (wg H rfl rfl h10) rfl rfl rfl rfl ?_;clear H;intro a H;refine s_pick_f H wn rfl h10 rfl rfl ?_;clear H;intro a H;refine K3 _ _ ?_;clear K3;refine c_cond H rfl ?_ ?_
 ·intro h14
  try have p14:=of_decide_eq_true h14
  refine c_seqR (fun _ K5=>?_);refine kH H (Ra rfl ?_);clear H;intro a H;refine K5 _ _ ?_;clear K5;refine c_ret ?_;refine lv H Tryz.results60 rfl ?_;exact H.hp.ret ⟨congrArg Value.bool (by unfold cpNm;rw [decide_eq_false (by omega)];rfl),rfl⟩
 intro h14
 try have p14:=of_decide_eq_false h14
 refine c_skip ?_;refine K2 _ _ ?_;clear K2;refine c_seq (fun _ K6=>?_);refine c_seqR (fun _ K7=>?_);refine kH H (Rm rfl ?_);clear H;intro a H;refine s_lens un9cp H wn rfl rfl ?_;clear H;intro a H;refine kH H (Rm rfl ?_);clear H;intro a H;refine K7 _ _ ?_;clear K7;refine c_block ?_;skip;refine c_loopS (ι:=Nat) (Tc:=[(0,_),(16,_)]) (Lc:=[]) (fun (gh:Nat)=>[(17,vi gh)]) (fun (gh:Nat)=>[]) (fun (gh:Nat)=>G) (fun (gh:Nat)=>gh≤s.size∧(List.range gh).all (nmC s)=true) (fun (gh:Nat)=>s.size - gh) (0) (by exact (H).sub ⟨rfl,rfl,rfl,trivial⟩) ?_ ?_
 ·exact ⟨Nat.zero_le _,rfl⟩
 clear H;intro gh a w hI H;obtain ⟨k,hgh⟩:∃ x,x=gh:=⟨_,rfl⟩;subst hgh;obtain ⟨hk,hall⟩:=hI;dsimp only [List.cons_append,List.nil_append,List.append_nil] at H;refine c_seqR (fun _ K8=>?_);refine kH H (Rc rfl ?_);clear H;intro a H;refine K8 _ _ ?_;clear K8;refine c_seq (fun _ K9=>?_);refine c_cond H rfl ?_ ?_
 ·intro h18
  try have p18:=of_decide_eq_true h18
  have hk2:k < s.size:=by omega
  refine c_skip ?_;refine K9 _ _ ?_;clear K9;refine c_seq (fun _ K10=>?_);refine c_block ?_;refine c_seqR (fun _ K11=>?_);refine kH H (Rm rfl (Ra rfl ?_));clear H;intro a H;refine K11 _ _ ?_;clear K11;refine c_seqR (fun _ K12=>?_);refine kH H (Rm rfl (Rm rfl ?_));clear H;intro a H;refine s_indexs k un9cp H wn rfl rfl rfl (by omega) rfl ?_;clear H;intro a H;rw [← byteAt_lt] at H;refine s_bits rfl H wn rfl rfl rfl ?_;clear H;intro a H;refine kH H (Ra rfl ?_);clear H;intro a H;refine K12 _ _ ?_;clear K12;refine c_seqJ (ι:=Bool) (Tc:=[(0,_),(3,_),(16,_),(17,_)]) (Lc:=[]) (fun (gh:Bool)=>[(5,.bool gh)]) (fun (gh:Bool)=>[]) (fun (gh:Bool)=>G) (fun (gh:Bool)=>gh=ltrB (byteAt s k)) (by exact (H).sub ⟨rfl,rfl,rfl,rfl,trivial⟩) ?_ ?_
  ·skip;refine c_region ?_;refine kH H (Rm rfl (Rc rfl (Rm rfl ?_)));clear H;intro a H;refine s_split H 26 rfl ?_ ?_
   ·intro h26
    try have p26:=of_decide_eq_true h26
    refine s_move H (wg H rfl rfl h26) rfl rfl ?_;clear H;intro a H;refine s_cmp H (wg H rfl rfl h26) rfl rfl rfl rfl ?_;clear H;intro a H;refine s_pick_t H wn rfl h26 rfl rfl ?_;clear H;intro a H;refine kH H (Ra rfl ?_);clear H;intro a H;refine wl_nil ?_;refine ⟨_,by exact (H).sub ⟨rfl,rfl,rfl,rfl,rfl,trivial⟩,?_⟩
    unfold ltrB;first|(simp_all;done)|(simp_all;omega)
   intro h26
   try have p26:=of_decide_eq_false h26
   (iterate 2 refine s_skip H rfl rfl h26 rfl ?_;clear H;intro a H);refine s_pick_f H wn rfl h26 rfl rfl ?_;clear H;intro a H;refine kH H (Ra rfl ?_);clear H;intro a H;refine wl_nil ?_;refine ⟨_,by exact (H).sub ⟨rfl,rfl,rfl,rfl,rfl,trivial⟩,?_⟩
   unfold ltrB;first|(simp_all;done)|(simp_all;omega)
  clear H;intro gh a w hI H;obtain ⟨lt,hgh⟩:∃ x,x=gh:=⟨_,rfl⟩;subst hgh;have hlt:=hI;dsimp only [List.cons_append,List.nil_append,List.append_nil] at H;refine c_seqJ (ι:=Bool) (Tc:=[(0,_),(3,_),(5,_),(16,_),(17,_)]) (Lc:=[]) (fun (gh:Bool)=>[(6,.bool gh)]) (fun (gh:Bool)=>[]) (fun (gh:Bool)=>G) (fun (gh:Bool)=>gh=othB (byteAt s k)) (by exact (H).sub ⟨rfl,rfl,rfl,rfl,rfl,trivial⟩) ?_ ?_
  ·skip;refine c_region ?_;refine kH H (Rm rfl (Rm rfl ?_));clear H;intro a H;refine s_indexs k un9cp H wn rfl rfl rfl (by omega) rfl ?_;clear H;intro a H;rw [← byteAt_lt] at H;refine kH H (Rc rfl (Rm rfl ?_));clear H;intro a H;refine s_split H 34 rfl ?_ ?_
   ·intro h34
    try have p34:=of_decide_eq_true h34
    (iterate 2 refine s_move H (wg H rfl rfl h34) rfl rfl ?_;clear H;intro a H);refine s_indexs k un9cp H (wg H rfl rfl h34) rfl rfl rfl (by omega) rfl ?_;clear H;intro a H;rw [← byteAt_lt] at H;refine s_cmp H (wg H rfl rfl h34) rfl rfl rfl rfl ?_;clear H;intro a H;refine s_pick_t H wn rfl h34 rfl rfl ?_;clear H;intro a H;refine kH H (Rm rfl ?_);clear H;intro a H;refine s_split H 40 rfl ?_ ?_
    ·intro h40
     try have p40:=of_decide_eq_true h40
     (iterate 4 refine s_skip H rfl rfl h40 rfl ?_;clear H;intro a H);refine s_pick_t H wn rfl h40 rfl rfl ?_;clear H;intro a H;refine kH H (Rm rfl ?_);clear H;intro a H;(iterate 4 refine s_skip H rfl rfl rfl rfl ?_;clear H;intro a H);refine s_pick_t H wn rfl rfl rfl rfl ?_;clear H;intro a H;refine kH H (Ra rfl ?_);clear H;intro a H;refine wl_nil ?_;refine ⟨_,by exact (H).sub ⟨rfl,rfl,rfl,rfl,rfl,rfl,trivial⟩,?_⟩
     unfold othB;first|(simp_all;done)|(simp_all;omega)
    intro h40
    try have p40:=of_decide_eq_false h40
    (iterate 2 refine s_move H (wg H rfl rfl h40) rfl rfl ?_;clear H;intro a H);refine s_indexs k un9cp H (wg H rfl rfl h40) rfl rfl rfl (by omega) rfl ?_;clear H;intro a H;rw [← byteAt_lt] at H;refine s_cmp H (wg H rfl rfl h40) rfl rfl rfl rfl ?_;clear H;intro a H;refine s_pick_f H wn rfl h40 rfl rfl ?_;clear H;intro a H;refine kH H (Rm rfl ?_);clear H;intro a H;refine s_split H 46 rfl ?_ ?_
    ·intro h46
     try have p46:=of_decide_eq_true h46
     (iterate 4 refine s_skip H rfl rfl h46 rfl ?_;clear H;intro a H);refine s_pick_t H wn rfl h46 rfl rfl ?_;clear H;intro a H;refine kH H (Ra rfl ?_);clear H;intro a H;refine wl_nil ?_;refine ⟨_,by exact (H).sub ⟨rfl,rfl,rfl,rfl,rfl,rfl,trivial⟩,?_⟩
     unfold othB;first|(simp_all;done)|(simp_all;omega)
    intro h46
    try have p46:=of_decide_eq_false h46
    (iterate 2 refine s_move H (wg H rfl rfl h46) rfl rfl ?_;clear H;intro a H);refine s_indexs k un9cp H (wg H rfl rfl h46) rfl rfl rfl (by omega) rfl ?_;clear H;intro a H;rw [← byteAt_lt] at H;refine s_cmp H (wg H rfl rfl h46) rfl rfl rfl rfl ?_;clear H;intro a H;refine s_pick_f H wn rfl h46 rfl rfl ?_;clear H;intro a H;refine kH H (Ra rfl ?_);clear H;intro a H;refine wl_nil ?_;refine ⟨_,by exact (H).sub ⟨rfl,rfl,rfl,rfl,rfl,rfl,trivial⟩,?_⟩
    unfold othB;first|(simp_all;done)|(simp_all;omega)
   intro h34
   try have p34:=of_decide_eq_false h34
   (iterate 4 refine s_skip H rfl rfl h34 rfl ?_;clear H;intro a H);refine s_pick_f H wn rfl h34 rfl rfl ?_;clear H;intro a H;refine kH H (Rm rfl ?_);clear H;intro a H;(iterate 2 refine s_move H (wg H rfl rfl rfl) rfl rfl ?_;clear H;intro a H);refine s_indexs k un9cp H (wg H rfl rfl rfl) rfl rfl rfl (by omega) rfl ?_;clear H;intro a H;rw [← byteAt_lt] at H;refine s_cmp H (wg H rfl rfl rfl) rfl rfl rfl rfl ?_;clear H;intro a H;refine s_pick_f H wn rfl rfl rfl rfl ?_;clear H;intro a H;refine kH H (Rm rfl ?_);clear H;intro a H;refine s_split H 46 rfl ?_ ?_
   ·intro h46
    try have p46:=of_decide_eq_true h46
    (iterate 4 refine s_skip H rfl rfl h46 rfl ?_;clear H;intro a H);refine s_pick_t H wn rfl h46 rfl rfl ?_;clear H;intro a H;refine kH H (Ra rfl ?_);clear H;intro a H;refine wl_nil ?_;refine ⟨_,by exact (H).sub ⟨rfl,rfl,rfl,rfl,rfl,rfl,trivial⟩,?_⟩
    unfold othB;first|(simp_all;done)|(simp_all;omega)
   intro h46
   try have p46:=of_decide_eq_false h46
   (iterate 2 refine s_move H (wg H rfl rfl h46) rfl rfl ?_;clear H;intro a H);refine s_indexs k un9cp H (wg H rfl rfl h46) rfl rfl rfl (by omega) rfl ?_;clear H;intro a H;rw [← byteAt_lt] at H;refine s_cmp H (wg H rfl rfl h46) rfl rfl rfl rfl ?_;clear H;intro a H;refine s_pick_f H wn rfl h46 rfl rfl ?_;clear H;intro a H;refine kH H (Ra rfl ?_);clear H;intro a H;refine wl_nil ?_;refine ⟨_,by exact (H).sub ⟨rfl,rfl,rfl,rfl,rfl,rfl,trivial⟩,?_⟩
   unfold othB;first|(simp_all;done)|(simp_all;omega)
  clear H;intro gh a w hI H;obtain ⟨ot,hgh⟩:∃ x,x=gh:=⟨_,rfl⟩;subst hgh;have hot:=hI;dsimp only [List.cons_append,List.nil_append,List.append_nil] at H;refine c_seqR (fun _ K13=>?_);refine kH H (Rm rfl (Rn rfl (Rm rfl ?_)));clear H;intro a H;refine s_split H 54 rfl ?_ ?_
  ·intro h54
   try have p54:=of_decide_eq_true h54
   refine s_move H (wg H rfl rfl h54) rfl rfl ?_;clear H;intro a H;refine s_cmp H (wg H rfl rfl h54) rfl rfl rfl rfl ?_;clear H;intro a H;refine s_move H (wg H rfl rfl h54) rfl rfl ?_;clear H;intro a H;refine s_split H 57 rfl ?_ ?_
   ·intro h57
    try have p57:=of_decide_eq_true h57
    (iterate 2 refine s_skip H rfl rfl h57 rfl ?_;clear H;intro a H);refine s_pick_t H (wg H rfl rfl h54) rfl h57 rfl rfl ?_;clear H;intro a H;refine s_pick_t H wn rfl h54 rfl rfl ?_;clear H;intro a H;refine K13 _ _ ?_;clear K13;refine c_cond_t H rfl rfl ?_;refine c_seqR (fun _ K14=>?_);refine kH H (Ra rfl ?_);clear H;intro a H;refine K14 _ _ ?_;clear K14;refine c_ret ?_;refine lv H Tryz.results60 rfl ?_
    first
     | exact H.hp.ret ⟨congrArg Value.bool (by
       unfold cpNm
       rw [show k=s.size by omega] at hall
       rw [hall,decide_eq_true (by omega)];rfl),rfl⟩
     | exact H.hp.ret ⟨congrArg Value.bool (by
       unfold cpNm
       rw [show (List.range s.size).all (nmC s)=false from List.all_eq_false.2 ⟨k,by simpa using hk2,by unfold nmC;simp_all⟩,Bool.and_false]),rfl⟩
   intro h57
   try have p57:=of_decide_eq_false h57
   refine s_move H (wg H rfl rfl h57) rfl rfl ?_;clear H;intro a H;refine s_not H (wg H rfl rfl h57) rfl rfl ?_;clear H;intro a H;refine s_pick_f H (wg H rfl rfl h54) rfl h57 rfl rfl ?_;clear H;intro a H;refine s_pick_t H wn rfl h54 rfl rfl ?_;clear H;intro a H;refine K13 _ _ ?_;clear K13;refine c_cond H rfl ?_ ?_
   ·intro h61
    try have p61:=of_decide_eq_true h61
    refine c_seqR (fun _ K15=>?_);refine kH H (Ra rfl ?_);clear H;intro a H;refine K15 _ _ ?_;clear K15;refine c_ret ?_;refine lv H Tryz.results60 rfl ?_
    first
     | exact H.hp.ret ⟨congrArg Value.bool (by
       unfold cpNm
       rw [show k=s.size by omega] at hall
       rw [hall,decide_eq_true (by omega)];rfl),rfl⟩
     | exact H.hp.ret ⟨congrArg Value.bool (by
       unfold cpNm
       rw [show (List.range s.size).all (nmC s)=false from List.all_eq_false.2 ⟨k,by simpa using hk2,by unfold nmC;simp_all⟩,Bool.and_false]),rfl⟩
   intro h61
   try have p61:=of_decide_eq_false h61
   refine c_skip ?_;refine K10 _ _ ?_;clear K10;refine c_region ?_;refine s_add _ H wn rfl rfl rfl (by omega) (by omega) rfl ?_;clear H;intro a H;refine kH H (Rm rfl ?_);clear H;intro a H;refine wl_nil ?_;refine loop_end ((k+1)) (by exact (H).sub ⟨rfl,rfl,rfl,trivial⟩) ?_ ?_
   ·exact ⟨by omega,by rw [List.range_succ,List.all_append,hall];simp [nmC];simp_all⟩
   first|omega|(dsimp only;omega)
  intro h54
  try have p54:=of_decide_eq_false h54
  (iterate 3 refine s_skip H rfl rfl h54 rfl ?_;clear H;intro a H);(iterate 2 refine s_skipU H rfl rfl rfl ?_;clear H;intro a H);refine s_skip H rfl rfl h54 rfl ?_;clear H;intro a H;refine s_pick_f H wn rfl h54 rfl rfl ?_;clear H;intro a H;refine K13 _ _ ?_;clear K13;refine c_cond_f H rfl rfl ?_;refine c_skip ?_;refine K10 _ _ ?_;clear K10;refine c_region ?_;refine s_add _ H wn rfl rfl rfl (by omega) (by omega) rfl ?_;clear H;intro a H;refine kH H (Rm rfl ?_);clear H;intro a H;refine wl_nil ?_;refine loop_end ((k+1)) (by exact (H).sub ⟨rfl,rfl,rfl,trivial⟩) ?_ ?_
  ·exact ⟨by omega,by rw [List.range_succ,List.all_append,hall];simp [nmC];simp_all⟩
  first|omega|(dsimp only;omega)
 intro h18
 try have p18:=of_decide_eq_false h18
 refine c_exit ?_;refine K6 _ _ ?_;clear K6;refine c_seqR (fun _ K16=>?_);refine kH H (Ra rfl ?_);clear H;intro a H;refine K16 _ _ ?_;clear K16;refine c_ret ?_;refine lv H Tryz.results60 rfl ?_
 first
  | exact H.hp.ret ⟨congrArg Value.bool (by
    unfold cpNm
    rw [show k=s.size by omega] at hall
    rw [hall,decide_eq_true (by omega)];rfl),rfl⟩
  | exact H.hp.ret ⟨congrArg Value.bool (by
    unfold cpNm
    rw [show (List.range s.size).all (nmC s)=false from List.all_eq_false.2 ⟨k,by simpa using hk2,by unfold nmC;simp_all⟩,Bool.and_false]),rfl⟩
end
section
open Go.RowKit
section
variable {N:Nat} {D:List Deferred} {w0:World} {F:Nat→Prop} {G0 G:GH} {L:OL} {T:List (Nat × Value)}
variable {r:Option Nat} {P:Program} {ops:Array Oper} {Q:Exit→Act→World→Prop} {rest:List Oper} {a:Act} {w:World}
variable {d:Nat} {ty:TypeId} {pos:String} {aft:Array Edge} {g:Option (Nat × Bool)}
end
end
section
open Go.RowKit
section
variable {N:Nat} {D:List Deferred} {w0:World} {F:Nat→Prop} {G0 G:GH} {L:OL} {T T':List (Nat × Value)}
variable {r:Option Nat} {P:Program} {Q:Exit→Act→World→Prop} {l:List Oper} {a a':Act} {w w':World} {ε:Type}
/-- What the slots of the operations that are done hold. -/
def Vals (l:List Oper) (pr:ε→Nat→Value→Prop) (T:List (Nat × Value)) (S:Nat→Bool) (E:ε) (T':List (Nat × Value)):Prop :=
 (∀ t v,lk T t=some v→lk T' t=some v)∧∀ i d,S i=true→dstOf l i=some d→∃ v,lk T' d=some v∧pr E i v
theorem Vals.put {pr:ε→Nat→Value→Prop} {S:Nat→Bool} {E E':ε} {i d:Nat} {v:Value} (h:Vals l pr T S E T') (hok:dstOk l T=true) (hi:dstOf l i=some d) (hv:pr E' i v) (hE:∀ j u,j≠i→pr E j u→pr E' j u):Vals l pr T (setT S i) E' ((d,v) :: T'):=by
 have hil:=dstOf_lt hi
 have hok1:=List.all_eq_true.1 hok i (List.mem_range.2 hil)
 rw [dst1,hi] at hok1
 simp only [Bool.and_eq_true,Option.isNone_iff_eq_none,List.all_eq_true,List.mem_range] at hok1
 refine ⟨fun t u ht=>?_,fun j e hj he=>?_⟩
 ·rw [lk_cons_ne (fun e=>by subst e;rw [hok1.1] at ht;cases ht)];exact h.1 t u ht
 ·by_cases hji:j=i
  ·subst hji;rw [hi] at he;cases he;exact ⟨v,lk_cons_self _ _ _,hv⟩
  ·have hSj:S j=true:=by unfold setT at hj;rwa [if_neg hji] at hj
   obtain ⟨u,hu1,hu2⟩:=h.2 j e hSj he
   have hne:d≠e:=by
    intro e';subst e'
    have h2:=hok1.2 j (dstOf_lt he)
    have hb:Nat.beq i j=false:=beq_no (fun h=>hji h.symm)
    rw [hb,he] at h2
    simp at h2
   exact ⟨u,by rw [lk_cons_ne hne];exact hu1,hE j u hji hu2⟩
theorem Vals.unit {pr:ε→Nat→Value→Prop} {S:Nat→Bool} {E:ε} {i:Nat} (h:Vals l pr T S E T') (hi:dstOf l i=none):Vals l pr T (setT S i) E T' :=
 ⟨h.1,fun j e hj he=>h.2 j e (by
  unfold setT at hj
  by_cases hji:j=i
  ·subst hji;rw [hi] at he;cases he
  ·rwa [if_neg hji] at hj) he⟩
theorem Vals.add {pr:ε→Nat→Value→Prop} {S:Nat→Bool} {E:ε} (h:Vals l pr T S E T') {t:Nat} {u:Value} (hu:lk T' t=some u):Vals l pr T S E ((t,u) :: T'):=by
 have e:∀ s v,lk T' s=some v→lk ((t,u) :: T') s=some v:=fun s v hs=>by
  by_cases hst:t=s
  ·subst hst;rw [hu] at hs;cases hs;exact lk_cons_self _ _ _
  ·rw [lk_cons_ne hst];exact hs
 exact ⟨fun s v hs=>e s v (h.1 s v hs),fun i d hi hd=>by
  obtain ⟨v,h1,h2⟩:=h.2 i d hi hd
  exact ⟨v,e d v h1,h2⟩⟩
end
end
section
open Go.RowKit
section
variable {N:Nat} {D:List Deferred} {w0:World} {F:Nat→Prop} {G0 G G1 G2:GH} {L L1:OL} {T Xs:List (Nat × Value)}
variable {r:Option Nat} {P:Program} {Q:Exit→Act→World→Prop} {l:List Oper} {a a':Act} {w w':World}
theorem c_drawG {id:Nat} (hm:P.follows .mixedOrders=true) (clo:List (List Nat)) (B:List Nat) (hk:drawOk l clo=true) (hB:tailOk l clo B=true) (X:(Nat→Bool)→Act→World→Prop) (h0:X (fun _=>false) a w.drew)
  (hstep:∀ i o S a w,l[i]?=some o→B.contains i=false→S i=false→(∀ j∈clo.getD i [],S j=true)→(∀ j,j < l.length→i∈clo.getD j []→S j=false)→X S a w→WL r P l.toArray (fun e a' w'=>e=.normal∧X (setT S i) a' w') [o] a w)
  (hend:∀ S a w,(∀ i,i < l.length→B.contains i=false→S i=true)→(∀ i,B.contains i=true→S i=false)→X S a w→WL r P l.toArray (fun e a w=>e=.normal∧Q .normal a w) (opsAt l B) a w):WP r P (.region id l.toArray true) Q a w:=by
 have hB1:∀ p b,B[p]?=some b→b < l.length∧∀ i,i < l.length→(B.contains i=false∨(B.take p).contains i=true)→i∈clo.getD b []:=by
  intro p b hp
  simp only [tailOk,Bool.and_eq_true] at hB
  have h1:=List.all_eq_true.1 hB.1 p (List.mem_range.2 (List.getElem?_eq_some_iff.1 hp).1)
  rw [hp] at h1
  simp only [Bool.and_eq_true,List.all_eq_true,List.mem_range] at h1
  refine ⟨Eq.mp Nat.blt_eq h1.1,fun i hi hor=>?_⟩
  have h2:=h1.2 i hi
  rcases hor with h3|h3
  ·have h4:i∉B:=by simpa using h3
   simpa [h4] using h2
  ·have h4:i∈B.take p:=by simpa using h3
   simpa [h4] using h2
 have hB2:∀ i,i < l.length→B.contains i=false→∀ j∈clo.getD i [],B.contains j=false:=by
  intro i hi hb j hj
  simp only [tailOk,Bool.and_eq_true] at hB
  have h1:=List.all_eq_true.1 hB.2 i (List.mem_range.2 hi)
  rw [hb] at h1
  simp only [Bool.false_or,List.all_eq_true] at h1
  simpa using h1 j hj
 refine c_draw hm clo hk (fun S a w=>((∀ i,B.contains i=true→S i=false)∧X S a w) ∨
   ∃ p,(∀ i,i < l.length→B.contains i=false→S i=true)∧(∀ i,(B.take p).contains i=true→S i=true)∧(∀ q b,B[q]?=some b→p≤q→S b=false)∧WL r P l.toArray (fun e a w=>e=.normal∧Q .normal a w) (opsAt l (B.drop p)) a w)
  (.inl ⟨fun _ _=>rfl,h0⟩) ?_ ?_
 ·intro i o S a w ho hX hSi hclo hdesc
  have hil:i < l.length:=(List.getElem?_eq_some_iff.1 ho).1
  by_cases hbi:B.contains i=true
  ·-- an operation of the tail: all that stands ahead of it is done
   obtain ⟨p0,hp0⟩:=List.getElem?_of_mem (by simpa using hbi:i∈B)
   have hall:∀ j,j < l.length→B.contains j=false→S j=true:=fun j hj hb=>hclo j ((hB1 p0 i hp0).2 j hj (.inl hb))
   have hphase:∃ p,(∀ i,(B.take p).contains i=true→S i=true)∧(∀ q b,B[q]?=some b→p≤q→S b=false)∧WL r P l.toArray (fun e a w=>e=.normal∧Q .normal a w) (opsAt l (B.drop p)) a w:=by
    rcases hX with ⟨h1,hD⟩|⟨p,_,h2,h3,h4⟩
    ·exact ⟨0,by simp,fun q b hq _=>h1 b (by simpa using List.mem_of_getElem? hq),hend S a w hall h1 hD⟩
    ·exact ⟨p,h2,h3,h4⟩
   obtain ⟨p,h2,h3,h4⟩:=hphase
   -- i is the next one
   have hpp:p≤p0:=by
    rcases Nat.lt_or_ge p0 p with hlt|hge
    ·have:(B.take p).contains i=true:=by
      simp only [List.contains_iff_mem]
      exact List.mem_of_getElem? (i:=p0) (by rw [List.getElem?_take,if_pos hlt];exact hp0)
     rw [h2 i this] at hSi;cases hSi
    ·exact hge
   have hplt:p < B.length:=by have:=(List.getElem?_eq_some_iff.1 hp0).1;omega
   have hbp:B[p]?=some B[p]:=List.getElem?_eq_getElem hplt
   have heq:B[p]=i:=by
    rcases Nat.lt_or_ge p p0 with hlt|hge
    ·exfalso
     have hin:B[p]∈clo.getD i []:=(hB1 p0 i hp0).2 _ (hB1 p _ hbp).1 (.inr (by
      simp only [List.contains_iff_mem]
      exact List.mem_of_getElem? (i:=p) (by rw [List.getElem?_take,if_pos hlt];exact hbp)))
     have:=hclo _ hin
     rw [h3 p _ hbp (Nat.le_refl _)] at this;cases this
    ·have:p=p0:=by omega
     subst this
     rw [hbp] at hp0;simpa using hp0
   have hdrop:B.drop p=i :: B.drop (p+1):=by rw [List.drop_eq_getElem_cons hplt,heq]
   have hops:opsAt l (B.drop p)=o :: opsAt l (B.drop (p+1)):=by rw [hdrop];simp [opsAt,ho]
   rw [hops] at h4
   refine wl_split (fun a' w' h5=>.inr ⟨p+1,fun j hj hb=>?_,fun j hj=>?_,fun q b hq hpq=>?_,h5⟩) h4
   ·unfold setT;split
    ·rfl
    ·exact hall j hj hb
   ·unfold setT;split
    ·rfl
    ·rename_i hne
     refine h2 j ?_
     simp only [List.contains_iff_mem] at hj ⊢
     rw [List.take_succ_eq_append_getElem hplt,List.mem_append] at hj
     rcases hj with hj|hj
     ·exact hj
     ·simp only [List.mem_singleton] at hj;exact absurd (hj.trans heq) hne
   ·unfold setT
    rw [if_neg ?_]
    ·exact h3 q b hq (by omega)
    ·rintro rfl
     -- i would stand twice in B: it would come ahead of itself
     have h6:=(hB1 q b hq).2 b (hB1 q b hq).1 (.inr (by
      simp only [List.contains_iff_mem]
      exact List.mem_of_getElem? (i:=p) (by rw [List.getElem?_take,if_pos (by omega)];rw [hbp,heq])))
     rw [hclo _ h6] at hSi;cases hSi
  ·have hbi':B.contains i=false:=by cases h:B.contains i with|false=>rfl|true=>exact absurd h hbi
   rcases hX with ⟨h1,hX⟩|⟨p,h0,_,_,_⟩
   ·refine wl_mono (fun e a' w' ⟨he,hD⟩=>⟨he,.inl ⟨fun j hj=>?_,hD⟩⟩) (hstep i o S a w ho hbi' hSi hclo hdesc hX)
    unfold setT
    rw [if_neg (by rintro rfl;rw [hbi'] at hj;cases hj)]
    exact h1 j hj
   ·rw [h0 i hil hbi'] at hSi;cases hSi
 ·intro S a w hall hX
  rcases hX with ⟨h1,hD⟩|⟨p,_,_,h3,h4⟩
  ·have hnil:B=[]:=by
    cases B with
    | nil=>rfl
    | cons b B=>have h5:=h1 b (by simp);rw [hall b (hB1 0 b rfl).1] at h5;cases h5
   subst hnil
   exact (hend S a w (fun j hj _=>hall j hj) h1 hD).2
  ·have hnil:B.drop p=[]:=by
    cases hd:B.drop p with
    | nil=>rfl
    | cons b B' =>
     have hb:B[p]?=some b:=by
      have:=congrArg (fun x:List Nat=>x[0]?) hd
      simpa using this
     have h5:=h3 p b hb (Nat.le_refl _)
     rw [hall b (hB1 p b hb).1] at h5;cases h5
   rw [hnil] at h4
   exact h4.2
/-- The operation that makes what is owned more. -/
theorem draw_mid {pr:Nat→Value→GH→Prop} {S:Nat→Bool} {i d:Nat} {v:Value} (hok:dst1 l T i=true) (hi:dstOf l i=some d) 
  (HT:St N D w0 F G0 G1 L T a w) (Hb:St N D w0 F G0 G1 L (Xs++full N a) a w) (hG:∀ k o,G k=some o→G1 k=some o) (hv:∀ j d,j≠i→S j=true→dstOf l j=some d→∃ v,a.tmps[d]?=some v∧pr j v G1)
  (hp:pr i v G1) (H:St N D w0 F G0 G1 L1 ((d,v) :: (Xs++full N a)) a' w'):DX N D w0 F G0 G L1 T l pr (setT S i) a' w':=by
 have hil:i < l.length:=dstOf_lt hi
 have hok1:=hok
 rw [dst1,hi] at hok1
 simp only [Bool.and_eq_true,Option.isNone_iff_eq_none,List.all_eq_true,List.mem_range] at hok1
 have hsame:∀ t,t≠d→a'.tmps[t]?=a.tmps[t]?:=by
  intro t ht
  by_cases hlt:t < N
  ·have h1:∃ u,lk (Xs++full N a) t=some u:=by
    rw [lk_append]
    cases lk Xs t with
    | some u=>exact ⟨u,rfl⟩
    | none=>exact ⟨_,lk_full a hlt⟩
   obtain ⟨u,hu⟩:=h1
   rw [Hb.get t u hu,H.get t u (by rw [lk_cons_ne (Ne.symm ht)];exact hu)]
  ·rw [Array.getElem?_eq_none (by rw [H.asz];omega),Array.getElem?_eq_none (by rw [Hb.asz];omega)]
 refine ⟨G1,hG,⟨H.asz,fun t u ht=>?_,H.dfr,H.hp⟩,fun j e hj he=>?_⟩
 ·rw [hsame t (fun e=>by rw [e,hok1.1] at ht;cases ht)]
  exact HT.get t u ht
 ·by_cases hji:j=i
  ·subst hji
   rw [hi] at he
   simp only [Option.some.injEq] at he
   subst he
   exact ⟨v,H.get d v (lk_cons_self _ _ _),hp⟩
  ·have hSj:S j=true:=by unfold setT at hj;rwa [if_neg hji] at hj
   obtain ⟨u,hu1,hu2⟩:=hv j e hji hSj he
   have hne:e≠d:=by
    intro e'
    subst e'
    have h2:=hok1.2 j (dstOf_lt he)
    rw [beq_no (fun h=>hji h.symm),he] at h2
    simp at h2
   exact ⟨u,by rw [hsame e hne];exact hu1,hu2⟩
end
end
section
open Go.RowKit
section
variable {N:Nat} {D:List Deferred} {w0:World} {F:Nat→Prop} {G0 G G1 G2:GH} {L L1:OL} {T Xs:List (Nat × Value)}
variable {r:Option Nat} {P:Program} {Q:Exit→Act→World→Prop} {l:List Oper} {a a':Act} {w w':World}
end
end
section
open Go.RowKit
section
variable {N:Nat} {D:List Deferred} {w0:World} {F:Nat→Prop} {G0 G G1 G2:GH} {L L1 L2:OL} {T Xs:List (Nat × Value)}
variable {r:Option Nat} {P:Program} {Q:Exit→Act→World→Prop} {l:List Oper} {a a':Act} {w w':World}
end
end
section
open Go.RowKit
theorem liesS:liesAt Tryz.prog Tryz.prog.depth 321 (7 / Tryz.prog.cellsOf 321) 2 265 1=true:=by kernel_rfl
theorem ty5lsc:Ty Tryz.prog 5 1 1 [.int .u8 0] false:=⟨by kernel_rfl,by kernel_rfl⟩
/-- A scanner's block. -/
abbrev scB (b:Nat) (s:ByteArray) (i:Int) (p v q:Value) (pl e:Int):Nat × Obj:=(b,.cells #[.string s,vi i,p,v,q,vi pl,vi e] 321 (0,0))
theorem scopyNil (G:GH) (L:OL) (w0:World) (b:Nat) (s:ByteArray) (i:Int) (A:Option Addr) (n c:Nat) (B:Option Addr) (m d:Nat) (pl e:Int) (hO:Owns G (scB b s i (.pointer none) (.slice A n c) (.slice B m d) pl e :: L) w0) :
  Calls Tryz.prog 210 #[.pointer (some ⟨b,2,none⟩)] w0 (RetL w0 G (scB b s i (.pointer none) (.slice A n c) (.slice B m d) pl e :: L) fun u G' L'=>L'=scB b s i (.pointer (some ⟨b,2,none⟩)) (.slice A n c) (.slice B m d) pl e :: L∧G'=G):=by
 refine enterL (N:=20) (T:=[(0,_)]) Tryz.func210 rfl Tryz.ntmps210 rfl rfl hO ?_;intro a H;refine c_seqR (fun _ K1=>?_);refine kH H (Rm rfl (Rk rfl (Rf fd265_0bld rfl (Ro ty262bld 0 rfl rfl ?_))));clear H;intro a H;refine s_eqnilp un262bld H wn rfl rfl ?_;clear H;intro a H;refine K1 _ _ ?_;clear K1;refine c_cond H rfl ?_ ?_
 ·intro h6
  try have p6:=of_decide_eq_true h6
  refine c_region ?_;refine kH H (Rm rfl (Rm rfl ?_));clear H;intro a H;refine s_toUnsafe un262bld un327bld sizB H wn rfl 0 rfl rfl rfl ?_;clear H;intro a H;refine s_noEscape (xs:=[.tmp 9]) (noEsc _) H wn rfl rfl ?_;clear H;intro a H;refine s_fromUnsafe un327bld un262bld sizB H wn rfl 0 rfl liesS rfl ?_;clear H;intro a H;refine kH H (Rk rfl (Rf fd265_0bld rfl ?_));clear H;intro a H;refine s_store ty262bld 0 (vs:=[_]) _ H wn rfl rfl rfl rfl rfl rfl rfl rfl ?_;clear H;intro w H;dsimp only [List.set,setRow] at H;refine wl_nil ?_;refine (leave0 H Tryz.results210 ?_).2;exact H.hp.retL ⟨rfl,rfl⟩
 intro h6
 try have p6:=of_decide_eq_false h6
 exact absurd h6 (by decide)
theorem scopySelf (G:GH) (L:OL) (w0:World) (b:Nat) (s:ByteArray) (i:Int) (A:Option Addr) (n c:Nat) (B:Option Addr) (m d:Nat) (pl e:Int) (hO:Owns G (scB b s i (.pointer (some ⟨b,2,none⟩)) (.slice A n c) (.slice B m d) pl e :: L) w0) :
  Calls Tryz.prog 210 #[.pointer (some ⟨b,2,none⟩)] w0 (RetL w0 G (scB b s i (.pointer (some ⟨b,2,none⟩)) (.slice A n c) (.slice B m d) pl e :: L) fun u G' L'=>L'=scB b s i (.pointer (some ⟨b,2,none⟩)) (.slice A n c) (.slice B m d) pl e :: L∧G'=G):=by
 refine enterL (N:=20) (T:=[(0,_)]) Tryz.func210 rfl Tryz.ntmps210 rfl rfl hO ?_;intro a H;refine c_seqR (fun _ K1=>?_);refine kH H (Rm rfl (Rk rfl (Rf fd265_0bld rfl (Ro ty262bld 0 rfl rfl ?_))));clear H;intro a H;refine s_eqnilp un262bld H wn rfl rfl ?_;clear H;intro a H;refine K1 _ _ ?_;clear K1;refine c_cond H rfl ?_ ?_
 ·intro h6
  try have p6:=of_decide_eq_true h6
  exact absurd h6 (by simp)
 intro h6
 try have p6:=of_decide_eq_false h6
 refine c_seqR (fun _ K2=>?_);refine kH H (Rm rfl (Rk rfl (Rf fd265_0bld rfl (Ro ty262bld 0 rfl rfl (Rm rfl ?_)))));clear H;intro a H;refine s_neqsame un262bld sizB H wn rfl rfl rfl ?_;clear H;intro a H;refine K2 _ _ ?_;clear K2;refine c_cond H rfl ?_ ?_
 ·intro h19
  try have p19:=of_decide_eq_true h19
  exact absurd h19 (by decide)
 intro h19
 try have p19:=of_decide_eq_false h19
 refine c_skip ?_;refine (leave0 H Tryz.results210 ?_).2;exact H.hp.retL ⟨rfl,rfl⟩
theorem scopy_spec (G:GH) (L:OL) (w0:World) (b:Nat) (s:ByteArray) (i:Int) (p:Value) (A:Option Addr) (n c:Nat) (B:Option Addr) (m d:Nat) (pl e:Int) (hp:p=.pointer none∨p=.pointer (some ⟨b,2,none⟩)) (hO:Owns G (scB b s i p (.slice A n c) (.slice B m d) pl e :: L) w0) :
  Calls Tryz.prog 210 #[.pointer (some ⟨b,2,none⟩)] w0 (RetL w0 G (scB b s i p (.slice A n c) (.slice B m d) pl e :: L) fun u G' L'=>L'=scB b s i (.pointer (some ⟨b,2,none⟩)) (.slice A n c) (.slice B m d) pl e :: L∧G'=G):=by
 rcases hp with rfl|rfl
 ·exact scopyNil G L w0 b s i A n c B m d pl e hO
 exact scopySelf G L w0 b s i A n c B m d pl e hO
theorem wbyte_spec (G:GH) (Lp Lo:OL) (w0:World) (b:Nat) (s:ByteArray) (i:Int) (p v:Value) (B:Option Addr) (m d:Nat) (pl e:Int) (n:Nat) (xs:List Value) (c:Int) (hp:p=.pointer none∨p=.pointer (some ⟨b,2,none⟩)) (hO:Owns G (scB b s i p v (.slice B m d) pl e :: (Lp++Lo)) w0) (hrow:IsRow 5 1 v n xs Lo) (hn:n≤4294967296) :
  Calls Tryz.prog 235 #[.pointer (some ⟨b,2,none⟩),.int .u8 c] w0 (RetL w0 G (scB b s i p v (.slice B m d) pl e :: (Lp++Lo)) fun u G' L'=>∃ v' Lo',L'=scB b s i (.pointer (some ⟨b,2,none⟩)) v' (.slice B m d) pl e :: (Lp++Lo')∧IsRow 5 1 v' (n+1) (xs++[.int .u8 c]) Lo'∧G'=G):=by
 have hml:maxLen=9223372036854775807:=rfl;obtain ⟨A,c0,rfl,-,-⟩:=hrow.shape;obtain ⟨Lt,hLt⟩:∃ x,x=Lp++Lo:=⟨_,rfl⟩;rw [← hLt] at hO ⊢;refine enterL (N:=17) (T:=[(0,_),(1,_)]) Tryz.func235 rfl Tryz.ntmps235 rfl rfl hO ?_;intro a H;refine c_seqR (fun _ K1=>?_);refine kH H (Ra rfl ?_);clear H;intro a H;refine K1 _ _ ?_;clear K1;refine c_seqR (fun _ K2=>?_);refine kH H (Rm rfl ?_);clear H;intro a H;refine s_callL en210bld (Li:=[]) (L:=scB b s i p _ (.slice B m d) pl e :: Lt) H wn rfl (scopy_spec _ _ _ b s i p A n c0 B m d pl e hp (Hp.owns (Li:=[]) H.hp)) rfl ?_;clear H;rintro v6 _ L6 a w ⟨rfl,rfl⟩ hm6 H;dsimp only [List.nil_append] at H;refine K2 _ _ ?_;clear K2;refine c_seqR (fun _ K3=>?_);refine kH H (Rm rfl (Rm rfl (Rk rfl (Rf fd265_1bld rfl (Ro ty263bld 0 rfl rfl (Rm rfl ?_))))));clear H;intro a H;refine s_buildSlice un263bld ty5lsc [_] [_] H wn rfl rfl rfl rfl rfl (by intro i q h;match i,h with|0,h=>exact h|n+1,h=>simp at h) rfl rfl ?_;clear H;intro b13 a w hb13 H;subst hLt;have H:=St.un (A:=[_,_]) (B:=Lp) (C:=Lo) H;refine s_append (Li:=[_,_]++Lp) (Lo:=Lo) (news:=[.int .u8 c]) un263bld ty5lsc rfl rfl H wn rfl rfl hrow rfl (H.hp.ocells 0 rfl rfl) rfl (by omega) (by omega) rfl ?_;clear H;intro v14 Lo14 a w hrw14 H;obtain ⟨A14,c14,rfl,-,-⟩:=hrw14.shape;have H:=H.assoc;dsimp only [List.cons_append,List.nil_append] at H;refine kH H (Rk rfl (Rf fd265_1bld rfl ?_));clear H;intro a H;refine s_store ty263bld 1 (vs:=[_]) _ H wn rfl rfl rfl rfl rfl rfl rfl rfl ?_;clear H;intro w H;dsimp only [List.set,setRow] at H;refine K3 _ _ ?_;clear K3;refine c_seqR (fun _ K4=>?_);refine kH H (Ra rfl ?_);clear H;intro a H;refine K4 _ _ ?_;clear K4;refine c_ret ?_;refine lv H Tryz.results235 rfl ?_;exact H.hp.retD (L':=scB b s i _ _ _ pl e :: (Lp++Lo14)) (List.sublist_cons_self _ _) ⟨_,_,rfl,hrw14,rfl⟩
theorem slen_spec (G:GH) (L:OL) (w0:World) (b:Nat) (s:ByteArray) (i:Int) (p:Value) (A:Option Addr) (n c:Nat) (B:Option Addr) (m d:Nat) (pl e:Int) (hO:Owns G (scB b s i p (.slice A n c) (.slice B m d) pl e :: L) w0) :
  Calls Tryz.prog 243 #[.pointer (some ⟨b,2,none⟩)] w0 (RetL w0 G (scB b s i p (.slice A n c) (.slice B m d) pl e :: L) fun u G' L'=>u=vi n∧L'=scB b s i p (.slice A n c) (.slice B m d) pl e :: L∧G'=G):=by
 refine enterL (N:=8) (T:=[(0,_)]) Tryz.func243 rfl Tryz.ntmps243 rfl rfl hO ?_;intro a H;refine c_seqR (fun _ K1=>?_);refine kH H (Ra rfl ?_);clear H;intro a H;refine K1 _ _ ?_;clear K1;refine c_seqR (fun _ K2=>?_);refine kH H (Rm rfl (Rk rfl (Rf fd265_1bld rfl (Ro ty263bld 0 rfl rfl (Rl un263bld rfl (Ra rfl ?_))))));clear H;intro a H;refine K2 _ _ ?_;clear K2;refine c_ret ?_;refine lv H Tryz.results243 rfl ?_;exact H.hp.retL ⟨rfl,rfl,rfl⟩
theorem sreset_spec (G:GH) (L:OL) (w0:World) (b:Nat) (s:ByteArray) (i:Int) (p:Value) (A:Option Addr) (n c:Nat) (B:Option Addr) (m d:Nat) (pl e:Int) (hO:Owns G (scB b s i p (.slice A n c) (.slice B m d) pl e :: L) w0) :
  Calls Tryz.prog 244 #[.pointer (some ⟨b,2,none⟩)] w0 (RetL w0 G (scB b s i p (.slice A n c) (.slice B m d) pl e :: L) fun u G' L'=>L'=scB b s i (.pointer none) (.slice none 0 0) (.slice B m d) pl e :: L∧G'=G):=by
 refine enterL (N:=8) (T:=[(0,_)]) Tryz.func244 rfl Tryz.ntmps244 rfl rfl hO ?_;intro a H;refine c_seqR (fun _ K1=>?_);refine kH H (Rm rfl (Rk rfl (Rf fd265_0bld rfl ?_)));clear H;intro a H;refine s_store ty262bld 0 (vs:=[_]) _ H wn rfl rfl rfl rfl rfl rfl rfl rfl ?_;clear H;intro w H;dsimp only [List.set,setRow] at H;refine K1 _ _ ?_;clear K1;refine c_region ?_;refine kH H (Rm rfl (Rk rfl (Rf fd265_1bld rfl ?_)));clear H;intro a H;refine s_store ty263bld 0 (vs:=[_]) _ H wn rfl rfl rfl rfl rfl rfl rfl rfl ?_;clear H;intro w H;dsimp only [List.set,setRow] at H;refine wl_nil ?_;refine (leave0 H Tryz.results244 ?_).2;exact H.hp.retL ⟨rfl,rfl⟩
theorem sstr_spec (G:GH) (Lp Lo:OL) (w0:World) (b:Nat) (s:ByteArray) (i:Int) (p v:Value) (B:Option Addr) (m d:Nat) (pl e:Int) (l:List UInt8) (hO:Owns G (scB b s i p v (.slice B m d) pl e :: (Lp++Lo)) w0) (hrow:IsRow 5 1 v l.length (Lib.byteCells l) Lo) (h0:l≠[]) :
  Calls Tryz.prog 175 #[.pointer (some ⟨b,2,none⟩)] w0 (RetL w0 G (scB b s i p v (.slice B m d) pl e :: (Lp++Lo)) fun u G' L'=>u=.string ⟨l.toArray⟩∧L'=scB b s i p v (.slice B m d) pl e :: Lp):=by
 rcases hrow.2 with ⟨-,h,-⟩|⟨b2,cap,cur,rfl,rfl,hc1,hc2,hc3,hc4⟩
 ·exact absurd (List.eq_nil_of_length_eq_zero h) h0
 have hl0:l.length≠0:=fun h=>h0 (List.eq_nil_of_length_eq_zero h);have hml:maxLen=9223372036854775807:=rfl;obtain ⟨Lt,hLt⟩:∃ x,x=Lp++[(b2,Obj.cells cur 5 (0,0))]:=⟨_,rfl⟩;rw [← hLt] at hO ⊢;refine enterL (N:=14) (T:=[(0,_)]) Tryz.func175 rfl Tryz.ntmps175 rfl rfl hO ?_;intro a H;refine c_seqR (fun _ K1=>?_);refine kH H (Ra rfl ?_);clear H;intro a H;refine K1 _ _ ?_;clear K1;refine c_seq (fun _ K2=>?_);have H:=H.sub (T':=[(0,_)]) ⟨rfl,trivial⟩;refine c_drawI (hmx) [[],[0],[0,1],[0,1,2],[0,1,2,3],[],[5],[5,6],[5,6,7],[5,6,7,8],(List.range 10),(List.range 11)] [10,11] (by kernel_rfl) (by kernel_rfl) (fun (ix_:Nat) (v:Value) (G:GH)=>match ix_ with|0=>v=.pointer (some ⟨b,2,none⟩)|1=>v=.pointer (some ⟨b,2,none⟩)|2=>v=.pointer (some ⟨b,3,none⟩)|3=>v=.slice (some ⟨b2,0,none⟩) l.length cap|4=>v=.pointer (some ⟨b2,0,none⟩)|5=>v=.pointer (some ⟨b,2,none⟩)|6=>v=.pointer (some ⟨b,2,none⟩)|7=>v=.pointer (some ⟨b,3,none⟩)|8=>v=.slice (some ⟨b2,0,none⟩) l.length cap|9=>v=vi l.length|_=>True) (fun _ _ _ _ _ h=>h) H ?_ ?_
 ·clear H;refine al4 ?_ ?_ ?_ ?_ (al4 ?_ ?_ ?_ ?_ (al4 ?_ ?_ ?_ ?_ allI_nil))
  ·exact Op0 rfl fun _ _ _ _ _ _ H fin=>kH H (Rm rfl fun _ H=>fin H iJ rfl)
  ·exact Op1 0 3 rfl rfl fun _ _ _ _ _ _ H fin=>kH H (Rk rfl fun _ H=>fin H iJ rfl)
  ·exact Op1 1 4 rfl rfl fun _ _ _ _ _ _ H fin=>kH H (Rf fd265_1bld rfl fun _ H=>fin H iJ rfl)
  ·exact Op1 2 5 rfl rfl fun _ _ _ _ _ _ H fin=>kH H (Ro ty263bld 0 rfl rfl fun _ H=>fin H iJ rfl)
  ·refine Op1 3 6 rfl rfl fun _ a w G1 hG HT H fin=>?_;refine s_sliceData H wn rfl (by omega) rfl ?_;clear H;intro a H;exact fin H iJ rfl
  ·exact Op0 rfl fun _ _ _ _ _ _ H fin=>kH H (Rm rfl fun _ H=>fin H iJ rfl)
  ·exact Op1 5 8 rfl rfl fun _ _ _ _ _ _ H fin=>kH H (Rk rfl fun _ H=>fin H iJ rfl)
  ·exact Op1 6 9 rfl rfl fun _ _ _ _ _ _ H fin=>kH H (Rf fd265_1bld rfl fun _ H=>fin H iJ rfl)
  ·exact Op1 7 10 rfl rfl fun _ _ _ _ _ _ H fin=>kH H (Ro ty263bld 0 rfl rfl fun _ H=>fin H iJ rfl)
  ·exact Op1 8 11 rfl rfl fun _ _ _ _ _ _ H fin=>kH H (Rl un263bld rfl fun _ H=>fin H iJ rfl)
  ·exact opB rfl
  exact opB rfl
 clear H;intro a w G hGm1 H hv;obtain ⟨u7,hu7,hp7⟩:=hv 4 7 (by decide) rfl;obtain rfl:u7=.pointer (some ⟨b2,0,none⟩):=hp7;have H:=H.addS hu7;obtain ⟨u12,hu12,hp12⟩:=hv 9 12 (by decide) rfl;obtain rfl:u12=vi l.length:=hp12;have H:=H.addS hu12;clear hv;subst hLt;have H:=H.perm (List.Perm.cons _ List.perm_append_comm);dsimp only [List.cons_append,List.nil_append] at H;refine s_unsafeString (i:=1) l un306bld cellsU8 h0 (by omega) H wn rfl rfl rfl (by rw [← hc4,Nat.mul_one]) rfl ?_;clear H;intro fz a w H;dsimp only [List.set] at H;refine kH H (Ra rfl ?_);clear H;intro a H;refine wl_nil ⟨rfl,?_⟩;refine K2 _ _ ?_;clear K2;refine c_ret ?_;refine lv H Tryz.results175 rfl ?_;exact H.hp.retD (L':=scB b s i _ _ _ pl e :: Lp) (List.Sublist.cons_cons _ (List.sublist_cons_self _ _)) ⟨rfl,rfl⟩
end
section
open Go.RowKit
section
variable {N:Nat} {D:List Deferred} {w0:World} {F:Nat→Prop} {G0 G G1 G2:GH} {L L1 L2:OL} {T Xs:List (Nat × Value)}
variable {r:Option Nat} {P:Program} {Q:Exit→Act→World→Prop} {l:List Oper} {a a':Act} {w w':World}
theorem DX.perm {pr:Nat→Value→GH→Prop} {S:Nat→Bool} (h:DX N D w0 F G0 G L1 T l pr S a w) (hp:L1.Perm L2):DX N D w0 F G0 G L2 T l pr S a w:=by
 obtain ⟨G1,hG,HS,hv⟩:=h
 exact ⟨G1,hG,HS.perm hp,hv⟩
end
end
section
open Go.RowKit
section
variable {N:Nat} {D:List Deferred} {w0:World} {F:Nat→Prop} {G0 G G1 G2:GH} {L L1 L2:OL} {T Xs:List (Nat × Value)}
variable {r:Option Nat} {P:Program} {Q:Exit→Act→World→Prop} {l:List Oper} {a a':Act} {w w':World}
theorem draw_valL {pr:Nat→Value→GH→Prop} {S:Nat→Bool} {i d:Nat} {v:Value} (hok:dst1 l T i=true) (hprm:∀ i v (G G':GH),(∀ k o,G k=some o→G' k=some o)→pr i v G→pr i v G') (hi:dstOf l i=some d)
  (HT:St N D w0 F G0 G1 L T a w) (Hb:St N D w0 F G0 G1 L (Xs++full N a) a w) (hG:∀ k o,G k=some o→G1 k=some o) (hv:∀ j d,j≠i→S j=true→dstOf l j=some d→∃ v,a.tmps[d]?=some v∧pr j v G1)
  (hG2:∀ k o,G1 k=some o→G2 k=some o) (hp:pr i v G2) (H:St N D w0 F G0 G2 L1 ((d,v) :: (Xs++full N a)) a' w'):DX N D w0 F G0 G L1 T l pr (setT S i) a' w':=by
 have hok1:=hok
 rw [dst1,hi] at hok1
 simp only [Bool.and_eq_true,Option.isNone_iff_eq_none,List.all_eq_true,List.mem_range] at hok1
 have hsame:∀ t,t≠d→a'.tmps[t]?=a.tmps[t]?:=by
  intro t ht
  by_cases hlt:t < N
  ·have h1:∃ u,lk (Xs++full N a) t=some u:=by
    rw [lk_append]
    cases lk Xs t with
    | some u=>exact ⟨u,rfl⟩
    | none=>exact ⟨_,lk_full a hlt⟩
   obtain ⟨u,hu⟩:=h1
   rw [Hb.get t u hu,H.get t u (by rw [lk_cons_ne (Ne.symm ht)];exact hu)]
  ·rw [Array.getElem?_eq_none (by rw [H.asz];omega),Array.getElem?_eq_none (by rw [Hb.asz];omega)]
 refine ⟨G2,fun k o hk=>hG2 k o (hG k o hk),⟨H.asz,fun t u ht=>?_,H.dfr,H.hp⟩,fun j e hj he=>?_⟩
 ·rw [hsame t (fun e=>by rw [e,hok1.1] at ht;cases ht)]
  exact HT.get t u ht
 ·by_cases hji:j=i
  ·subst hji
   rw [hi] at he
   simp only [Option.some.injEq] at he
   subst he
   exact ⟨v,H.get d v (lk_cons_self _ _ _),hp⟩
  ·have hSj:S j=true:=by unfold setT at hj;rwa [if_neg hji] at hj
   obtain ⟨u,hu1,hu2⟩:=hv j e hji hSj he
   have hne:e≠d:=by
    intro e'
    subst e'
    have h2:=hok1.2 j (dstOf_lt he)
    rw [beq_no (fun h=>hji h.symm),he] at h2
    simp at h2
   exact ⟨u,by rw [hsame e hne];exact hu1,hprm j u _ _ hG2 hu2⟩
/-- Operation m1 turns L into L2, operation m2 behind it makes a block, operation m3 behind that turns all into L3; the others look into C alone. -/
theorem c_drawLM3 {id:Nat} {κ:Type} (k0:κ) (hm:P.follows .mixedOrders=true) (clo:List (List Nat)) (B:List Nat) (hk:drawOk l clo=true) (hB:tailOk l clo B=true) (m1 m2 m3:Nat) (hmB1:B.contains m1=false) (hmB2:B.contains m2=false) (hmB3:B.contains m3=false) (hne:Nat.beq m1 m2=false) (hne3:Nat.beq m2 m3=false) (hne1:Nat.beq m1 m3=false) (h12:(clo.getD m2 []).contains m1=true) (h13:(clo.getD m3 []).contains m1=true) (h23:(clo.getD m3 []).contains m2=true)
  (C L2:OL) (ob:Obj) (L3:Nat→κ→OL) (hC:∀ x,x∈C→x∈L) (hC2:∀ x,x∈C→x∈L2) (hC3:∀ b k x,x∈C→x∈L3 b k) (pr:Nat→κ→Nat→Value→GH→Prop)
  (hprb:∀ b b' k i v G,Nat.beq i m2=false→(clo.getD i []).contains m2=false→pr b k i v G→pr b' k i v G)
  (hprk:∀ b k k' i v G,Nat.beq i m3=false→(clo.getD i []).contains m3=false→pr b k i v G→pr b k' i v G)
  (H:St N D w0 F G0 G L T a w)
  (hstep:allI (fun i o=>∀ b k L' S a w G1,(∀ x,x∈C→x∈L')→B.contains i=false→Nat.beq i m1=false→Nat.beq i m2=false→Nat.beq i m3=false→S i=false→(∀ j∈clo.getD i [],S j=true)→(∀ k o,G k=some o→G1 k=some o)→St N D w0 F G0 G1 L' T a w→(∀ i d,S i=true→dstOf l i=some d→∃ v,a.tmps[d]?=some v∧pr b k i v G1) →
   WL r P l.toArray (fun e a' w'=>e=.normal∧DX N D w0 F G0 G L' T l (pr b k) (setT S i) a' w') [o] a w) 0 l)
  (hmid1:∀ o b k S a w G1,l[m1]?=some o→S m1=false→(∀ j∈clo.getD m1 [],S j=true)→(∀ k o,G k=some o→G1 k=some o)→St N D w0 F G0 G1 L T a w→(∀ i d,i≠m1→S i=true→dstOf l i=some d→∃ v,a.tmps[d]?=some v∧pr b k i v G1) →
   WL r P l.toArray (fun e a' w'=>e=.normal∧DX N D w0 F G0 G L2 T l (pr b k) (setT S m1) a' w') [o] a w)
  (hmid2:∀ o k S a w G1,l[m2]?=some o→S m2=false→(∀ j∈clo.getD m2 [],S j=true)→(∀ k o,G k=some o→G1 k=some o)→St N D w0 F G0 G1 L2 T a w→(∀ b i d,i≠m2→S i=true→dstOf l i=some d→∃ v,a.tmps[d]?=some v∧pr b k i v G1) →
   WL r P l.toArray (fun e a' w'=>e=.normal∧∃ b,DX N D w0 F G0 G ((b,ob) :: L2) T l (pr b k) (setT S m2) a' w') [o] a w)
  (hmid3:∀ o b S a w G1,l[m3]?=some o→S m3=false→(∀ j∈clo.getD m3 [],S j=true)→(∀ k o,G k=some o→G1 k=some o)→St N D w0 F G0 G1 ((b,ob) :: L2) T a w→(∀ k i d,i≠m3→S i=true→dstOf l i=some d→∃ v,a.tmps[d]?=some v∧pr b k i v G1) →
   WL r P l.toArray (fun e a' w'=>e=.normal∧∃ k,DX N D w0 F G0 G (L3 b k) T l (pr b k) (setT S m3) a' w') [o] a w)
  (hend:∀ b k a w G1,(∀ k o,G k=some o→G1 k=some o)→St N D w0 F G0 G1 (L3 b k) T a w→(∀ i d,B.contains i=false→dstOf l i=some d→∃ v,a.tmps[d]?=some v∧pr b k i v G1)→WL r P l.toArray (fun e a w=>e=.normal∧Q .normal a w) (opsAt l B) a w)
  (hml2:Nat.blt m2 l.length=true) (hml3:Nat.blt m3 l.length=true):WP r P (.region id l.toArray true) Q a w:=by
 have ne12:m1≠m2:=fun e=>by subst e;rw [Nat.beq_refl] at hne;cases hne
 have ne23:m2≠m3:=fun e=>by subst e;rw [Nat.beq_refl] at hne3;cases hne3
 have ne13:m1≠m3:=fun e=>by subst e;rw [Nat.beq_refl] at hne1;cases hne1
 refine c_drawG hm clo B hk hB (fun S a w=>(S m2=true→S m1=true)∧(S m3=true→S m2=true)∧∃ b k L',L'=(bif S m3 then L3 b k else bif S m2 then (b,ob) :: L2 else bif S m1 then L2 else L)∧DX N D w0 F G0 G L' T l (pr b k) S a w)
  ⟨fun h=>h,fun h=>h,0,k0,L,rfl,G,fun _ _ h=>h,H.move H.hp.drew,fun _ _ h=>absurd (show false=true from h) (by decide)⟩ ?_ ?_
 ·rintro i o S a w ho hb hSi hclo hdesc ⟨hord,hord3,b,k,L',hL,G1,hG,HS,hv⟩
  have hsub:∀ x,x∈C→x∈L':=fun x hx=>by
   rw [hL]
   cases S m3 with
   | true=>exact hC3 b k x hx
   | false=>cases S m2 with
    | true=>exact List.mem_cons_of_mem _ (hC2 x hx)
    | false=>cases S m1 with
     | true=>exact hC2 x hx
     | false=>exact hC x hx
  have hno:∀ j,j < l.length→S j=true→(clo.getD j []).contains i=false:=fun j hjl hj=>by
   cases hc:(clo.getD j []).contains i with
   | false=>rfl
   | true =>
    have:=hdesc j hjl (by simpa using hc)
    rw [this] at hj;cases hj
  by_cases h1:i=m1
  ·subst h1
   have hS2:S m2=false:=hdesc m2 (Eq.mp Nat.blt_eq hml2) (by simpa using h12)
   have hS3:S m3=false:=hdesc m3 (Eq.mp Nat.blt_eq hml3) (by simpa using h13)
   rw [hS3,hS2,hSi] at hL
   subst hL
   have h:=hmid1 o b k S a w G1 ho hSi hclo hG HS fun j d hj hSj hd=>hv j d hSj hd
   have e2:setT S i m2=S m2:=if_neg (fun e=>ne12 e.symm)
   have e3:setT S i m3=S m3:=if_neg (fun e=>ne13 e.symm)
   refine wl_mono (fun e a' w' ⟨he,hD⟩=>⟨he,fun _=>if_pos rfl,fun h=>(by rw [e3,hS3] at h;cases h),b,k,_,?_,hD⟩) h
   rw [show setT S i i=true from if_pos rfl,e2,e3,hS2,hS3]
   rfl
  ·by_cases h2:i=m2
   ·subst h2
    have hS1:S m1=true:=hclo m1 (by simpa using h12)
    have hS3:S m3=false:=hdesc m3 (Eq.mp Nat.blt_eq hml3) (by simpa using h23)
    rw [hS3,hSi,hS1] at hL
    subst hL
    have e1:setT S i m1=S m1:=if_neg ne12
    have e3:setT S i m3=S m3:=if_neg (fun e=>ne23 e.symm)
    have h:=hmid2 o k S a w G1 ho hSi hclo hG HS fun b' j d hj hSj hd=>by
     obtain ⟨v,hv1,hv2⟩:=hv j d hSj hd
     exact ⟨v,hv1,hprb b b' k j v _ (beq_no hj) (hno j (dstOf_lt hd) hSj) hv2⟩
    refine wl_mono (fun e a' w' ⟨he,b',hD⟩=>⟨he,fun _=>by rw [e1];exact hS1,fun _=>if_pos rfl,b',k,_,?_,hD⟩) h
    rw [show setT S i i=true from if_pos rfl,e3,hS3];rfl
   ·by_cases h3:i=m3
    ·subst h3
     have hS1:S m1=true:=hclo m1 (by simpa using h13)
     have hS2:S m2=true:=hclo m2 (by simpa using h23)
     rw [hSi,hS2] at hL
     subst hL
     have e1:setT S i m1=S m1:=if_neg ne13
     have e2:setT S i m2=S m2:=if_neg ne23
     have h:=hmid3 o b S a w G1 ho hSi hclo hG HS fun k' j d hj hSj hd=>by
      obtain ⟨v,hv1,hv2⟩:=hv j d hSj hd
      exact ⟨v,hv1,hprk b k k' j v _ (beq_no hj) (hno j (dstOf_lt hd) hSj) hv2⟩
     refine wl_mono (fun e a' w' ⟨he,k',hD⟩=>⟨he,fun _=>by rw [e1];exact hS1,fun _=>by rw [e2];exact hS2,b,k',_,?_,hD⟩) h
     rw [show setT S i i=true from if_pos rfl];rfl
    ·have h:=allI_get hstep i o ho
     rw [Nat.zero_add] at h
     have e1:setT S i m1=S m1:=if_neg (fun e=>h1 e.symm)
     have e2:setT S i m2=S m2:=if_neg (fun e=>h2 e.symm)
     have e3:setT S i m3=S m3:=if_neg (fun e=>h3 e.symm)
     refine wl_mono (fun e a' w' ⟨he,hD⟩=>⟨he,by rw [e1,e2];exact hord,by rw [e2,e3];exact hord3,b,k,L',?_,hD⟩) (h b k L' S a w G1 hsub hb (beq_no h1) (beq_no h2) (beq_no h3) hSi hclo hG HS hv)
     rw [e1,e2,e3];exact hL
 ·rintro S a w hall hnB ⟨_,_,b,k,L',hL,G1,hG,HS,hv⟩
  have hs3:S m3=true:=hall m3 (Eq.mp Nat.blt_eq hml3) hmB3
  rw [hs3] at hL
  subst hL
  exact hend b k a w G1 hG HS fun j d hb hd=>hv j d (hall j (dstOf_lt hd) hb) hd
end
theorem u8_wrap {z:Int} (h1:0≤z) (h2:z < 256):IntKind.u8.wrap z=z:=by
 simp only [IntKind.wrap,IntKind.bits,IntKind.signed,Bool.false_and,Bool.false_eq_true,if_false]
 omega
section
variable {N:Nat} {D:List Deferred} {w0:World} {F:Nat→Prop} {G0 G:GH} {L:OL} {T:List (Nat × Value)}
variable {r:Option Nat} {P:Program} {ops:Array Oper} {Q:Exit→Act→World→Prop} {rest:List Oper} {a:Act} {w:World}
variable {d:Nat} {ty:TypeId} {pos:String} {aft:Array Edge} {g:Option (Nat × Bool)}
theorem s_subu {x y:Operand} {t yt:TypeId} {p q:Int} (H:St N D w0 F G0 G L T a w) (hw:Region.wanted ⟨some d,.binOp .sub t x y yt,ty,pos,aft,g⟩ (yielded ops a.tmps)=true) (hx:ev T x=some (.int .u8 p)) (hy:ev T y=some (.int .u8 q)) (h1:0≤p - q) (h2:p - q < 256) (hd:Nat.blt d N=true)
  (k:∀ a',St N D w0 F G0 G L ((d,.int .u8 (p - q)) :: T) a' w→WL r P ops Q rest a' w):WL r P ops Q (⟨some d,.binOp .sub t x y yt,ty,pos,aft,g⟩ :: rest) a w :=
 wl_value (v:=.int .u8 (p - q)) (w':=w) hw rfl (by simp [execOp,eqGuard,binOp,Op.intArith,H.ev hx,H.ev hy,Sem.run_bind,u8_wrap h1 h2]) (k _ (H.put hd _ H.hp))
end
end
section
open Go.RowKit
theorem en243lfl:∀ args w,(callFunc 243 args).run Tryz.prog w=.ok (.enter 243 args) w:=enters Tryz.func243 rfl (by kernel_rfl)
theorem ty288lfl:Ty Tryz.prog 288 1 24 [.slice none 0 0] false:=⟨by kernel_rfl,by kernel_rfl⟩
theorem en175lfl:∀ args w,(callFunc 175 args).run Tryz.prog w=.ok (.enter 175 args) w:=enters Tryz.func175 rfl (by kernel_rfl)
theorem un288lfl:Tryz.prog.underlying 288=some (.slice 293):=by kernel_rfl
theorem ty293lfl:Ty Tryz.prog 293 3 32 [.string ⟨#[]⟩,.int .i64 0,.bool false] true:=⟨by kernel_rfl,by kernel_rfl⟩
theorem en244lfl:∀ args w,(callFunc 244 args).run Tryz.prog w=.ok (.enter 244 args) w:=enters Tryz.func244 rfl (by kernel_rfl)
theorem fd321_2lfl:Fld Tryz.prog 321 2 2:=⟨by kernel_rfl⟩
theorem fd321_3lfl:Fld Tryz.prog 321 3 4:=⟨by kernel_rfl⟩
theorem sr293lfl:Srt Tryz.prog 293 [(0,1),(1,1),(2,1)] [.string ⟨#[]⟩,.int .i64 0,.bool false]:=⟨by kernel_rfl,by kernel_rfl⟩
theorem en236lfl:∀ args w,(callFunc 236 args).run Tryz.prog w=.ok (.enter 236 args) w:=enters Tryz.func236 rfl (by kernel_rfl)
theorem fd321_4lfl:Fld Tryz.prog 321 4 5:=⟨by kernel_rfl⟩
structure LpD where
 lit:ByteArray
 level:Int
 plain:Bool
def LpD.dat (x:LpD):List Dat:=[.lf (.string x.lit),li x.level,.lf (.bool x.plain)]
abbrev LpD.cells (x:LpD):List Value:=[.string x.lit,vi x.level,.bool x.plain]
theorem lp_row (G:GH) (x:LpD):RepRow G x.dat x.cells:=by
 simp only [LpD.dat,LpD.cells,RepRow]
 exact ⟨_,_,rfl,by simp [RepV,Value.oneCell'],_,_,rfl,by simp [RepV,Value.oneCell'],_,_,rfl,by simp [RepV,Value.oneCell'],rfl⟩
theorem lp_of {G:GH} {x:LpD} {cs:List Value} (h:RepRow G x.dat cs):cs=x.cells:=by
 simp only [LpD.dat,RepRow,RepV] at h
 obtain ⟨_,_,rfl,⟨rfl,_⟩,_,_,rfl,⟨rfl,_⟩,_,_,rfl,⟨rfl,_⟩,rfl⟩:=h
 rfl
def lpC (l:List LpD):List Value:=(l.map LpD.cells).flatten
theorem lpC_snoc (l:List LpD) (x:LpD):lpC (l++[x])=lpC l++x.cells:=by simp [lpC]
/-- What the scanner holds besides its numbers: the literal that was begun, and the parts. -/
structure ScR (b:Nat) (lit:List UInt8) (parts:List LpD) (p v q:Value) (Lp Lo:OL):Prop where
 ptr:p=.pointer none∨p=.pointer (some ⟨b,2,none⟩)
 buf:IsRow 5 1 v lit.length (Lib.byteCells lit) Lo
 prt:IsRow 293 3 q parts.length (lpC parts) Lp
def flS (lit:List UInt8) (parts:List LpD):List LpD:=if lit=[] then parts else parts++[⟨⟨lit.toArray⟩,0,false⟩]
set_option maxHeartbeats 1000000 in
theorem flush_spec (G:GH) (Lp Lo:OL) (w0:World) (b:Nat) (s:ByteArray) (i:Int) (p v q:Value) (pl e:Int) (lit:List UInt8) (parts:List LpD) (hR:ScR b lit parts p v q Lp Lo) (hO:Owns G (scB b s i p v q pl e :: (Lp++Lo)) w0) (hl:lit.length≤4294967296) (hp:parts.length≤4294967296) :
  Calls Tryz.prog 236 #[.pointer (some ⟨b,0,none⟩)] w0 (RetL w0 G (scB b s i p v q pl e :: (Lp++Lo)) fun u G' L'=>∃ p' v' q' Lp' Lo',L'=scB b s i p' v' q' pl e :: (Lp'++Lo')∧ScR b [] (flS lit parts) p' v' q' Lp' Lo'):=by
 obtain ⟨hptr,hbuf,hprt⟩:=hR;have hml:maxLen=9223372036854775807:=rfl;obtain ⟨A,c,rfl,hvc1,hvc2⟩:=hbuf.shape;obtain ⟨B,d,rfl,hqc1,hqc2⟩:=hprt.shape;obtain ⟨Lt,hLt⟩:∃ x,x=Lp++Lo:=⟨_,rfl⟩;rw [← hLt] at hO ⊢;refine enterL (N:=25) (T:=[(0,_)]) Tryz.func236 rfl Tryz.ntmps236 rfl rfl hO ?_;intro a H;refine c_seqR (fun _ K1=>?_);refine kH H (Rm rfl (Rk rfl (Rf fd321_2lfl rfl ?_)));clear H;intro a H;refine s_callL en243lfl (Li:=[]) (L:=scB b s i p (.slice A lit.length c) (.slice B parts.length d) pl e :: Lt) H wn rfl (slen_spec _ _ _ b s i p A lit.length c B parts.length d pl e (Hp.owns (Li:=[]) H.hp)) rfl ?_;clear H;rintro v5 _ L5 a w ⟨rfl,rfl,rfl⟩ hm5 H;dsimp only [List.nil_append] at H;refine kH H (Rc rfl ?_);clear H;intro a H;refine K1 _ _ ?_;clear K1;refine c_cond H rfl ?_ ?_
 ·intro h6
  try have p6:=of_decide_eq_true h6
  have hne:lit≠[]:=fun e=>by rw [e] at p6;simp at p6
  subst hLt;refine c_seq (fun _ K2=>?_)
  have hprm1:∀ (bM_:Nat) (kE_:(Option Addr × Nat) × OL) (ix_:Nat) (v:Value) (G G':GH),(∀ k o,G k=some o→G' k=some o)→(fun (bM_:Nat) (kE_:(Option Addr × Nat) × OL) (ix_:Nat) (v:Value) (G:GH)=>match ix_ with|0=>v=.pointer (some ⟨b,0,none⟩)|1=>v=.pointer (some ⟨b,0,none⟩)|2=>v=.pointer (some ⟨b,0,none⟩)|3=>v=.pointer (some ⟨b,4,none⟩)|4=>v=.slice B parts.length d|5=>v=.pointer (some ⟨b,0,none⟩)|6=>v=.pointer (some ⟨b,0,none⟩)|7=>v=.pointer (some ⟨b,2,none⟩)|8=>v=.string ⟨lit.toArray⟩|9=>v=.agg (LpD.cells ⟨⟨lit.toArray⟩,0,false⟩).toArray|10=>v=.slice (some ⟨bM_,0,none⟩) 1 1|11=>v=.slice kE_.1.1 (parts.length+1) kE_.1.2∧IsRow 293 3 v (parts.length+1) (lpC (parts++[⟨⟨lit.toArray⟩,0,false⟩])) kE_.2|_=>True) bM_ kE_ ix_ v G→(fun (bM_:Nat) (kE_:(Option Addr × Nat) × OL) (ix_:Nat) (v:Value) (G:GH)=>match ix_ with|0=>v=.pointer (some ⟨b,0,none⟩)|1=>v=.pointer (some ⟨b,0,none⟩)|2=>v=.pointer (some ⟨b,0,none⟩)|3=>v=.pointer (some ⟨b,4,none⟩)|4=>v=.slice B parts.length d|5=>v=.pointer (some ⟨b,0,none⟩)|6=>v=.pointer (some ⟨b,0,none⟩)|7=>v=.pointer (some ⟨b,2,none⟩)|8=>v=.string ⟨lit.toArray⟩|9=>v=.agg (LpD.cells ⟨⟨lit.toArray⟩,0,false⟩).toArray|10=>v=.slice (some ⟨bM_,0,none⟩) 1 1|11=>v=.slice kE_.1.1 (parts.length+1) kE_.1.2∧IsRow 293 3 v (parts.length+1) (lpC (parts++[⟨⟨lit.toArray⟩,0,false⟩])) kE_.2|_=>True) bM_ kE_ ix_ v G':=by
   intro bM_ kE_ ix_ v G G' hm h
   match ix_,h with
   | 0,h=>exact h
   | 1,h=>exact h
   | 2,h=>exact h
   | 3,h=>exact h
   | 4,h=>exact h
   | 5,h=>exact h
   | 6,h=>exact h
   | 7,h=>exact h
   | 8,h=>exact h
   | 9,h=>exact h
   | 10,h=>exact h
   | 11,h=>exact h
   | 12,h=>exact trivial
   | 13,h=>exact trivial
   | 14,h=>exact trivial
   | _+15,h=>exact trivial
  refine c_drawLM3 (κ:=(Option Addr × Nat) × OL) (((none,0),[])) (hmx) [[],[],[1],[1,2],[1,2,3],[],[5],[5,6],[5,6,7],[5,6,7,8],[5,6,7,8,9],[1,2,3,4,5,6,7,8,9,10],(List.range 12),(List.range 13),(List.range 14)] [12,13,14] (by kernel_rfl) (by kernel_rfl) 8 10 11 (by decide) (by decide) (by decide) (by decide) (by decide) (by decide) (by decide) (by decide) (by decide) [scB b s i p (.slice A lit.length c) (.slice B parts.length d) pl e] (scB b s i p (.slice A lit.length c) (.slice B parts.length d) pl e :: Lp) (.cells (LpD.cells ⟨⟨lit.toArray⟩,0,false⟩).toArray 293 (0,0)) (fun b_ k_=>(b_,.cells (LpD.cells ⟨⟨lit.toArray⟩,0,false⟩).toArray 293 (0,0)) :: scB b s i p (.slice A lit.length c) (.slice B parts.length d) pl e :: k_.2) (fun x hx=>by rw [List.mem_singleton.1 hx];exact List.mem_cons_self) (fun x hx=>by rw [List.mem_singleton.1 hx];exact List.mem_cons_self) (fun _ _ x hx=>by rw [List.mem_singleton.1 hx];exact List.mem_cons_of_mem _ List.mem_cons_self) (fun (bM_:Nat) (kE_:(Option Addr × Nat) × OL) (ix_:Nat) (v:Value) (G:GH)=>match ix_ with|0=>v=.pointer (some ⟨b,0,none⟩)|1=>v=.pointer (some ⟨b,0,none⟩)|2=>v=.pointer (some ⟨b,0,none⟩)|3=>v=.pointer (some ⟨b,4,none⟩)|4=>v=.slice B parts.length d|5=>v=.pointer (some ⟨b,0,none⟩)|6=>v=.pointer (some ⟨b,0,none⟩)|7=>v=.pointer (some ⟨b,2,none⟩)|8=>v=.string ⟨lit.toArray⟩|9=>v=.agg (LpD.cells ⟨⟨lit.toArray⟩,0,false⟩).toArray|10=>v=.slice (some ⟨bM_,0,none⟩) 1 1|11=>v=.slice kE_.1.1 (parts.length+1) kE_.1.2∧IsRow 293 3 v (parts.length+1) (lpC (parts++[⟨⟨lit.toArray⟩,0,false⟩])) kE_.2|_=>True) (fun b b' k i v G hi hc h=>by match i,hi,hc,h with|0,_,_,h=>exact h|1,_,_,h=>exact h|2,_,_,h=>exact h|3,_,_,h=>exact h|4,_,_,h=>exact h|5,_,_,h=>exact h|6,_,_,h=>exact h|7,_,_,h=>exact h|8,_,_,h=>exact h|9,_,_,h=>exact h|10,hi,_,_=>exact absurd hi (by decide)|11,_,hc,_=>exact absurd hc (by decide)|12,_,hc,_=>exact absurd hc (by decide)|13,_,hc,_=>exact absurd hc (by decide)|14,_,hc,_=>exact absurd hc (by decide)|_+15,_,_,_=>exact trivial) (fun b k k' i v G hi hc h=>by match i,hi,hc,h with|0,_,_,h=>exact h|1,_,_,h=>exact h|2,_,_,h=>exact h|3,_,_,h=>exact h|4,_,_,h=>exact h|5,_,_,h=>exact h|6,_,_,h=>exact h|7,_,_,h=>exact h|8,_,_,h=>exact h|9,_,_,h=>exact h|10,_,_,h=>exact h|11,hi,_,_=>exact absurd hi (by decide)|12,_,hc,_=>exact absurd hc (by decide)|13,_,hc,_=>exact absurd hc (by decide)|14,_,hc,_=>exact absurd hc (by decide)|_+15,_,_,_=>exact trivial) H ?_ ?_ ?_ ?_ ?_ (by kernel_rfl) (by kernel_rfl)
  ·clear H;refine al4 ?_ ?_ ?_ ?_ (al4 ?_ ?_ ?_ ?_ (al4 ?_ ?_ ?_ ?_ (allI_cons ?_ (allI_cons ?_ (allI_cons ?_ allI_nil)))))
   ·intro bM_ kE_ Lx_ Sd_ a w G1 hLx_ _ _ _ _ hSi hc hG HT hv;have H:=HT;clear hSi;have Hb:=H.full;have H:=Hb;clear hc;refine kH H (Rm rfl ?_);clear H;intro a H;refine wl_nil ⟨rfl,?_⟩;exact draw_val (by kernel_rfl) (hprm1 bM_ kE_) rfl rfl HT Hb hG hv (fun _ _ h=>h) (rfl) H
   ·intro bM_ kE_ Lx_ Sd_ a w G1 hLx_ _ _ _ _ hSi hc hG HT hv;have H:=HT;clear hSi;have Hb:=H.full;have H:=Hb;clear hc;refine kH H (Rm rfl ?_);clear H;intro a H;refine wl_nil ⟨rfl,?_⟩;exact draw_val (by kernel_rfl) (hprm1 bM_ kE_) rfl rfl HT Hb hG hv (fun _ _ h=>h) (rfl) H
   ·intro bM_ kE_ Lx_ Sd_ a w G1 hLx_ _ _ _ _ hSi hc hG HT hv;have H:=HT;clear hSi;obtain ⟨u8,hu8,hp8⟩:=hv 1 8 (hc 1 (by decide)) rfl;obtain rfl:u8=.pointer (some ⟨b,0,none⟩):=hp8;have H:=H.addS hu8;have Hb:=H.full;have H:=Hb;clear hc;refine kH H (Rk rfl ?_);clear H;intro a H;refine wl_nil ⟨rfl,?_⟩;exact draw_val (by kernel_rfl) (hprm1 bM_ kE_) rfl rfl HT Hb hG hv (fun _ _ h=>h) (rfl) H
   ·intro bM_ kE_ Lx_ Sd_ a w G1 hLx_ _ _ _ _ hSi hc hG HT hv;have H:=HT;clear hSi;obtain ⟨u9,hu9,hp9⟩:=hv 2 9 (hc 2 (by decide)) rfl;obtain rfl:u9=.pointer (some ⟨b,0,none⟩):=hp9;have H:=H.addS hu9;have Hb:=H.full;have H:=Hb;clear hc;refine kH H (Rf fd321_3lfl rfl ?_);clear H;intro a H;refine wl_nil ⟨rfl,?_⟩;exact draw_val (by kernel_rfl) (hprm1 bM_ kE_) rfl rfl HT Hb hG hv (fun _ _ h=>h) (rfl) H
   ·intro bM_ kE_ Lx_ Sd_ a w G1 hLx_ _ _ _ _ hSi hc hG HT hv;have H:=HT;clear hSi;obtain ⟨u10,hu10,hp10⟩:=hv 3 10 (hc 3 (by decide)) rfl;obtain rfl:u10=.pointer (some ⟨b,4,none⟩):=hp10;have H:=H.addS hu10;have Hb:=H.full;have H:=Hb;clear hc;refine s_load ty288lfl H wn rfl (H.hp.mcell (hLx_ _ List.mem_cons_self) rfl) rfl ?_;clear H;intro a H;refine wl_nil ⟨rfl,?_⟩;exact draw_val (by kernel_rfl) (hprm1 bM_ kE_) rfl rfl HT Hb hG hv (fun _ _ h=>h) (rfl) H
   ·intro bM_ kE_ Lx_ Sd_ a w G1 hLx_ _ _ _ _ hSi hc hG HT hv;have H:=HT;clear hSi;have Hb:=H.full;have H:=Hb;clear hc;refine kH H (Rm rfl ?_);clear H;intro a H;refine wl_nil ⟨rfl,?_⟩;exact draw_val (by kernel_rfl) (hprm1 bM_ kE_) rfl rfl HT Hb hG hv (fun _ _ h=>h) (rfl) H
   ·intro bM_ kE_ Lx_ Sd_ a w G1 hLx_ _ _ _ _ hSi hc hG HT hv;have H:=HT;clear hSi;obtain ⟨u12,hu12,hp12⟩:=hv 5 12 (hc 5 (by decide)) rfl;obtain rfl:u12=.pointer (some ⟨b,0,none⟩):=hp12;have H:=H.addS hu12;have Hb:=H.full;have H:=Hb;clear hc;refine kH H (Rk rfl ?_);clear H;intro a H;refine wl_nil ⟨rfl,?_⟩;exact draw_val (by kernel_rfl) (hprm1 bM_ kE_) rfl rfl HT Hb hG hv (fun _ _ h=>h) (rfl) H
   ·intro bM_ kE_ Lx_ Sd_ a w G1 hLx_ _ _ _ _ hSi hc hG HT hv;have H:=HT;clear hSi;obtain ⟨u13,hu13,hp13⟩:=hv 6 13 (hc 6 (by decide)) rfl;obtain rfl:u13=.pointer (some ⟨b,0,none⟩):=hp13;have H:=H.addS hu13;have Hb:=H.full;have H:=Hb;clear hc;refine kH H (Rf fd321_2lfl rfl ?_);clear H;intro a H;refine wl_nil ⟨rfl,?_⟩;exact draw_val (by kernel_rfl) (hprm1 bM_ kE_) rfl rfl HT Hb hG hv (fun _ _ h=>h) (rfl) H
   ·intro _ _ _ _ _ _ _ _ _ hB;exact absurd hB (by decide)
   ·intro bM_ kE_ Lx_ Sd_ a w G1 hLx_ _ _ _ _ hSi hc hG HT hv;have H:=HT;clear hSi;obtain ⟨u15,hu15,hp15⟩:=hv 8 15 (hc 8 (by decide)) rfl;obtain rfl:u15=.string ⟨lit.toArray⟩:=hp15;have H:=H.addS hu15;have Hb:=H.full;have H:=Hb;clear hc;refine s_build sr293lfl [_,_,_] H wn rfl rfl rfl rfl ?_;clear H;intro a H;refine wl_nil ⟨rfl,?_⟩;exact draw_val (by kernel_rfl) (hprm1 bM_ kE_) rfl rfl HT Hb hG hv (fun _ _ h=>h) (rfl) H
   ·intro _ _ _ _ _ _ _ _ _ _ hB;exact absurd hB (by decide)
   ·intro _ _ _ _ _ _ _ _ _ _ _ hB;exact absurd hB (by decide)
   ·intro _ _ _ _ _ _ _ _ hB;exact absurd hB (by decide)
   ·intro _ _ _ _ _ _ _ _ hB;exact absurd hB (by decide)
   intro _ _ _ _ _ _ _ _ hB;exact absurd hB (by decide)
  ·clear H;intro o_ bM_ kE_ Sd_ a w G1 ho_ _ hc hG HT hv;obtain rfl:_=o_:=Option.some.inj ho_;clear ho_;have H:=HT;obtain ⟨u14,hu14,hp14⟩:=hv 7 14 (by decide) (hc 7 (by decide)) rfl;obtain rfl:u14=.pointer (some ⟨b,2,none⟩):=hp14;have H:=H.addS hu14;have Hb:=H.full;have H:=Hb;clear hc;refine s_callL en175lfl (Li:=[]) (L:=scB b s i p (.slice A lit.length c) (.slice B parts.length d) pl e :: (Lp++Lo)) H wn rfl (sstr_spec _ _ _ _ b s i p _ B parts.length d pl e lit (Hp.owns (Li:=[]) H.hp) hbuf hne) rfl ?_;clear H;rintro v15 G15 L15 a w ⟨rfl,rfl⟩ hGm15 H;dsimp only [List.nil_append] at H;refine wl_nil ⟨rfl,?_⟩;exact draw_valL (by kernel_rfl) (hprm1 bM_ kE_) rfl HT Hb hG (fun j e h1 h2 h3=>hv j e h1 h2 h3) hGm15 (rfl) H
  ·clear H;intro o_ kE_ Sd_ a w G1 ho_ _ hc hG HT hv;obtain rfl:_=o_:=Option.some.inj ho_;clear ho_;have H:=HT;obtain ⟨u16,hu16,hp16⟩:=hv 0 9 16 (by decide) (hc 9 (by decide)) rfl;obtain rfl:u16=.agg (LpD.cells ⟨⟨lit.toArray⟩,0,false⟩).toArray:=hp16;have H:=H.addS hu16;have Hb:=H.full;have H:=Hb;clear hc;refine s_buildSlice un288lfl ty293lfl [_,_,_] [_,_,_] H wn rfl rfl rfl rfl rfl (by intro i q h;match i,h with|0,h=>exact h|n+1,h=>simp at h) rfl rfl ?_;clear H;intro b17 a w hb17 H;refine wl_nil ⟨rfl,b17,?_⟩;exact draw_mid (by kernel_rfl) rfl HT Hb hG (fun j e h1 h2 h3=>hv _ j e h1 h2 h3) (rfl) H
  ·clear H;intro o_ bM_ Sd_ a w G1 ho_ _ hc hG HT hv;obtain rfl:_=o_:=Option.some.inj ho_;clear ho_;have H:=HT;obtain ⟨u11,hu11,hp11⟩:=hv (((none,0),[])) 4 11 (by decide) (hc 4 (by decide)) rfl;obtain rfl:u11=.slice B parts.length d:=hp11;have H:=H.addS hu11;obtain ⟨u17,hu17,hp17⟩:=hv (((none,0),[])) 10 17 (by decide) (hc 10 (by decide)) rfl;obtain rfl:u17=.slice (some ⟨bM_,0,none⟩) 1 1:=hp17;have H:=H.addS hu17;have Hb:=H.full;have H:=Hb;clear hc;refine s_append (Li:=[_,_]) (Lo:=Lp) (news:=LpD.cells ⟨⟨lit.toArray⟩,0,false⟩) un288lfl ty293lfl rfl rfl H wn rfl rfl hprt rfl (H.hp.ocells 0 rfl rfl) rfl (by omega) (by omega) rfl ?_;clear H;intro v18 Lp18 a w hrw18 H;obtain ⟨A18,c18,rfl,-,-⟩:=hrw18.shape;rw [← lpC_snoc] at hrw18;refine wl_nil ⟨rfl,((A18,c18),Lp18),?_⟩;exact draw_mid (by kernel_rfl) rfl HT Hb hG (fun j e h1 h2 h3=>hv _ j e h1 h2 h3) (⟨rfl,hrw18⟩) H
  clear H;intro b17 kE_ a w G hGm1 H hv;obtain ⟨u7,hu7,hp7⟩:=hv 0 7 (by decide) rfl;obtain rfl:u7=.pointer (some ⟨b,0,none⟩):=hp7;have H:=H.addS hu7;obtain ⟨u18,hu18,hp18⟩:=hv 11 18 (by decide) rfl;(try dsimp only at hp18);obtain ⟨rfl,hrw18⟩:=hp18;have H:=H.addS hu18;clear hv;refine kH H (Rk rfl (Rf fd321_3lfl rfl ?_));clear H;intro a H;refine s_store ty288lfl 1 (vs:=[_]) _ H wn rfl rfl rfl rfl rfl rfl rfl rfl ?_;clear H;intro w H;dsimp only [List.set,setRow] at H;refine wl_nil ⟨rfl,?_⟩;refine K2 _ _ ?_;clear K2;refine c_region ?_;refine kH H (Rm rfl (Rk rfl (Rf fd321_2lfl rfl ?_)));clear H;intro a H;refine s_callL en244lfl (Li:=[_]) (L:=scB b s i p (.slice A lit.length c) (.slice kE_.1.1 (parts.length+1) kE_.1.2) pl e :: kE_.2) H wn rfl (sreset_spec _ _ _ b s i p A lit.length c kE_.1.1 (parts.length+1) kE_.1.2 pl e (Hp.owns (Li:=[_]) H.hp)) rfl ?_;clear H;rintro v24 _ L24 a w ⟨rfl,rfl⟩ hm24 H;dsimp only [List.cons_append,List.nil_append] at H;refine wl_nil ?_;refine (leave0 H Tryz.results236 ?_).2
  first
   | exact H.hp.retD (L':=scB b s i _ _ _ pl e :: kE_.2) (List.sublist_cons_self _ _) ⟨_,_,_,kE_.2,[],by rw [List.append_nil],⟨.inl rfl,IsRow.nil,by rw [flS,if_neg hne];simpa using hrw18⟩⟩
   | exact H.hp.retL ⟨_,_,_,Lp,Lo,by rw [hLt],by
     have h0:lit=[]:=by
      cases lit with
      | nil=>rfl
      | cons x r=>simp at p6
     subst h0;exact ⟨hptr,hbuf,by rw [flS,if_pos rfl];exact hprt⟩⟩
 intro h6
 try have p6:=of_decide_eq_false h6
 refine c_skip ?_;refine (leave0 H Tryz.results236 ?_).2
 first
  | exact H.hp.retD (L':=scB b s i _ _ _ pl e :: kE_.2) (List.sublist_cons_self _ _) ⟨_,_,_,kE_.2,[],by rw [List.append_nil],⟨.inl rfl,IsRow.nil,by rw [flS,if_neg hne];simpa using hrw18⟩⟩
  | exact H.hp.retL ⟨_,_,_,Lp,Lo,by rw [hLt],by
    have h0:lit=[]:=by
     cases lit with
     | nil=>rfl
     | cons x r=>simp at p6
    subst h0;exact ⟨hptr,hbuf,by rw [flS,if_pos rfl];exact hprt⟩⟩
theorem place_spec2 (G:GH) (Lp Lo:OL) (w0:World) (b:Nat) (s:ByteArray) (i:Int) (p v q:Value) (pl e:Int) (lit:List UInt8) (parts:List LpD) (ch:Int) (plain:Bool) (hR:ScR b lit parts p v q Lp Lo) (hO:Owns G (scB b s i p v q pl e :: (Lp++Lo)) w0) (hl:lit.length≤4294967296) (hp:parts.length≤4294967290) (hc:49≤ch∧ch≤57) (hpl:0≤pl∧pl≤4294967296) :
  Calls Tryz.prog 242 #[.pointer (some ⟨b,0,none⟩),.int .u8 ch,.bool plain] w0 (RetL w0 G (scB b s i p v q pl e :: (Lp++Lo)) fun u G' L'=>∃ p' v' q' Lp' Lo',L'=scB b s i p' v' q' (pl+1) e :: (Lp'++Lo')∧ScR b [] (flS lit parts++[⟨⟨#[]⟩,ch - 48,plain⟩]) p' v' q' Lp' Lo'):=by
 have hml:maxLen=9223372036854775807:=rfl
 have hfl:(flS lit parts).length≤parts.length+1:=by unfold flS;split <;> simp
 obtain ⟨A,c,rfl,hvc1,hvc2⟩:=hR.buf.shape;obtain ⟨B,d,rfl,hqc1,hqc2⟩:=hR.prt.shape;obtain ⟨Lt,hLt⟩:∃ x,x=Lp++Lo:=⟨_,rfl⟩;rw [← hLt] at hO ⊢;refine enterL (N:=29) (T:=[(0,_),(1,_),(2,_)]) Tryz.func242 rfl Tryz.ntmps242 rfl rfl hO ?_;intro a H;refine c_seqR (fun _ K1=>?_);refine kH H (Rm rfl ?_);clear H;intro a H;refine s_callL en236lfl (Li:=[]) (L:=scB b s i p (.slice A lit.length c) (.slice B parts.length d) pl e :: Lt) H wn rfl (by subst hLt;exact flush_spec _ Lp Lo _ b s i p _ _ pl e lit parts hR (Hp.owns (Li:=[]) H.hp) hl (by omega)) rfl ?_;clear H;rintro v7 G7 L7 a w ⟨p',v',q',Lp',Lo',rfl,hR7⟩ hm7 H;dsimp only [List.nil_append] at H;obtain ⟨A7,c7,rfl,-,-⟩:=hR7.buf.shape;obtain ⟨B7,d7,rfl,-,-⟩:=hR7.prt.shape;refine K1 _ _ ?_;clear K1;refine c_seqR (fun _ K2=>?_);refine kH H (Rm rfl (Rm rfl (Rk rfl (Rf fd321_3lfl rfl (Ro ty288lfl 0 rfl rfl (Rm rfl ?_))))));clear H;intro a H;refine s_subu H wn rfl rfl (by omega) (by omega) rfl ?_;clear H;intro a H;refine s_conv _ un3cp un5cp H wn rfl rfl rfl ?_;clear H;intro a H;rw [i64_wrap (by omega) (by omega)] at H;refine kH H (Rm rfl ?_);clear H;intro a H;refine s_build sr293lfl [_,_,_] H wn rfl rfl rfl rfl ?_;clear H;intro a H;refine s_buildSlice un288lfl ty293lfl [_,_,_] [_,_,_] H wn rfl rfl rfl rfl rfl (by intro i q h;match i,h with|0,h=>exact h|n+1,h=>simp at h) rfl rfl ?_;clear H;intro b18 a w hb18 H;have H:=(St.cast H (show _=[_,_]++(Lp'++Lo') from rfl)).perm (List.Perm.append_left _ List.perm_append_comm);have H:=St.un H;refine s_append (Li:=[_,_]++Lo') (Lo:=Lp') (news:=LpD.cells ⟨⟨#[]⟩,ch - 48,plain⟩) un288lfl ty293lfl rfl rfl H wn rfl rfl hR7.prt rfl (H.hp.ocells 0 rfl rfl) rfl (by omega) (by omega) rfl ?_;clear H;intro v19 Lp19 a w hrw19 H;obtain ⟨A19,c19,rfl,-,-⟩:=hrw19.shape;rw [← lpC_snoc] at hrw19;have H:=H.assoc.perm (List.Perm.append_left _ List.perm_append_comm);dsimp only [List.cons_append,List.nil_append] at H;refine kH H (Rk rfl (Rf fd321_3lfl rfl ?_));clear H;intro a H;refine s_store ty288lfl 1 (vs:=[_]) _ H wn rfl rfl rfl rfl rfl rfl rfl rfl ?_;clear H;intro w H;dsimp only [List.set,setRow] at H;refine K2 _ _ ?_;clear K2;refine c_region ?_;refine kH H (Rm rfl (Rk rfl (Rf fd321_4lfl rfl (Ro ty3run 1 rfl rfl ?_))));clear H;intro a H;refine s_add _ H wn rfl rfl rfl (by omega) (by omega) rfl ?_;clear H;intro a H;refine kH H (Rk rfl (Rf fd321_4lfl rfl ?_));clear H;intro a H;refine s_store ty3run 1 (vs:=[_]) _ H wn rfl rfl rfl rfl rfl rfl rfl rfl ?_;clear H;intro w H;dsimp only [List.set,setRow] at H;refine wl_nil ?_;refine (leave0 H Tryz.results242 ?_).2;exact H.hp.retD (L':=scB b s i _ _ _ (pl+1) e :: (Lp19++Lo')) (List.sublist_cons_self _ _) ⟨_,_,_,Lp19,Lo',rfl,hR7.ptr,hR7.buf,by simpa using hrw19⟩
end
section
open Go.RowKit
section
variable {N:Nat} {D:List Deferred} {w0:World} {F:Nat→Prop} {G0 G:GH} {L:OL} {T Xs:List (Nat × Value)}
variable {r:Option Nat} {P:Program} {Q:Exit→Act→World→Prop} {l:List Oper} {a a':Act} {w w':World}
/-- A slot, what it holds, the operation on which that hangs, and whether that one is done. -/
abbrev Ent:Type:=Nat × Value × Nat × Bool
def EntOk (ent:List Ent) (S:Nat→Bool) (a:Act):Prop:=∀ e∈ent,S e.2.2.1=e.2.2.2→a.tmps[e.1]?=some e.2.1
theorem EntOk.at {ent:List Ent} {S:Nat→Bool} {a:Act} (h:EntOk ent S a) (k:Nat) {t:Nat} {v:Value} {j:Nat} {b:Bool} (hk:ent[k]?=some (t,v,j,b)) (hS:S j=b):a.tmps[t]?=some v:=h _ (List.mem_of_getElem? hk) hS
/-- The beginning of a string. -/
theorem s_strTo {ops:Array Oper} {rest:List Oper} {d:Nat} {ty:TypeId} {pos:String} {aft:Array Edge} {g:Option (Nat × Bool)} {t:TypeId} {x y:Operand} {s:ByteArray} {ky:IntKind} {p:Int} (hi:Nat) (ht:P.underlying t=some .string) (H:St N D w0 F G0 G L T a w) (hw:Region.wanted ⟨some d,.slice t x none (some y) none,ty,pos,aft,g⟩ (yielded ops a.tmps)=true) (hx:ev T x=some (.string s)) (hy:ev T y=some (.int ky p)) (hp:p=(hi:Int)) (h1:hi≤s.size) (hd:Nat.blt d N=true)
  (k:∀ a',St N D w0 F G0 G L ((d,.string (s.extract 0 hi)) :: T) a' w→WL r P ops Q rest a' w):WL r P ops Q (⟨some d,.slice t x none (some y) none,ty,pos,aft,g⟩ :: rest) a w:=by
 subst hp
 have hr:=run_slice_string_h (P:=P) w t s ht ky (hi:Int) (by omega) (by omega)
 rw [Int.toNat_natCast] at hr
 refine wl_value (v:=.string (s.extract 0 hi)) (w':=w) hw rfl ?_ (k _ (H.put hd _ H.hp))
 simp only [execOp,H.ev hx,Option.map_some,Option.map_none,H.ev hy,Sem.run_bind,run_sliceAt_string w t _ _ _ _ ht,hr,Result.andThen_ok,Sem.run_pure]
end
end
section
open Go.RowKit
theorem en245lpc:∀ args w,(callFunc 245 args).run Tryz.prog w=.ok (.enter 245 args) w:=enters Tryz.func245 rfl (by kernel_rfl)
theorem fd321_0lpc:Fld Tryz.prog 321 0 0:=⟨by kernel_rfl⟩
theorem en235lpc:∀ args w,(callFunc 235 args).run Tryz.prog w=.ok (.enter 235 args) w:=enters Tryz.func235 rfl (by kernel_rfl)
theorem en241lpc:∀ args w,(callFunc 241 args).run Tryz.prog w=.ok (.enter 241 args) w:=enters Tryz.func241 rfl (by kernel_rfl)
theorem en242lpc:∀ args w,(callFunc 242 args).run Tryz.prog w=.ok (.enter 242 args) w:=enters Tryz.func242 rfl (by kernel_rfl)
theorem fd321_1lpc:Fld Tryz.prog 321 1 1:=⟨by kernel_rfl⟩
theorem en240lpc:∀ args w,(callFunc 240 args).run Tryz.prog w=.ok (.enter 240 args) w:=enters Tryz.func240 rfl (by kernel_rfl)
theorem fd321_5lpc:Fld Tryz.prog 321 5 6:=⟨by kernel_rfl⟩
def hasP (s p:ByteArray):Bool:=decide (p.size≤s.size) && ((s.extract 0 p.size).toList == p.toList)
theorem hasPre_spec0 (G:GH) (w0:World) (hG:Hold G w0) (s p:ByteArray) (hs:s.size≤4611686018427387904) (hp:p.size≤4611686018427387904):Calls Tryz.prog 245 #[.string s,.string p] w0 (Ret w0 G fun u G'=>u=.bool (hasP s p)∧G=G'):=by
 refine eN [(0,_),(1,_)] Tryz.func245 rfl Tryz.ntmps245 rfl rfl hG ?_;intro a H;refine c_seqR (fun _ K1=>?_);refine kH H (Ra rfl ?_);clear H;intro a H;refine K1 _ _ ?_;clear K1;refine c_seqR (fun _ K2=>?_);refine kH H (Rm rfl ?_);clear H;intro a H;refine s_lens un9cp H wn rfl rfl ?_;clear H;intro a H;refine kH H (Rm rfl ?_);clear H;intro a H;refine s_lens un9cp H wn rfl rfl ?_;clear H;intro a H;refine kH H (Rc rfl (Rm rfl ?_));clear H;intro a H;refine s_split H 10 rfl ?_ ?_
 ·intro h10
  try have p10:=of_decide_eq_true h10
  (iterate 2 refine s_move H (wg H rfl rfl h10) rfl rfl ?_;clear H;intro a H);refine s_lens un9cp H (wg H rfl rfl h10) rfl rfl ?_;clear H;intro a H;refine s_strTo p.size un9cp H (wg H rfl rfl h10) rfl rfl rfl (by omega) rfl ?_;clear H;intro a H;refine s_move H (wg H rfl rfl h10) rfl rfl ?_;clear H;intro a H;refine s_eqstr H (wg H rfl rfl h10) rfl rfl rfl ?_;clear H;intro a H;refine s_pick_t H wn rfl h10 rfl rfl ?_;clear H;intro a H;refine kH H (Ra rfl ?_);clear H;intro a H;refine K2 _ _ ?_;clear K2;refine c_ret ?_;refine lv H Tryz.results245 rfl ?_;exact H.hp.ret ⟨congrArg Value.bool (by unfold hasP;first|(simp_all;done)|(simp_all;omega)),rfl⟩
 intro h10
 try have p10:=of_decide_eq_false h10
 (iterate 6 refine s_skip H rfl rfl h10 rfl ?_;clear H;intro a H);refine s_pick_f H wn rfl h10 rfl rfl ?_;clear H;intro a H;refine kH H (Ra rfl ?_);clear H;intro a H;refine K2 _ _ ?_;clear K2;refine c_ret ?_;refine lv H Tryz.results245 rfl ?_;exact H.hp.ret ⟨congrArg Value.bool (by unfold hasP;first|(simp_all;done)|(simp_all;omega)),rfl⟩
theorem hasPre_spec (G:GH) (w0:World) (hG:Hold G w0) (s p:ByteArray) (hs:s.size≤4611686018427387904) (hp:p.size≤4611686018427387904):Calls Tryz.prog 240 #[.string s,.string p] w0 (Ret w0 G fun u G'=>u=.bool (hasP s p)∧G=G'):=by
 refine eN [(0,_),(1,_)] Tryz.func240 rfl Tryz.ntmps240 rfl rfl hG ?_;intro a H;refine c_seqR (fun _ K1=>?_);refine kH H (Ra rfl ?_);clear H;intro a H;refine K1 _ _ ?_;clear K1;refine c_seqR (fun _ K2=>?_);refine kH H (Rm rfl (Rm rfl ?_));clear H;intro a H;refine s_call en245lpc H wn rfl (hasPre_spec0 _ _ H.hp.ro s p hs hp) rfl ?_;clear H;rintro v7 _ a w ⟨rfl,rfl⟩ - H;refine kH H (Ra rfl ?_);clear H;intro a H;refine K2 _ _ ?_;clear K2;refine c_ret ?_;refine lv H Tryz.results240 rfl ?_;exact H.hp.ret ⟨rfl,rfl⟩
/-- Whether a digit from 1 to 9 stands at a place. -/
def digB (s:ByteArray) (k:Nat):Bool:=decide (k < s.size) && decide (49≤byteAt s k) && decide (byteAt s k≤57)
theorem digit_spec (G:GH) (L:OL) (w0:World) (b:Nat) (s:ByteArray) (i:Int) (p v q:Value) (pl e:Int) (k:Nat) (hs:s.size≤4611686018427387904) (hO:Owns G (scB b s i p v q pl e :: L) w0) :
  Calls Tryz.prog 241 #[.pointer (some ⟨b,0,none⟩),vi k] w0 (RetL w0 G (scB b s i p v q pl e :: L) fun u G' L'=>u=.bool (digB s k)∧L'=scB b s i p v q pl e :: L∧G'=G):=by
 refine enterL (N:=30) (T:=[(0,_),(1,_)]) Tryz.func241 rfl Tryz.ntmps241 rfl rfl hO ?_;intro a H;refine c_seqR (fun _ K1=>?_);refine kH H (Ra rfl ?_);clear H;intro a H;refine K1 _ _ ?_;clear K1;refine c_seqR (fun _ K2=>?_);refine kH H (Rm rfl (Rm rfl (Rk rfl (Rf fd321_0lpc rfl (Ro ty9run 0 rfl rfl ?_)))));clear H;intro a H;refine s_lens un9cp H wn rfl rfl ?_;clear H;intro a H;refine kH H (Rc rfl (Rm rfl ?_));clear H;intro a H;refine s_split H 12 rfl ?_ ?_
 ·intro h12
  try have p12:=of_decide_eq_true h12
  refine s_move H (wg H rfl rfl h12) rfl rfl ?_;clear H;intro a H;refine s_nilCheck H (wg H rfl rfl h12) rfl rfl ?_;clear H;intro a H;refine s_field fd321_0lpc H (wg H rfl rfl h12) rfl rfl ?_;clear H;intro a H;refine s_load ty9run H (wg H rfl rfl h12) rfl (H.hp.ocell 0 rfl rfl) rfl ?_;clear H;intro a H;refine s_move H (wg H rfl rfl h12) rfl rfl ?_;clear H;intro a H;refine s_indexs k un9cp H (wg H rfl rfl h12) rfl rfl rfl (by omega) rfl ?_;clear H;intro a H;rw [← byteAt_lt] at H;refine s_cmp H (wg H rfl rfl h12) rfl rfl rfl rfl ?_;clear H;intro a H;refine s_pick_t H wn rfl h12 rfl rfl ?_;clear H;intro a H;refine kH H (Rm rfl ?_);clear H;intro a H;refine s_split H 21 rfl ?_ ?_
  ·intro h21
   try have p21:=of_decide_eq_true h21
   refine s_move H (wg H rfl rfl h21) rfl rfl ?_;clear H;intro a H;refine s_nilCheck H (wg H rfl rfl h21) rfl rfl ?_;clear H;intro a H;refine s_field fd321_0lpc H (wg H rfl rfl h21) rfl rfl ?_;clear H;intro a H;refine s_load ty9run H (wg H rfl rfl h21) rfl (H.hp.ocell 0 rfl rfl) rfl ?_;clear H;intro a H;refine s_move H (wg H rfl rfl h21) rfl rfl ?_;clear H;intro a H;refine s_indexs k un9cp H (wg H rfl rfl h21) rfl rfl rfl (by omega) rfl ?_;clear H;intro a H;rw [← byteAt_lt] at H;refine s_cmp H (wg H rfl rfl h21) rfl rfl rfl rfl ?_;clear H;intro a H;refine s_pick_t H wn rfl h21 rfl rfl ?_;clear H;intro a H;refine kH H (Ra rfl ?_);clear H;intro a H;refine K2 _ _ ?_;clear K2;refine c_ret ?_;refine lv H Tryz.results241 rfl ?_;exact H.hp.retL ⟨congrArg Value.bool (by unfold digB;first|(simp_all;done)|(simp_all;omega)),rfl,rfl⟩
  intro h21
  try have p21:=of_decide_eq_false h21
  (iterate 7 refine s_skip H rfl rfl h21 rfl ?_;clear H;intro a H);refine s_pick_f H wn rfl h21 rfl rfl ?_;clear H;intro a H;refine kH H (Ra rfl ?_);clear H;intro a H;refine K2 _ _ ?_;clear K2;refine c_ret ?_;refine lv H Tryz.results241 rfl ?_;exact H.hp.retL ⟨congrArg Value.bool (by unfold digB;first|(simp_all;done)|(simp_all;omega)),rfl,rfl⟩
 intro h12
 try have p12:=of_decide_eq_false h12
 (iterate 7 refine s_skip H rfl rfl h12 rfl ?_;clear H;intro a H);refine s_pick_f H wn rfl h12 rfl rfl ?_;clear H;intro a H;refine kH H (Rm rfl ?_);clear H;intro a H;(iterate 7 refine s_skip H rfl rfl rfl rfl ?_;clear H;intro a H);refine s_pick_f H wn rfl rfl rfl rfl ?_;clear H;intro a H;refine kH H (Ra rfl ?_);clear H;intro a H;refine K2 _ _ ?_;clear K2;refine c_ret ?_;refine lv H Tryz.results241 rfl ?_;exact H.hp.retL ⟨congrArg Value.bool (by unfold digB;first|(simp_all;done)|(simp_all;omega)),rfl,rfl⟩
structure ScS where
 i:Nat
 lit:List UInt8
 parts:List LpD
 pl:Nat
 e:Int
def pctS (s:ByteArray) (x:ScS):ScS :=
 if hasP (s.extract x.i s.size) ⟨#[37,37]⟩=true then ⟨x.i+2,x.lit++[37],x.parts,x.pl,x.e⟩
 else if digB s (x.i+1)=true then ⟨x.i+2,[],flS x.lit x.parts++[⟨⟨#[]⟩,byteAt s (x.i+1) - 48,false⟩],x.pl+1,x.e⟩
 else if hasP (s.extract x.i s.size) ⟨#[37,100]⟩=true∧digB s (x.i+2)=true then ⟨x.i+3,[],flS x.lit x.parts++[⟨⟨#[]⟩,byteAt s (x.i+2) - 48,true⟩],x.pl+1,x.e⟩
 else ⟨x.i,x.lit,x.parts,x.pl,14⟩
abbrev scX (b:Nat) (s:ByteArray) (x:ScS) (p v q:Value):Nat × Obj:=scB b s x.i p v q x.pl x.e
theorem digB_lt {s:ByteArray} {k:Nat} (h:digB s k=true):k < s.size∧49≤byteAt s k∧byteAt s k≤57:=by
 simpa [digB,and_assoc] using h
set_option maxHeartbeats 1000000 in
theorem percent_spec (G:GH) (Lp Lo:OL) (w0:World) (b:Nat) (s:ByteArray) (x:ScS) (p v q:Value) (hR:ScR b x.lit x.parts p v q Lp Lo) (hO:Owns G (scX b s x p v q :: (Lp++Lo)) w0) (hs:s.size≤4294967290) (hi:x.i < s.size) (hl:x.lit.length≤4294967290) (hp:x.parts.length≤4294967290) (hpl:x.pl≤4294967290) :
    Calls Tryz.prog 234 #[.pointer (some ⟨b,0,none⟩)] w0 (RetL w0 G (scX b s x p v q :: (Lp++Lo)) fun u G' L'=>∃ p' v' q' Lp' Lo',L'=scX b s (pctS s x) p' v' q' :: (Lp'++Lo')∧ScR b (pctS s x).lit (pctS s x).parts p' v' q' Lp' Lo'):=by
  obtain ⟨i,lit,parts,pl,e⟩:=x;dsimp only [scX] at *
  have hex:(s.extract i s.size).size≤4611686018427387904:=by rw [ByteArray.size_extract];omega
  obtain ⟨A,c,rfl,hvc1,hvc2⟩:=hR.buf.shape;obtain ⟨B,d,rfl,hqc1,hqc2⟩:=hR.prt.shape;obtain ⟨Lt,hLt⟩:∃ x,x=Lp++Lo:=⟨_,rfl⟩;rw [← hLt] at hO ⊢;refine enterL (N:=93) (T:=[(0,_)]) Tryz.func234 rfl Tryz.ntmps234 rfl rfl hO ?_;intro a H;refine c_block ?_;refine c_seq (fun _ K1=>?_);refine c_drawI (hmx) [[],[0],[0,1],[0,1,2],[],[4],[4,5],[4,5,6],(List.range 8),(List.range 9),(List.range 10)] [] (by kernel_rfl) (by kernel_rfl) (fun (ix_:Nat) (v:Value) (G:GH)=>match ix_ with|0=>v=.pointer (some ⟨b,0,none⟩)|1=>v=.pointer (some ⟨b,0,none⟩)|2=>v=.pointer (some ⟨b,0,none⟩)|3=>v=.string s|4=>v=.pointer (some ⟨b,0,none⟩)|5=>v=.pointer (some ⟨b,0,none⟩)|6=>v=.pointer (some ⟨b,1,none⟩)|7=>v=vi i|8=>v=.string (s.extract i s.size)|9=>v=.bool (hasP (s.extract i s.size) ⟨#[37,37]⟩)|10=>v=.bool (hasP (s.extract i s.size) ⟨#[37,37]⟩)|_=>True) (fun _ _ _ _ _ h=>h) H ?_ ?_
  · clear H;refine al4 ?_ ?_ ?_ ?_ (al4 ?_ ?_ ?_ ?_ (allI_cons ?_ (allI_cons ?_ (allI_cons ?_ allI_nil))))
    · exact Op0 rfl fun _ _ _ _ _ _ H fin=>kH H (Rm rfl fun _ H=>fin H iJ rfl)
    · exact Op1 0 6 rfl rfl fun _ _ _ _ _ _ H fin=>kH H (Rk rfl fun _ H=>fin H iJ rfl)
    · exact Op1 1 7 rfl rfl fun _ _ _ _ _ _ H fin=>kH H (Rf fd321_0lpc rfl fun _ H=>fin H iJ rfl)
    · exact Op1 2 8 rfl rfl fun _ _ _ _ _ _ H fin=>kH H (Ro ty9run 0 rfl rfl fun _ H=>fin H iJ rfl)
    · exact Op0 rfl fun _ _ _ _ _ _ H fin=>kH H (Rm rfl fun _ H=>fin H iJ rfl)
    · exact Op1 4 10 rfl rfl fun _ _ _ _ _ _ H fin=>kH H (Rk rfl fun _ H=>fin H iJ rfl)
    · exact Op1 5 11 rfl rfl fun _ _ _ _ _ _ H fin=>kH H (Rf fd321_1lpc rfl fun _ H=>fin H iJ rfl)
    · exact Op1 6 12 rfl rfl fun _ _ _ _ _ _ H fin=>kH H (Ro ty3run 0 rfl rfl fun _ H=>fin H iJ rfl)
    · refine Op2 3 9 7 13 rfl rfl fun _ a w G1 hG HT H fin=>?_;refine s_strFrom i un9cp H wn rfl rfl rfl (by omega) rfl ?_;clear H;intro a H;exact fin H iJ rfl
    · refine Op1 8 14 rfl rfl fun _ a w G1 hG HT H fin=>?_;refine s_call en240lpc H wn rfl (hasPre_spec _ _ H.hp.ro _ _ hex (by decide)) rfl ?_;clear H;rintro v15 G15 a w ⟨rfl,rfl⟩ hGm15 H;exact fin H hGm15 (rfl)
    exact Op1 9 15 rfl rfl fun _ _ _ _ _ _ H fin=>kH H (Ra rfl fun _ H=>fin H iJ rfl)
  clear H;intro a w G hGm1 H hv;obtain ⟨u5,hu5,hp5⟩:=hv 10 5 (by decide) rfl;obtain rfl:u5=.bool (hasP (s.extract i s.size) ⟨#[37,37]⟩):=hp5;have H:=H.addS hu5;clear hv;refine wl_nil ⟨rfl,?_⟩;refine K1 _ _ ?_;clear K1;refine c_cond H rfl ?_ ?_
  · intro h5
    try have p5:=of_decide_eq_true h5
    refine c_seqR (fun _ K2=>?_);refine kH H (Rm rfl (Rk rfl (Rf fd321_2lfl rfl ?_)));clear H;intro a H;refine s_callL en235lpc (Li:=[]) (L:=scB b s i p (.slice A lit.length c) (.slice B parts.length d) pl e :: Lt) H wn rfl (by subst hLt;exact wbyte_spec _ Lp Lo _ b s i p _ B parts.length d pl e lit.length _ 37 hR.ptr (Hp.owns (Li:=[]) H.hp) hR.buf (by omega)) rfl ?_;clear H;rintro v19 _ L19 a w ⟨v19',Lo19,rfl,hrw19,rfl⟩ hm19 H;dsimp only [List.nil_append] at H;obtain ⟨A19,c19,rfl,-,-⟩:=hrw19.shape;refine K2 _ _ ?_;clear K2;refine c_region ?_;refine kH H (Rm rfl (Rk rfl (Rf fd321_1lpc rfl (Ro ty3run 0 rfl rfl ?_))));clear H;intro a H;refine s_add _ H wn rfl rfl rfl (by omega) (by omega) rfl ?_;clear H;intro a H;refine kH H (Rk rfl (Rf fd321_1lpc rfl ?_));clear H;intro a H;refine s_store ty3run 0 (vs:=[_]) _ H wn rfl rfl rfl rfl rfl rfl rfl rfl ?_;clear H;intro w H;dsimp only [List.set,setRow] at H;refine wl_nil ?_;refine (leave0 H Tryz.results234 ?_).2;exact H.hp.retL ⟨_,_,_,Lp,Lo19,by rw [pctS,if_pos h5];rfl,by rw [pctS,if_pos h5];exact ⟨.inr rfl,by simpa [Lib.byteCells] using hrw19,hR.prt⟩⟩
  intro h5
  try have p5:=of_decide_eq_false h5
  refine c_seqR (fun _ K3=>?_);refine kH H (Rm rfl (Rm rfl (Rk rfl (Rf fd321_1lpc rfl (Ro ty3run 0 rfl rfl ?_)))));clear H;intro a H;refine s_add _ H wn rfl rfl rfl (by omega) (by omega) rfl ?_;clear H;intro a H;rw [show ((i:Int)+1)=((i+1:Nat):Int) from rfl] at H;refine s_callL en241lpc (Li:=[]) (L:=scB b s i p (.slice A lit.length c) (.slice B parts.length d) pl e :: Lt) H wn rfl (digit_spec _ Lt _ b s i p _ _ pl e (i+1) (by omega) (Hp.owns (Li:=[]) H.hp)) rfl ?_;clear H;rintro v34 _ L34 a w ⟨rfl,rfl,rfl⟩ hm34 H;dsimp only [List.nil_append] at H;refine kH H (Ra rfl ?_);clear H;intro a H;refine K3 _ _ ?_;clear K3;refine c_cond H rfl ?_ ?_
  · intro h27
    try have p27:=of_decide_eq_true h27
    have hd1:=digB_lt h27;refine c_seq (fun _ K4=>?_);refine c_drawI (hmx) [[],[],[1],[1,2],[1,2,3],[],[5],[5,6],[5,6,7],[5,6,7,8],[1,2,3,4,5,6,7,8,9],(List.range 11)] [11] (by kernel_rfl) (by kernel_rfl) (fun (ix_:Nat) (v:Value) (G:GH)=>match ix_ with|0=>v=.pointer (some ⟨b,0,none⟩)|1=>v=.pointer (some ⟨b,0,none⟩)|2=>v=.pointer (some ⟨b,0,none⟩)|3=>v=.pointer (some ⟨b,0,none⟩)|4=>v=.string s|5=>v=.pointer (some ⟨b,0,none⟩)|6=>v=.pointer (some ⟨b,0,none⟩)|7=>v=.pointer (some ⟨b,1,none⟩)|8=>v=vi i|9=>v=vi ((i+1:Nat):Int)|10=>v=.int .u8 (byteAt s (i+1))|_=>True) (fun _ _ _ _ _ h=>h) H ?_ ?_
    · clear H;refine al4 ?_ ?_ ?_ ?_ (al4 ?_ ?_ ?_ ?_ (al4 ?_ ?_ ?_ ?_ allI_nil))
      · exact Op0 rfl fun _ _ _ _ _ _ H fin=>kH H (Rm rfl fun _ H=>fin H iJ rfl)
      · exact Op0 rfl fun _ _ _ _ _ _ H fin=>kH H (Rm rfl fun _ H=>fin H iJ rfl)
      · exact Op1 1 36 rfl rfl fun _ _ _ _ _ _ H fin=>kH H (Rk rfl fun _ H=>fin H iJ rfl)
      · exact Op1 2 37 rfl rfl fun _ _ _ _ _ _ H fin=>kH H (Rf fd321_0lpc rfl fun _ H=>fin H iJ rfl)
      · exact Op1 3 38 rfl rfl fun _ _ _ _ _ _ H fin=>kH H (Ro ty9run 0 rfl rfl fun _ H=>fin H iJ rfl)
      · exact Op0 rfl fun _ _ _ _ _ _ H fin=>kH H (Rm rfl fun _ H=>fin H iJ rfl)
      · exact Op1 5 40 rfl rfl fun _ _ _ _ _ _ H fin=>kH H (Rk rfl fun _ H=>fin H iJ rfl)
      · exact Op1 6 41 rfl rfl fun _ _ _ _ _ _ H fin=>kH H (Rf fd321_1lpc rfl fun _ H=>fin H iJ rfl)
      · exact Op1 7 42 rfl rfl fun _ _ _ _ _ _ H fin=>kH H (Ro ty3run 0 rfl rfl fun _ H=>fin H iJ rfl)
      · refine Op1 8 43 rfl rfl fun _ a w G1 hG HT H fin=>?_;refine s_add _ H wn rfl rfl rfl (by omega) (by omega) rfl ?_;clear H;intro a H;exact fin H iJ rfl
      · refine Op2 4 39 9 44 rfl rfl fun _ a w G1 hG HT H fin=>?_;refine s_indexs (i+1) un9cp H wn rfl rfl rfl hd1.1 rfl ?_;clear H;intro a H;rw [← byteAt_lt] at H;exact fin H iJ rfl
      exact opB rfl
    clear H;intro a w G hGm5 H hv;obtain ⟨u35,hu35,hp35⟩:=hv 0 35 (by decide) rfl;obtain rfl:u35=.pointer (some ⟨b,0,none⟩):=hp35;have H:=H.addS hu35;obtain ⟨u45,hu45,hp45⟩:=hv 10 45 (by decide) rfl;obtain rfl:u45=.int .u8 (byteAt s (i+1)):=hp45;have H:=H.addS hu45;clear hv;refine s_callL en242lpc (Li:=[]) (L:=scB b s i p (.slice A lit.length c) (.slice B parts.length d) pl e :: Lt) H wn rfl (by subst hLt;exact place_spec2 _ Lp Lo _ b s i p _ _ pl e lit parts (byteAt s (i+1)) false hR (Hp.owns (Li:=[]) H.hp) (by omega) (by omega) hd1.2 (by omega)) rfl ?_;clear H;rintro v46 G46 L46 a w ⟨p46,v46',q46,Lp46,Lo46,rfl,hR46⟩ hm46 H;dsimp only [List.nil_append] at H;obtain ⟨A46,c46,rfl,-,-⟩:=hR46.buf.shape;obtain ⟨B46,d46,rfl,-,-⟩:=hR46.prt.shape;refine wl_nil ⟨rfl,?_⟩;refine K4 _ _ ?_;clear K4;refine c_region ?_;refine kH H (Rm rfl (Rk rfl (Rf fd321_1lpc rfl (Ro ty3run 0 rfl rfl ?_))));clear H;intro a H;refine s_add _ H wn rfl rfl rfl (by omega) (by omega) rfl ?_;clear H;intro a H;refine kH H (Rk rfl (Rf fd321_1lpc rfl ?_));clear H;intro a H;refine s_store ty3run 0 (vs:=[_]) _ H wn rfl rfl rfl rfl rfl rfl rfl rfl ?_;clear H;intro w H;dsimp only [List.set,setRow] at H;refine wl_nil ?_;refine (leave0 H Tryz.results234 ?_).2;exact H.hp.retL ⟨_,_,_,Lp46,Lo46,by rw [pctS,if_neg (by simp [h5]),if_pos h27];rfl,by rw [pctS,if_neg (by simp [h5]),if_pos h27];exact hR46⟩
  intro h27
  try have p27:=of_decide_eq_false h27
  refine c_seq (fun _ K5=>?_)
  by_cases c1:hasP (s.extract i s.size) ⟨#[37,100]⟩=true
  · skip;refine c_drawI (hmx) [[],[0],[0,1],[0,1,2],[],[4],[4,5],[4,5,6],(List.range 8),(List.range 9),(List.range 10),(List.range 11),(List.range 11),(List.range 11++[12]),(List.range 11++[12,13]),(List.range 11++[12,13,14]),(List.range 11++[12,13,14,15]),(List.range 17),(List.range 18),(List.range 19)] [] (by kernel_rfl) (by kernel_rfl) (fun (ix_:Nat) (v:Value) (G:GH)=>match ix_ with|0=>v=.pointer (some ⟨b,0,none⟩)|1=>v=.pointer (some ⟨b,0,none⟩)|2=>v=.pointer (some ⟨b,0,none⟩)|3=>v=.string s|4=>v=.pointer (some ⟨b,0,none⟩)|5=>v=.pointer (some ⟨b,0,none⟩)|6=>v=.pointer (some ⟨b,1,none⟩)|7=>v=vi i|8=>v=.string (s.extract i s.size)|9=>v=.bool (hasP (s.extract i s.size) ⟨#[37,100]⟩)|10=>v=.bool (decide (hasP (s.extract i s.size) ⟨#[37,100]⟩=true))|11=>v=.pointer (some ⟨b,0,none⟩)|12=>v=.pointer (some ⟨b,0,none⟩)|13=>v=.pointer (some ⟨b,0,none⟩)|14=>v=.pointer (some ⟨b,1,none⟩)|15=>v=vi i|16=>v=vi ((i+2:Nat):Int)|17=>v=.bool (digB s (i+2))|18=>v=.bool (digB s (i+2))|19=>v=.bool (digB s (i+2))|_=>True) (fun _ _ _ _ _ h=>h) H ?_ ?_
    · clear H;refine al4 ?_ ?_ ?_ ?_ (al4 ?_ ?_ ?_ ?_ (al4 ?_ ?_ ?_ ?_ (al4 ?_ ?_ ?_ ?_ (al4 ?_ ?_ ?_ ?_ allI_nil))))
      · exact Op0 rfl fun _ _ _ _ _ _ H fin=>kH H (Rm rfl fun _ H=>fin H iJ rfl)
      · exact Op1 0 55 rfl rfl fun _ _ _ _ _ _ H fin=>kH H (Rk rfl fun _ H=>fin H iJ rfl)
      · exact Op1 1 56 rfl rfl fun _ _ _ _ _ _ H fin=>kH H (Rf fd321_0lpc rfl fun _ H=>fin H iJ rfl)
      · exact Op1 2 57 rfl rfl fun _ _ _ _ _ _ H fin=>kH H (Ro ty9run 0 rfl rfl fun _ H=>fin H iJ rfl)
      · exact Op0 rfl fun _ _ _ _ _ _ H fin=>kH H (Rm rfl fun _ H=>fin H iJ rfl)
      · exact Op1 4 59 rfl rfl fun _ _ _ _ _ _ H fin=>kH H (Rk rfl fun _ H=>fin H iJ rfl)
      · exact Op1 5 60 rfl rfl fun _ _ _ _ _ _ H fin=>kH H (Rf fd321_1lpc rfl fun _ H=>fin H iJ rfl)
      · exact Op1 6 61 rfl rfl fun _ _ _ _ _ _ H fin=>kH H (Ro ty3run 0 rfl rfl fun _ H=>fin H iJ rfl)
      · refine Op2 3 58 7 62 rfl rfl fun _ a w G1 hG HT H fin=>?_;refine s_strFrom i un9cp H wn rfl rfl rfl (by omega) rfl ?_;clear H;intro a H;exact fin H iJ rfl
      · refine Op1 8 63 rfl rfl fun _ a w G1 hG HT H fin=>?_;refine s_call en240lpc H wn rfl (hasPre_spec _ _ H.hp.ro _ _ hex (by decide)) rfl ?_;clear H;rintro v64 G64 a w ⟨rfl,rfl⟩ hGm64 H;exact fin H hGm64 (rfl)
      · refine Op1 9 64 rfl rfl fun _ a w G1 hG HT H fin=>?_;refine kH H (Rm rfl ?_);clear H;intro a H;exact fin H iJ (by simp)
      · refine Op1 10 65 rfl rfl fun _ a w G1 hG HT H fin=>?_;refine s_move H (wg H rfl rfl (decide_eq_true c1)) rfl rfl ?_;clear H;intro a H;exact fin H iJ rfl
      · refine Op1 10 65 rfl rfl fun _ a w G1 hG HT H fin=>?_;refine s_move H (wg H rfl rfl (decide_eq_true c1)) rfl rfl ?_;clear H;intro a H;exact fin H iJ rfl
      · refine Op2 12 67 10 65 rfl rfl fun _ a w G1 hG HT H fin=>?_;refine s_nilCheck H (wg H rfl rfl (decide_eq_true c1)) rfl rfl ?_;clear H;intro a H;exact fin H iJ rfl
      · refine Op2 13 68 10 65 rfl rfl fun _ a w G1 hG HT H fin=>?_;refine s_field fd321_1lpc H (wg H rfl rfl (decide_eq_true c1)) rfl rfl ?_;clear H;intro a H;exact fin H iJ rfl
      · refine Op2 14 69 10 65 rfl rfl fun _ a w G1 hG HT H fin=>?_;refine s_load ty3run H (wg H rfl rfl (decide_eq_true c1)) rfl (H.hp.ocell 0 rfl rfl) rfl ?_;clear H;intro a H;exact fin H iJ rfl
      · refine Op2 15 70 10 65 rfl rfl fun _ a w G1 hG HT H fin=>?_;refine s_add _ H (wg H rfl rfl (decide_eq_true c1)) rfl rfl rfl (by omega) (by omega) rfl ?_;clear H;intro a H;exact fin H iJ rfl
      · refine Op3 11 66 16 71 10 65 rfl rfl fun _ a w G1 hG HT H fin=>?_;refine s_callL en241lpc (Li:=[]) (L:=scB b s i p (.slice A lit.length c) (.slice B parts.length d) pl e :: Lt) H (wg H rfl rfl (decide_eq_true c1)) rfl (digit_spec _ Lt _ b s i p _ _ pl e (i+2) (by omega) (Hp.owns (Li:=[]) H.hp)) rfl ?_;clear H;rintro v72 G72 L72 a w ⟨rfl,rfl,rfl⟩ hGm72 H;dsimp only [List.nil_append] at H;exact fin H hGm72 (rfl)
      · refine Op2 10 65 17 72 rfl rfl fun _ a w G1 hG HT H fin=>?_;refine s_pick_t H wn rfl (decide_eq_true c1) rfl rfl ?_;clear H;intro a H;exact fin H iJ rfl
      exact Op1 18 73 rfl rfl fun _ _ _ _ _ _ H fin=>kH H (Ra rfl fun _ H=>fin H iJ rfl)
    clear H;intro a w G hGm7 H hv;obtain ⟨u54,hu54,hp54⟩:=hv 19 54 (by decide) rfl;obtain rfl:u54=.bool (digB s (i+2)):=hp54;have H:=H.addS hu54;clear hv;refine wl_nil ⟨rfl,?_⟩;refine K5 _ _ ?_;clear K5;refine c_cond H rfl ?_ ?_
    · intro h54
      try have p54:=of_decide_eq_true h54
      have hd2:=digB_lt h54;refine c_seq (fun _ K6=>?_);refine c_drawI (hmx) [[],[],[1],[1,2],[1,2,3],[],[5],[5,6],[5,6,7],[5,6,7,8],[1,2,3,4,5,6,7,8,9],(List.range 11)] [11] (by kernel_rfl) (by kernel_rfl) (fun (ix_:Nat) (v:Value) (G:GH)=>match ix_ with|0=>v=.pointer (some ⟨b,0,none⟩)|1=>v=.pointer (some ⟨b,0,none⟩)|2=>v=.pointer (some ⟨b,0,none⟩)|3=>v=.pointer (some ⟨b,0,none⟩)|4=>v=.string s|5=>v=.pointer (some ⟨b,0,none⟩)|6=>v=.pointer (some ⟨b,0,none⟩)|7=>v=.pointer (some ⟨b,1,none⟩)|8=>v=vi i|9=>v=vi ((i+2:Nat):Int)|10=>v=.int .u8 (byteAt s (i+2))|_=>True) (fun _ _ _ _ _ h=>h) H ?_ ?_
      · clear H;refine al4 ?_ ?_ ?_ ?_ (al4 ?_ ?_ ?_ ?_ (al4 ?_ ?_ ?_ ?_ allI_nil))
        · exact Op0 rfl fun _ _ _ _ _ _ H fin=>kH H (Rm rfl fun _ H=>fin H iJ rfl)
        · exact Op0 rfl fun _ _ _ _ _ _ H fin=>kH H (Rm rfl fun _ H=>fin H iJ rfl)
        · exact Op1 1 75 rfl rfl fun _ _ _ _ _ _ H fin=>kH H (Rk rfl fun _ H=>fin H iJ rfl)
        · exact Op1 2 76 rfl rfl fun _ _ _ _ _ _ H fin=>kH H (Rf fd321_0lpc rfl fun _ H=>fin H iJ rfl)
        · exact Op1 3 77 rfl rfl fun _ _ _ _ _ _ H fin=>kH H (Ro ty9run 0 rfl rfl fun _ H=>fin H iJ rfl)
        · exact Op0 rfl fun _ _ _ _ _ _ H fin=>kH H (Rm rfl fun _ H=>fin H iJ rfl)
        · exact Op1 5 79 rfl rfl fun _ _ _ _ _ _ H fin=>kH H (Rk rfl fun _ H=>fin H iJ rfl)
        · exact Op1 6 80 rfl rfl fun _ _ _ _ _ _ H fin=>kH H (Rf fd321_1lpc rfl fun _ H=>fin H iJ rfl)
        · exact Op1 7 81 rfl rfl fun _ _ _ _ _ _ H fin=>kH H (Ro ty3run 0 rfl rfl fun _ H=>fin H iJ rfl)
        · refine Op1 8 82 rfl rfl fun _ a w G1 hG HT H fin=>?_;refine s_add _ H wn rfl rfl rfl (by omega) (by omega) rfl ?_;clear H;intro a H;exact fin H iJ rfl
        · refine Op2 4 78 9 83 rfl rfl fun _ a w G1 hG HT H fin=>?_;refine s_indexs (i+2) un9cp H wn rfl rfl rfl hd2.1 rfl ?_;clear H;intro a H;rw [← byteAt_lt] at H;exact fin H iJ rfl
        exact opB rfl
      clear H;intro a w G hGm8 H hv;obtain ⟨u74,hu74,hp74⟩:=hv 0 74 (by decide) rfl;obtain rfl:u74=.pointer (some ⟨b,0,none⟩):=hp74;have H:=H.addS hu74;obtain ⟨u84,hu84,hp84⟩:=hv 10 84 (by decide) rfl;obtain rfl:u84=.int .u8 (byteAt s (i+2)):=hp84;have H:=H.addS hu84;clear hv;refine s_callL en242lpc (Li:=[]) (L:=scB b s i p (.slice A lit.length c) (.slice B parts.length d) pl e :: Lt) H wn rfl (by subst hLt;exact place_spec2 _ Lp Lo _ b s i p _ _ pl e lit parts (byteAt s (i+2)) true hR (Hp.owns (Li:=[]) H.hp) (by omega) (by omega) hd2.2 (by omega)) rfl ?_;clear H;rintro v85 G85 L85 a w ⟨p46,v46',q46,Lp46,Lo46,rfl,hR46⟩ hm85 H;dsimp only [List.nil_append] at H;obtain ⟨A46,c46,rfl,-,-⟩:=hR46.buf.shape;obtain ⟨B46,d46,rfl,-,-⟩:=hR46.prt.shape;refine wl_nil ⟨rfl,?_⟩;refine K6 _ _ ?_;clear K6;refine c_region ?_;refine kH H (Rm rfl (Rk rfl (Rf fd321_1lpc rfl (Ro ty3run 0 rfl rfl ?_))));clear H;intro a H;refine s_add _ H wn rfl rfl rfl (by omega) (by omega) rfl ?_;clear H;intro a H;refine kH H (Rk rfl (Rf fd321_1lpc rfl ?_));clear H;intro a H;refine s_store ty3run 0 (vs:=[_]) _ H wn rfl rfl rfl rfl rfl rfl rfl rfl ?_;clear H;intro w H;dsimp only [List.set,setRow] at H;refine wl_nil ?_;refine (leave0 H Tryz.results234 ?_).2
      have hn5:¬ hasP (s.extract i s.size) ⟨#[37,37]⟩=true:=by simp [h5]
      have hn27:¬ digB s (i+1)=true:=by simp [h27]
      first
        | exact H.hp.retL ⟨_,_,_,Lp46,Lo46,by rw [pctS,if_neg hn5,if_neg hn27,if_pos ⟨c1,h54⟩];rfl,by rw [pctS,if_neg hn5,if_neg hn27,if_pos ⟨c1,h54⟩];exact hR46⟩
        | (have hn3:¬ (hasP (s.extract i s.size) ⟨#[37,100]⟩=true∧digB s (i+2)=true):=by simp_all
           exact H.hp.retL ⟨_,_,_,Lp,Lo,by rw [pctS,if_neg hn5,if_neg hn27,if_neg hn3,hLt],by rw [pctS,if_neg hn5,if_neg hn27,if_neg hn3];exact hR⟩)
    intro h54
    try have p54:=of_decide_eq_false h54
    refine c_region ?_;refine kH H (Rm rfl (Rk rfl (Rf fd321_5lpc rfl ?_)));clear H;intro a H;refine s_store ty22fst 0 (vs:=[_]) _ H wn rfl rfl rfl rfl rfl rfl rfl rfl ?_;clear H;intro w H;dsimp only [List.set,setRow] at H;refine wl_nil ?_;refine (leave0 H Tryz.results234 ?_).2
    have hn5:¬ hasP (s.extract i s.size) ⟨#[37,37]⟩=true:=by simp [h5]
    have hn27:¬ digB s (i+1)=true:=by simp [h27]
    first
      | exact H.hp.retL ⟨_,_,_,Lp46,Lo46,by rw [pctS,if_neg hn5,if_neg hn27,if_pos ⟨c1,h54⟩];rfl,by rw [pctS,if_neg hn5,if_neg hn27,if_pos ⟨c1,h54⟩];exact hR46⟩
      | (have hn3:¬ (hasP (s.extract i s.size) ⟨#[37,100]⟩=true∧digB s (i+2)=true):=by simp_all
         exact H.hp.retL ⟨_,_,_,Lp,Lo,by rw [pctS,if_neg hn5,if_neg hn27,if_neg hn3,hLt],by rw [pctS,if_neg hn5,if_neg hn27,if_neg hn3];exact hR⟩)
  skip;refine c_drawI (hmx) [[],[0],[0,1],[0,1,2],[],[4],[4,5],[4,5,6],(List.range 8),(List.range 9),(List.range 10),(List.range 11),(List.range 11),(List.range 11++[12]),(List.range 11++[12,13]),(List.range 11++[12,13,14]),(List.range 11++[12,13,14,15]),(List.range 17),(List.range 18),(List.range 19)] [] (by kernel_rfl) (by kernel_rfl) (fun (ix_:Nat) (v:Value) (G:GH)=>match ix_ with|0=>v=.pointer (some ⟨b,0,none⟩)|1=>v=.pointer (some ⟨b,0,none⟩)|2=>v=.pointer (some ⟨b,0,none⟩)|3=>v=.string s|4=>v=.pointer (some ⟨b,0,none⟩)|5=>v=.pointer (some ⟨b,0,none⟩)|6=>v=.pointer (some ⟨b,1,none⟩)|7=>v=vi i|8=>v=.string (s.extract i s.size)|9=>v=.bool (hasP (s.extract i s.size) ⟨#[37,100]⟩)|10=>v=.bool (decide (hasP (s.extract i s.size) ⟨#[37,100]⟩=true))|11=>v=undef|12=>v=undef|13=>v=undef|14=>v=undef|15=>v=undef|16=>v=undef|17=>v=undef|18=>v=.bool false|19=>v=.bool false|_=>True) (fun _ _ _ _ _ h=>h) H ?_ ?_
  · clear H;refine al4 ?_ ?_ ?_ ?_ (al4 ?_ ?_ ?_ ?_ (al4 ?_ ?_ ?_ ?_ (al4 ?_ ?_ ?_ ?_ (al4 ?_ ?_ ?_ ?_ allI_nil))))
    · exact Op0 rfl fun _ _ _ _ _ _ H fin=>kH H (Rm rfl fun _ H=>fin H iJ rfl)
    · exact Op1 0 55 rfl rfl fun _ _ _ _ _ _ H fin=>kH H (Rk rfl fun _ H=>fin H iJ rfl)
    · exact Op1 1 56 rfl rfl fun _ _ _ _ _ _ H fin=>kH H (Rf fd321_0lpc rfl fun _ H=>fin H iJ rfl)
    · exact Op1 2 57 rfl rfl fun _ _ _ _ _ _ H fin=>kH H (Ro ty9run 0 rfl rfl fun _ H=>fin H iJ rfl)
    · exact Op0 rfl fun _ _ _ _ _ _ H fin=>kH H (Rm rfl fun _ H=>fin H iJ rfl)
    · exact Op1 4 59 rfl rfl fun _ _ _ _ _ _ H fin=>kH H (Rk rfl fun _ H=>fin H iJ rfl)
    · exact Op1 5 60 rfl rfl fun _ _ _ _ _ _ H fin=>kH H (Rf fd321_1lpc rfl fun _ H=>fin H iJ rfl)
    · exact Op1 6 61 rfl rfl fun _ _ _ _ _ _ H fin=>kH H (Ro ty3run 0 rfl rfl fun _ H=>fin H iJ rfl)
    · refine Op2 3 58 7 62 rfl rfl fun _ a w G1 hG HT H fin=>?_;refine s_strFrom i un9cp H wn rfl rfl rfl (by omega) rfl ?_;clear H;intro a H;exact fin H iJ rfl
    · refine Op1 8 63 rfl rfl fun _ a w G1 hG HT H fin=>?_;refine s_call en240lpc H wn rfl (hasPre_spec _ _ H.hp.ro _ _ hex (by decide)) rfl ?_;clear H;rintro v64 G64 a w ⟨rfl,rfl⟩ hGm64 H;exact fin H hGm64 (rfl)
    · refine Op1 9 64 rfl rfl fun _ a w G1 hG HT H fin=>?_;refine kH H (Rm rfl ?_);clear H;intro a H;exact fin H iJ (by simp)
    · exact skI 10 (decide_eq_false c1) rfl rfl
    · exact skI 10 (decide_eq_false c1) rfl rfl
    · exact skI 10 (decide_eq_false c1) rfl rfl
    · exact skI 10 (decide_eq_false c1) rfl rfl
    · exact skI 10 (decide_eq_false c1) rfl rfl
    · exact skI 10 (decide_eq_false c1) rfl rfl
    · exact skI 10 (decide_eq_false c1) rfl rfl
    · refine Op2 10 65 17 72 rfl rfl fun _ a w G1 hG HT H fin=>?_;refine s_pick_f H wn rfl (decide_eq_false c1) rfl rfl ?_;clear H;intro a H;exact fin H iJ rfl
    exact Op1 18 73 rfl rfl fun _ _ _ _ _ _ H fin=>kH H (Ra rfl fun _ H=>fin H iJ rfl)
  clear H;intro a w G hGm7 H hv;obtain ⟨u54,hu54,hp54⟩:=hv 19 54 (by decide) rfl;obtain rfl:u54=.bool false:=hp54;have H:=H.addS hu54;clear hv;refine wl_nil ⟨rfl,?_⟩;refine K5 _ _ ?_;clear K5;refine c_cond_f H rfl rfl ?_;refine c_region ?_;refine kH H (Rm rfl (Rk rfl (Rf fd321_5lpc rfl ?_)));clear H;intro a H;refine s_store ty22fst 0 (vs:=[_]) _ H wn rfl rfl rfl rfl rfl rfl rfl rfl ?_;clear H;intro w H;dsimp only [List.set,setRow] at H;refine wl_nil ?_;refine (leave0 H Tryz.results234 ?_).2
  have hn5:¬ hasP (s.extract i s.size) ⟨#[37,37]⟩=true:=by simp [h5]
  have hn27:¬ digB s (i+1)=true:=by simp [h27]
  first
    | exact H.hp.retL ⟨_,_,_,Lp46,Lo46,by rw [pctS,if_neg hn5,if_neg hn27,if_pos ⟨c1,h54⟩];rfl,by rw [pctS,if_neg hn5,if_neg hn27,if_pos ⟨c1,h54⟩];exact hR46⟩
    | (have hn3:¬ (hasP (s.extract i s.size) ⟨#[37,100]⟩=true∧digB s (i+2)=true):=by simp_all
       exact H.hp.retL ⟨_,_,_,Lp,Lo,by rw [pctS,if_neg hn5,if_neg hn27,if_neg hn3,hLt],by rw [pctS,if_neg hn5,if_neg hn27,if_neg hn3];exact hR⟩)
end
section
open Go.RowKit
theorem en234scn:∀ args w,(callFunc 234 args).run Tryz.prog w=.ok (.enter 234 args) w:=enters Tryz.func234 rfl (by kernel_rfl)
def bAt (s:ByteArray) (i:Nat):UInt8:=if h:i < s.size then s[i] else 0
theorem bAt_eq (s:ByteArray) (i:Nat):byteAt s i=((bAt s i).toNat:Int):=by
 unfold byteAt bAt;split <;> rfl
def stepS (s:ByteArray) (x:ScS):ScS:=if byteAt s x.i=37 then pctS s x else ⟨x.i+1,x.lit++[bAt s x.i],x.parts,x.pl,x.e⟩
/-- What the scanner holds behind its rounds. -/
def scnF (s:ByteArray):Nat→ScS→ScS
 | 0,x=>x
 | f+1,x=>if x.i < s.size∧x.e=0 then scnF s f (stepS s x) else x
def mS (s:ByteArray) (x:ScS):Nat:=if x.e=0 then s.size - x.i else 0
theorem scnF_end {s:ByteArray} {f:Nat} {x:ScS} (h:¬ (x.i < s.size∧x.e=0)):scnF s f x=x:=by
 cases f with
 | zero=>rfl
 | succ f=>rw [scnF,if_neg h]
theorem flS_len (lit:List UInt8) (parts:List LpD):(flS lit parts).length≤parts.length+1:=by unfold flS;split <;> simp
theorem stepS_ok (s:ByteArray) (x:ScS) (h:x.i < s.size∧x.e=0) (h1:x.lit.length≤x.i) (h2:x.parts.length≤2*x.i) (h3:x.pl≤x.i) :
  (stepS s x).i≤x.i+3∧(stepS s x).lit.length≤(stepS s x).i∧(stepS s x).parts.length≤2*(stepS s x).i∧(stepS s x).pl≤(stepS s x).i∧mS s (stepS s x) < mS s x∧mS s x≤s.size:=by
 have hf:=flS_len x.lit x.parts;have hm:mS s x=s.size - x.i:=if_pos h.2
 unfold stepS pctS
 split
 ·split
  ·refine ⟨?_,?_,?_,?_,?_,?_⟩ <;> simp only [mS,List.length_append,List.length_cons,List.length_nil] at*<;> simp only [h.2,if_true] at*<;> omega
  split
  ·refine ⟨?_,?_,?_,?_,?_,?_⟩ <;> simp only [mS,List.length_append,List.length_cons,List.length_nil] at*<;> simp only [h.2,if_true] at*<;> omega
  split
  ·refine ⟨?_,?_,?_,?_,?_,?_⟩ <;> simp only [mS,List.length_append,List.length_cons,List.length_nil] at*<;> simp only [h.2,if_true] at*<;> omega
  refine ⟨?_,?_,?_,?_,?_,?_⟩ <;> simp only [mS,List.length_append,List.length_cons,List.length_nil] at*<;> simp only [h.2,if_true] at*<;> (try omega) <;> (simp;omega)
 refine ⟨?_,?_,?_,?_,?_,?_⟩ <;> simp only [mS,List.length_append,List.length_cons,List.length_nil] at*<;> simp only [h.2,if_true] at*<;> omega
def sc0:ScS:=⟨0,[],[],0,0⟩
def scR (s:ByteArray):ScS:=scnF s s.size sc0
def scE (x:ScS):Int:=if x.e=0∧9 < (x.pl:Int) then 9 else x.e
set_option maxHeartbeats 1000000 in
theorem scan_spec (G:GH) (Lp0 Lo0:OL) (w0:World) (b:Nat) (s:ByteArray) (p0 v0 q0:Value) (hR:ScR b [] [] p0 v0 q0 Lp0 Lo0) (hO:Owns G (scX b s sc0 p0 v0 q0 :: (Lp0++Lo0)) w0) (hs:s.size≤1073741824) :
  Calls Tryz.prog 224 #[.pointer (some ⟨b,0,none⟩)] w0 (RetL w0 G (scX b s sc0 p0 v0 q0 :: (Lp0++Lo0)) fun u G' L'=>∃ p' v' q' Lp' Lo',L'=scB b s (scR s).i p' v' q' (scR s).pl (scE (scR s)) :: (Lp'++Lo')∧ScR b [] (flS (scR s).lit (scR s).parts) p' v' q' Lp' Lo'):=by
 obtain ⟨A0,c0,rfl,-,-⟩:=hR.buf.shape;obtain ⟨B0,d0,rfl,-,-⟩:=hR.prt.shape;refine enterL (N:=68) (T:=[(0,_)]) Tryz.func224 rfl Tryz.ntmps224 rfl rfl hO ?_;intro a H;refine c_seq (fun _ K1=>?_);refine c_block ?_;skip;refine c_loopS (ι:=Nat × ScS × Value × Option Addr × Nat × Option Addr × Nat × OL × OL × GH) (Tc:=[(0,_)]) (Lc:=[]) (fun (gh:Nat × ScS × Value × Option Addr × Nat × Option Addr × Nat × OL × OL × GH)=>[]) (fun (gh:Nat × ScS × Value × Option Addr × Nat × Option Addr × Nat × OL × OL × GH)=>[scX b s gh.2.1 gh.2.2.1 (.slice gh.2.2.2.1 gh.2.1.lit.length gh.2.2.2.2.1) (.slice gh.2.2.2.2.2.1 gh.2.1.parts.length gh.2.2.2.2.2.2.1)]++(gh.2.2.2.2.2.2.2.1++gh.2.2.2.2.2.2.2.2.1)) (fun (gh:Nat × ScS × Value × Option Addr × Nat × Option Addr × Nat × OL × OL × GH)=>gh.2.2.2.2.2.2.2.2.2) (fun (gh:Nat × ScS × Value × Option Addr × Nat × Option Addr × Nat × OL × OL × GH)=>ScR b gh.2.1.lit gh.2.1.parts gh.2.2.1 (.slice gh.2.2.2.1 gh.2.1.lit.length gh.2.2.2.2.1) (.slice gh.2.2.2.2.2.1 gh.2.1.parts.length gh.2.2.2.2.2.2.1) gh.2.2.2.2.2.2.2.1 gh.2.2.2.2.2.2.2.2.1∧scnF s gh.1 gh.2.1=scR s∧mS s gh.2.1≤gh.1∧gh.1≤s.size∧gh.2.1.i≤s.size+3∧gh.2.1.lit.length≤gh.2.1.i∧gh.2.1.parts.length≤2*gh.2.1.i∧gh.2.1.pl≤gh.2.1.i) (fun (gh:Nat × ScS × Value × Option Addr × Nat × Option Addr × Nat × OL × OL × GH)=>gh.1) ((s.size,sc0,p0,A0,c0,B0,d0,Lp0,Lo0,G)) (by exact (H).sub ⟨rfl,trivial⟩) ?_ ?_
 ·exact ⟨hR,rfl,by simp [mS,sc0],Nat.le_refl _,by simp [sc0],by simp [sc0],by simp [sc0],by simp [sc0]⟩
 clear H;intro gh a w hI H;obtain ⟨k,x,p,vA,vc,qA,qc,Lp,Lo,g⟩:=gh;dsimp only at hI H;obtain ⟨hR,hsc,hmk,hks,hxi,hx1,hx2,hx3⟩:=hI;dsimp only [List.cons_append,List.nil_append,List.append_nil] at H;refine c_seq (fun _ K2=>?_);refine c_seq (fun _ K3=>?_)
 by_cases c0:(x.i:Int) < (s.size:Int)
 ·skip
  by_cases c1:x.e=0
  ·skip;refine c_drawI (hmx) [[],[0],[0,1],[0,1,2],[],[4],[4,5],[4,5,6],[4,5,6,7],(List.range 9),(List.range 10),(List.range 11),(List.range 12),(List.range 13),(List.range 14),(List.range 15),(List.range 16)] [] (by kernel_rfl) (by kernel_rfl) (fun (ix_:Nat) (v:Value) (G:GH)=>match ix_ with|0=>v=.pointer (some ⟨b,0,none⟩)|1=>v=.pointer (some ⟨b,0,none⟩)|2=>v=.pointer (some ⟨b,1,none⟩)|3=>v=vi x.i|4=>v=.pointer (some ⟨b,0,none⟩)|5=>v=.pointer (some ⟨b,0,none⟩)|6=>v=.pointer (some ⟨b,0,none⟩)|7=>v=.string s|8=>v=vi s.size|9=>v=.bool (decide ((x.i:Int) < (s.size:Int)))|10=>v=.bool (decide ((x.i:Int) < (s.size:Int)))|11=>v=.pointer (some ⟨b,0,none⟩)|12=>v=.pointer (some ⟨b,0,none⟩)|13=>v=.pointer (some ⟨b,6,none⟩)|14=>v=vi x.e|15=>v=.bool (decide (x.e=0))|16=>v=.bool (decide (x.e=0))|_=>True) (fun _ _ _ _ _ h=>h) H ?_ ?_
   ·clear H;refine al4 ?_ ?_ ?_ ?_ (al4 ?_ ?_ ?_ ?_ (al4 ?_ ?_ ?_ ?_ (al4 ?_ ?_ ?_ ?_ (allI_cons ?_ allI_nil))))
    ·exact Op0 rfl fun _ _ _ _ _ _ H fin=>kH H (Rm rfl fun _ H=>fin H iJ rfl)
    ·exact Op1 0 2 rfl rfl fun _ _ _ _ _ _ H fin=>kH H (Rk rfl fun _ H=>fin H iJ rfl)
    ·exact Op1 1 3 rfl rfl fun _ _ _ _ _ _ H fin=>kH H (Rf fd321_1lpc rfl fun _ H=>fin H iJ rfl)
    ·exact Op1 2 4 rfl rfl fun _ _ _ _ _ _ H fin=>kH H (Ro ty3run 0 rfl rfl fun _ H=>fin H iJ rfl)
    ·exact Op0 rfl fun _ _ _ _ _ _ H fin=>kH H (Rm rfl fun _ H=>fin H iJ rfl)
    ·exact Op1 4 6 rfl rfl fun _ _ _ _ _ _ H fin=>kH H (Rk rfl fun _ H=>fin H iJ rfl)
    ·exact Op1 5 7 rfl rfl fun _ _ _ _ _ _ H fin=>kH H (Rf fd321_0lpc rfl fun _ H=>fin H iJ rfl)
    ·exact Op1 6 8 rfl rfl fun _ _ _ _ _ _ H fin=>kH H (Ro ty9run 0 rfl rfl fun _ H=>fin H iJ rfl)
    ·refine Op1 7 9 rfl rfl fun _ a w G1 hG HT H fin=>?_;refine s_lens un9cp H wn rfl rfl ?_;clear H;intro a H;exact fin H iJ rfl
    ·exact Op2 3 5 8 10 rfl rfl fun _ _ _ _ _ _ H fin=>kH H (Rc rfl fun _ H=>fin H iJ rfl)
    ·exact Op1 9 11 rfl rfl fun _ _ _ _ _ _ H fin=>kH H (Rm rfl fun _ H=>fin H iJ rfl)
    ·refine Op1 10 12 rfl rfl fun _ a w G1 hG HT H fin=>?_;refine s_move H (wg H rfl rfl (decide_eq_true c0)) rfl rfl ?_;clear H;intro a H;exact fin H iJ rfl
    ·refine Op2 11 13 10 12 rfl rfl fun _ a w G1 hG HT H fin=>?_;refine s_nilCheck H (wg H rfl rfl (decide_eq_true c0)) rfl rfl ?_;clear H;intro a H;exact fin H iJ rfl
    ·refine Op2 12 14 10 12 rfl rfl fun _ a w G1 hG HT H fin=>?_;refine s_field fd321_5lpc H (wg H rfl rfl (decide_eq_true c0)) rfl rfl ?_;clear H;intro a H;exact fin H iJ rfl
    ·refine Op2 13 15 10 12 rfl rfl fun _ a w G1 hG HT H fin=>?_;refine s_load ty22fst H (wg H rfl rfl (decide_eq_true c0)) rfl (H.hp.ocell 0 rfl rfl) rfl ?_;clear H;intro a H;exact fin H iJ rfl
    ·refine Op2 14 16 10 12 rfl rfl fun _ a w G1 hG HT H fin=>?_;refine s_cmp H (wg H rfl rfl (decide_eq_true c0)) rfl rfl rfl rfl ?_;clear H;intro a H;exact fin H iJ rfl
    refine Op2 10 12 15 17 rfl rfl fun _ a w G1 hG HT H fin=>?_;refine s_pick_t H wn rfl (decide_eq_true c0) rfl rfl ?_;clear H;intro a H;exact fin H iJ rfl
   clear H;intro a w G hGm0 H hv;obtain ⟨u18,hu18,hp18⟩:=hv 16 18 (by decide) rfl;obtain rfl:u18=.bool (decide (x.e=0)):=hp18;have H:=H.addS hu18;clear hv;refine wl_nil ⟨rfl,?_⟩;refine K3 _ _ ?_;clear K3;refine c_cond_t H rfl (decide_eq_true c1) ?_;refine c_skip ?_;refine K2 _ _ ?_;clear K2;refine c_block ?_;refine c_seq (fun _ K4=>?_);refine c_seq (fun _ K5=>?_);refine c_drawI (hmx) [[],[0],[0,1],[0,1,2],[],[4],[4,5],[4,5,6],(List.range 8),(List.range 9)] [] (by kernel_rfl) (by kernel_rfl) (fun (ix_:Nat) (v:Value) (G:GH)=>match ix_ with|0=>v=.pointer (some ⟨b,0,none⟩)|1=>v=.pointer (some ⟨b,0,none⟩)|2=>v=.pointer (some ⟨b,0,none⟩)|3=>v=.string s|4=>v=.pointer (some ⟨b,0,none⟩)|5=>v=.pointer (some ⟨b,0,none⟩)|6=>v=.pointer (some ⟨b,1,none⟩)|7=>v=vi x.i|8=>v=.int .u8 (byteAt s x.i)|9=>v=.bool (decide (byteAt s x.i=37))|_=>True) (fun _ _ _ _ _ h=>h) H ?_ ?_
   ·clear H;refine al4 ?_ ?_ ?_ ?_ (al4 ?_ ?_ ?_ ?_ (allI_cons ?_ (allI_cons ?_ allI_nil)))
    ·exact Op0 rfl fun _ _ _ _ _ _ H fin=>kH H (Rm rfl fun _ H=>fin H iJ rfl)
    ·exact Op1 0 19 rfl rfl fun _ _ _ _ _ _ H fin=>kH H (Rk rfl fun _ H=>fin H iJ rfl)
    ·exact Op1 1 20 rfl rfl fun _ _ _ _ _ _ H fin=>kH H (Rf fd321_0lpc rfl fun _ H=>fin H iJ rfl)
    ·exact Op1 2 21 rfl rfl fun _ _ _ _ _ _ H fin=>kH H (Ro ty9run 0 rfl rfl fun _ H=>fin H iJ rfl)
    ·exact Op0 rfl fun _ _ _ _ _ _ H fin=>kH H (Rm rfl fun _ H=>fin H iJ rfl)
    ·exact Op1 4 23 rfl rfl fun _ _ _ _ _ _ H fin=>kH H (Rk rfl fun _ H=>fin H iJ rfl)
    ·exact Op1 5 24 rfl rfl fun _ _ _ _ _ _ H fin=>kH H (Rf fd321_1lpc rfl fun _ H=>fin H iJ rfl)
    ·exact Op1 6 25 rfl rfl fun _ _ _ _ _ _ H fin=>kH H (Ro ty3run 0 rfl rfl fun _ H=>fin H iJ rfl)
    ·refine Op2 3 22 7 26 rfl rfl fun _ a w G1 hG HT H fin=>?_;refine s_indexs x.i un9cp H wn rfl rfl rfl (by omega) rfl ?_;clear H;intro a H;rw [← byteAt_lt] at H;exact fin H iJ rfl
    exact Op1 8 27 rfl rfl fun _ _ _ _ _ _ H fin=>kH H (Rc rfl fun _ H=>fin H iJ rfl)
   clear H;intro a w G hGm1 H hv;obtain ⟨u28,hu28,hp28⟩:=hv 9 28 (by decide) rfl;obtain rfl:u28=.bool (decide (byteAt s x.i=37)):=hp28;have H:=H.addS hu28;clear hv;refine wl_nil ⟨rfl,?_⟩;refine K5 _ _ ?_;clear K5;refine c_cond H rfl ?_ ?_
   ·intro h28
    try have p28:=of_decide_eq_true h28
    refine c_seqR (fun _ K6=>?_);refine kH H (Rm rfl ?_);clear H;intro a H;refine s_callL en234scn (Li:=[]) (L:=scX b s x p (.slice vA x.lit.length vc) (.slice qA x.parts.length qc) :: (Lp++Lo)) H wn rfl (percent_spec _ Lp Lo _ b s x p _ _ hR (Hp.owns (Li:=[]) H.hp) (by omega) (by omega) (by omega) (by omega) (by omega)) rfl ?_;clear H;rintro v30 G30 L30 a w ⟨p',v',q',Lp',Lo',rfl,hR30⟩ hm30 H;dsimp only [List.nil_append] at H;have hst:stepS s x=pctS s x:=if_pos p28;have hok:=stepS_ok s x ⟨by omega,c1⟩ hx1 hx2 hx3
    have hkk:k=(k - 1)+1:=by omega
    have hscn:scnF s (k - 1) (stepS s x)=scR s:=by rw [hkk,scnF,if_pos ⟨by omega,c1⟩] at hsc;exact hsc
    rw [← hst] at H hR30;obtain ⟨A30,c30,rfl,-,-⟩:=hR30.buf.shape;obtain ⟨B30,d30,rfl,-,-⟩:=hR30.prt.shape;refine K6 _ _ ?_;clear K6;refine c_exit ?_;refine loop_end ((k - 1,stepS s x,p',A30,c30,B30,d30,Lp',Lo',G30)) (by exact (H).sub ⟨rfl,trivial⟩) ?_ ?_
    ·(try dsimp only);exact ⟨hR30,hscn,by omega,by omega,by omega,by omega,by omega,by omega⟩
    first|omega|(dsimp only;omega)
   intro h28
   try have p28:=of_decide_eq_false h28
   refine c_skip ?_;refine K4 _ _ ?_;clear K4;refine c_seq (fun _ K7=>?_);refine c_drawI (hmx) [[],[0],[0,1],[],[3],[3,4],[3,4,5],[],[7],[7,8],[7,8,9],[3,4,5,6,7,8,9,10],(List.range 12)] [12] (by kernel_rfl) (by kernel_rfl) (fun (ix_:Nat) (v:Value) (G:GH)=>match ix_ with|0=>v=.pointer (some ⟨b,0,none⟩)|1=>v=.pointer (some ⟨b,0,none⟩)|2=>v=.pointer (some ⟨b,2,none⟩)|3=>v=.pointer (some ⟨b,0,none⟩)|4=>v=.pointer (some ⟨b,0,none⟩)|5=>v=.pointer (some ⟨b,0,none⟩)|6=>v=.string s|7=>v=.pointer (some ⟨b,0,none⟩)|8=>v=.pointer (some ⟨b,0,none⟩)|9=>v=.pointer (some ⟨b,1,none⟩)|10=>v=vi x.i|11=>v=.int .u8 (byteAt s x.i)|_=>True) (fun _ _ _ _ _ h=>h) H ?_ ?_
   ·clear H;refine al4 ?_ ?_ ?_ ?_ (al4 ?_ ?_ ?_ ?_ (al4 ?_ ?_ ?_ ?_ (allI_cons ?_ allI_nil)))
    ·exact Op0 rfl fun _ _ _ _ _ _ H fin=>kH H (Rm rfl fun _ H=>fin H iJ rfl)
    ·exact Op1 0 31 rfl rfl fun _ _ _ _ _ _ H fin=>kH H (Rk rfl fun _ H=>fin H iJ rfl)
    ·exact Op1 1 32 rfl rfl fun _ _ _ _ _ _ H fin=>kH H (Rf fd321_2lfl rfl fun _ H=>fin H iJ rfl)
    ·exact Op0 rfl fun _ _ _ _ _ _ H fin=>kH H (Rm rfl fun _ H=>fin H iJ rfl)
    ·exact Op1 3 34 rfl rfl fun _ _ _ _ _ _ H fin=>kH H (Rk rfl fun _ H=>fin H iJ rfl)
    ·exact Op1 4 35 rfl rfl fun _ _ _ _ _ _ H fin=>kH H (Rf fd321_0lpc rfl fun _ H=>fin H iJ rfl)
    ·exact Op1 5 36 rfl rfl fun _ _ _ _ _ _ H fin=>kH H (Ro ty9run 0 rfl rfl fun _ H=>fin H iJ rfl)
    ·exact Op0 rfl fun _ _ _ _ _ _ H fin=>kH H (Rm rfl fun _ H=>fin H iJ rfl)
    ·exact Op1 7 38 rfl rfl fun _ _ _ _ _ _ H fin=>kH H (Rk rfl fun _ H=>fin H iJ rfl)
    ·exact Op1 8 39 rfl rfl fun _ _ _ _ _ _ H fin=>kH H (Rf fd321_1lpc rfl fun _ H=>fin H iJ rfl)
    ·exact Op1 9 40 rfl rfl fun _ _ _ _ _ _ H fin=>kH H (Ro ty3run 0 rfl rfl fun _ H=>fin H iJ rfl)
    ·refine Op2 6 37 10 41 rfl rfl fun _ a w G1 hG HT H fin=>?_;refine s_indexs x.i un9cp H wn rfl rfl rfl (by omega) rfl ?_;clear H;intro a H;rw [← byteAt_lt] at H;exact fin H iJ rfl
    exact opB rfl
   clear H;intro a w G hGm3 H hv;obtain ⟨u33,hu33,hp33⟩:=hv 2 33 (by decide) rfl;obtain rfl:u33=.pointer (some ⟨b,2,none⟩):=hp33;have H:=H.addS hu33;obtain ⟨u42,hu42,hp42⟩:=hv 11 42 (by decide) rfl;obtain rfl:u42=.int .u8 (byteAt s x.i):=hp42;have H:=H.addS hu42;clear hv;refine s_callL en235lpc (Li:=[]) (L:=scX b s x p (.slice vA x.lit.length vc) (.slice qA x.parts.length qc) :: (Lp++Lo)) H wn rfl (wbyte_spec _ Lp Lo _ b s x.i p _ qA x.parts.length qc x.pl x.e x.lit.length _ (byteAt s x.i) hR.ptr (Hp.owns (Li:=[]) H.hp) hR.buf (by omega)) rfl ?_;clear H;rintro v43 _ L43 a w ⟨v43',Lo43,rfl,hrw43,rfl⟩ hm43 H;dsimp only [List.nil_append] at H;obtain ⟨A43,c43,rfl,-,-⟩:=hrw43.shape;have hst:stepS s x=⟨x.i+1,x.lit++[bAt s x.i],x.parts,x.pl,x.e⟩:=if_neg p28;have hok:=stepS_ok s x ⟨by omega,c1⟩ hx1 hx2 hx3
   have hkk:k=(k - 1)+1:=by omega
   have hscn:scnF s (k - 1) (stepS s x)=scR s:=by rw [hkk,scnF,if_pos ⟨by omega,c1⟩] at hsc;exact hsc
   have hR43:ScR b (stepS s x).lit (stepS s x).parts (.pointer (some ⟨b,2,none⟩)) (.slice A43 (stepS s x).lit.length c43) (.slice qA (stepS s x).parts.length qc) Lp Lo43:=by
    rw [hst];exact ⟨.inr rfl,by simpa [Lib.byteCells,bAt_eq] using hrw43,hR.prt⟩
   refine wl_nil ⟨rfl,?_⟩;refine K7 _ _ ?_;clear K7;refine c_region ?_;refine kH H (Rm rfl (Rk rfl (Rf fd321_1lpc rfl (Ro ty3run 0 rfl rfl ?_))));clear H;intro a H;refine s_add _ H wn rfl rfl rfl (by omega) (by omega) rfl ?_;clear H;intro a H;refine kH H (Rk rfl (Rf fd321_1lpc rfl ?_));clear H;intro a H;refine s_store ty3run 0 (vs:=[_]) _ H wn rfl rfl rfl rfl rfl rfl rfl rfl ?_;clear H;intro w H;dsimp only [List.set,setRow] at H;replace H:St _ _ _ _ _ _ (scX b s (stepS s x) (.pointer (some ⟨b,2,none⟩)) (.slice A43 (stepS s x).lit.length c43) (.slice qA (stepS s x).parts.length qc) :: (Lp++Lo43)) _ _ _:=H.cast (by rw [hst];simp [scX,scB]);refine wl_nil ?_;refine loop_end ((k - 1,stepS s x,.pointer (some ⟨b,2,none⟩),A43,c43,qA,qc,Lp,Lo43,_)) (by exact (H).sub ⟨rfl,trivial⟩) ?_ ?_
   ·(try dsimp only);exact ⟨hR43,hscn,by omega,by omega,by omega,by omega,by omega,by omega⟩
   first|omega|(dsimp only;omega)
  skip;refine c_drawI (hmx) [[],[0],[0,1],[0,1,2],[],[4],[4,5],[4,5,6],[4,5,6,7],(List.range 9),(List.range 10),(List.range 11),(List.range 12),(List.range 13),(List.range 14),(List.range 15),(List.range 16)] [] (by kernel_rfl) (by kernel_rfl) (fun (ix_:Nat) (v:Value) (G:GH)=>match ix_ with|0=>v=.pointer (some ⟨b,0,none⟩)|1=>v=.pointer (some ⟨b,0,none⟩)|2=>v=.pointer (some ⟨b,1,none⟩)|3=>v=vi x.i|4=>v=.pointer (some ⟨b,0,none⟩)|5=>v=.pointer (some ⟨b,0,none⟩)|6=>v=.pointer (some ⟨b,0,none⟩)|7=>v=.string s|8=>v=vi s.size|9=>v=.bool (decide ((x.i:Int) < (s.size:Int)))|10=>v=.bool (decide ((x.i:Int) < (s.size:Int)))|11=>v=.pointer (some ⟨b,0,none⟩)|12=>v=.pointer (some ⟨b,0,none⟩)|13=>v=.pointer (some ⟨b,6,none⟩)|14=>v=vi x.e|15=>v=.bool (decide (x.e=0))|16=>v=.bool (decide (x.e=0))|_=>True) (fun _ _ _ _ _ h=>h) H ?_ ?_
  ·clear H;refine al4 ?_ ?_ ?_ ?_ (al4 ?_ ?_ ?_ ?_ (al4 ?_ ?_ ?_ ?_ (al4 ?_ ?_ ?_ ?_ (allI_cons ?_ allI_nil))))
   ·exact Op0 rfl fun _ _ _ _ _ _ H fin=>kH H (Rm rfl fun _ H=>fin H iJ rfl)
   ·exact Op1 0 2 rfl rfl fun _ _ _ _ _ _ H fin=>kH H (Rk rfl fun _ H=>fin H iJ rfl)
   ·exact Op1 1 3 rfl rfl fun _ _ _ _ _ _ H fin=>kH H (Rf fd321_1lpc rfl fun _ H=>fin H iJ rfl)
   ·exact Op1 2 4 rfl rfl fun _ _ _ _ _ _ H fin=>kH H (Ro ty3run 0 rfl rfl fun _ H=>fin H iJ rfl)
   ·exact Op0 rfl fun _ _ _ _ _ _ H fin=>kH H (Rm rfl fun _ H=>fin H iJ rfl)
   ·exact Op1 4 6 rfl rfl fun _ _ _ _ _ _ H fin=>kH H (Rk rfl fun _ H=>fin H iJ rfl)
   ·exact Op1 5 7 rfl rfl fun _ _ _ _ _ _ H fin=>kH H (Rf fd321_0lpc rfl fun _ H=>fin H iJ rfl)
   ·exact Op1 6 8 rfl rfl fun _ _ _ _ _ _ H fin=>kH H (Ro ty9run 0 rfl rfl fun _ H=>fin H iJ rfl)
   ·refine Op1 7 9 rfl rfl fun _ a w G1 hG HT H fin=>?_;refine s_lens un9cp H wn rfl rfl ?_;clear H;intro a H;exact fin H iJ rfl
   ·exact Op2 3 5 8 10 rfl rfl fun _ _ _ _ _ _ H fin=>kH H (Rc rfl fun _ H=>fin H iJ rfl)
   ·exact Op1 9 11 rfl rfl fun _ _ _ _ _ _ H fin=>kH H (Rm rfl fun _ H=>fin H iJ rfl)
   ·refine Op1 10 12 rfl rfl fun _ a w G1 hG HT H fin=>?_;refine s_move H (wg H rfl rfl (decide_eq_true c0)) rfl rfl ?_;clear H;intro a H;exact fin H iJ rfl
   ·refine Op2 11 13 10 12 rfl rfl fun _ a w G1 hG HT H fin=>?_;refine s_nilCheck H (wg H rfl rfl (decide_eq_true c0)) rfl rfl ?_;clear H;intro a H;exact fin H iJ rfl
   ·refine Op2 12 14 10 12 rfl rfl fun _ a w G1 hG HT H fin=>?_;refine s_field fd321_5lpc H (wg H rfl rfl (decide_eq_true c0)) rfl rfl ?_;clear H;intro a H;exact fin H iJ rfl
   ·refine Op2 13 15 10 12 rfl rfl fun _ a w G1 hG HT H fin=>?_;refine s_load ty22fst H (wg H rfl rfl (decide_eq_true c0)) rfl (H.hp.ocell 0 rfl rfl) rfl ?_;clear H;intro a H;exact fin H iJ rfl
   ·refine Op2 14 16 10 12 rfl rfl fun _ a w G1 hG HT H fin=>?_;refine s_cmp H (wg H rfl rfl (decide_eq_true c0)) rfl rfl rfl rfl ?_;clear H;intro a H;exact fin H iJ rfl
   refine Op2 10 12 15 17 rfl rfl fun _ a w G1 hG HT H fin=>?_;refine s_pick_t H wn rfl (decide_eq_true c0) rfl rfl ?_;clear H;intro a H;exact fin H iJ rfl
  clear H;intro a w G hGm0 H hv;obtain ⟨u18,hu18,hp18⟩:=hv 16 18 (by decide) rfl;obtain rfl:u18=.bool (decide (x.e=0)):=hp18;have H:=H.addS hu18;clear hv;refine wl_nil ⟨rfl,?_⟩;refine K3 _ _ ?_;clear K3;refine c_cond_f H rfl (decide_eq_false c1) ?_;refine c_exit ?_;refine K1 _ _ ?_;clear K1;refine c_seq (fun _ K8=>?_)
  have hxR:x=scR s:=by
   rw [scnF_end (by first|exact fun h=>c0 (by omega)|exact fun h=>c1 h.2)] at hsc;exact hsc
  subst hxR;refine c_region ?_;refine kH H (Rm rfl ?_);clear H;intro a H;refine s_callL en236lfl (Li:=[]) (L:=scX b s (scR s) p (.slice vA (scR s).lit.length vc) (.slice qA (scR s).parts.length qc) :: (Lp++Lo)) H wn rfl (flush_spec _ Lp Lo _ b s (scR s).i p _ _ (scR s).pl (scR s).e (scR s).lit (scR s).parts hR (Hp.owns (Li:=[]) H.hp) (by omega) (by omega)) rfl ?_;clear H;rintro v52 G52 L52 a w ⟨p52,v52',q52,Lp52,Lo52,rfl,hR52⟩ hm52 H;dsimp only [List.nil_append] at H;obtain ⟨A52,c52,rfl,-,-⟩:=hR52.buf.shape;obtain ⟨B52,d52,rfl,-,-⟩:=hR52.prt.shape;refine wl_nil ?_;refine K8 _ _ ?_;clear K8;refine c_seqR (fun _ K9=>?_);refine kH H (Rm rfl (Rk rfl (Rf fd321_5lpc rfl (Ro ty22fst 0 rfl rfl (Rc rfl (Rm rfl ?_))))));clear H;intro a H;refine s_split H 58 rfl ?_ ?_
  ·intro h58
   try have p58:=of_decide_eq_true h58
   refine s_move H (wg H rfl rfl h58) rfl rfl ?_;clear H;intro a H;refine s_nilCheck H (wg H rfl rfl h58) rfl rfl ?_;clear H;intro a H;refine s_field fd321_4lfl H (wg H rfl rfl h58) rfl rfl ?_;clear H;intro a H;refine s_load ty3run H (wg H rfl rfl h58) rfl (H.hp.ocell 0 rfl rfl) rfl ?_;clear H;intro a H;refine s_cmp H (wg H rfl rfl h58) rfl rfl rfl rfl ?_;clear H;intro a H;refine s_pick_t H wn rfl h58 rfl rfl ?_;clear H;intro a H;refine K9 _ _ ?_;clear K9;refine c_cond H rfl ?_ ?_
   ·intro h64
    try have p64:=of_decide_eq_true h64
    refine c_region ?_;refine kH H (Rm rfl (Rk rfl (Rf fd321_5lpc rfl ?_)));clear H;intro a H;refine s_store ty22fst 0 (vs:=[_]) _ H wn rfl rfl rfl rfl rfl rfl rfl rfl ?_;clear H;intro w H;dsimp only [List.set,setRow] at H;refine wl_nil ?_;refine (leave0 H Tryz.results224 ?_).2
    first
     | exact H.hp.retL ⟨_,_,_,_,_,by rw [scE,if_pos ⟨by assumption,by assumption⟩],hR52⟩
     | exact H.hp.retL ⟨_,_,_,_,_,by rw [scE,if_neg (by first|exact fun h=>p58 h.1|exact fun h=>p64 h.2)],hR52⟩
   intro h64
   try have p64:=of_decide_eq_false h64
   refine c_skip ?_;refine (leave0 H Tryz.results224 ?_).2
   first
    | exact H.hp.retL ⟨_,_,_,_,_,by rw [scE,if_pos ⟨by assumption,by assumption⟩],hR52⟩
    | exact H.hp.retL ⟨_,_,_,_,_,by rw [scE,if_neg (by first|exact fun h=>p58 h.1|exact fun h=>p64 h.2)],hR52⟩
  intro h58
  try have p58:=of_decide_eq_false h58
  (iterate 5 refine s_skip H rfl rfl h58 rfl ?_;clear H;intro a H);refine s_pick_f H wn rfl h58 rfl rfl ?_;clear H;intro a H;refine K9 _ _ ?_;clear K9;refine c_cond_f H rfl rfl ?_;refine c_skip ?_;refine (leave0 H Tryz.results224 ?_).2
  first
   | exact H.hp.retL ⟨_,_,_,_,_,by rw [scE,if_pos ⟨by assumption,by assumption⟩],hR52⟩
   | exact H.hp.retL ⟨_,_,_,_,_,by rw [scE,if_neg (by first|exact fun h=>p58 h.1|exact fun h=>p64 h.2)],hR52⟩
 skip;refine c_drawI (hmx) [[],[0],[0,1],[0,1,2],[],[4],[4,5],[4,5,6],[4,5,6,7],(List.range 9),(List.range 10),(List.range 11),(List.range 12),(List.range 13),(List.range 14),(List.range 15),(List.range 16)] [] (by kernel_rfl) (by kernel_rfl) (fun (ix_:Nat) (v:Value) (G:GH)=>match ix_ with|0=>v=.pointer (some ⟨b,0,none⟩)|1=>v=.pointer (some ⟨b,0,none⟩)|2=>v=.pointer (some ⟨b,1,none⟩)|3=>v=vi x.i|4=>v=.pointer (some ⟨b,0,none⟩)|5=>v=.pointer (some ⟨b,0,none⟩)|6=>v=.pointer (some ⟨b,0,none⟩)|7=>v=.string s|8=>v=vi s.size|9=>v=.bool (decide ((x.i:Int) < (s.size:Int)))|10=>v=.bool (decide ((x.i:Int) < (s.size:Int)))|11=>v=undef|12=>v=undef|13=>v=undef|14=>v=undef|15=>v=undef|16=>v=.bool false|_=>True) (fun _ _ _ _ _ h=>h) H ?_ ?_
 ·clear H;refine al4 ?_ ?_ ?_ ?_ (al4 ?_ ?_ ?_ ?_ (al4 ?_ ?_ ?_ ?_ (al4 ?_ ?_ ?_ ?_ (allI_cons ?_ allI_nil))))
  ·exact Op0 rfl fun _ _ _ _ _ _ H fin=>kH H (Rm rfl fun _ H=>fin H iJ rfl)
  ·exact Op1 0 2 rfl rfl fun _ _ _ _ _ _ H fin=>kH H (Rk rfl fun _ H=>fin H iJ rfl)
  ·exact Op1 1 3 rfl rfl fun _ _ _ _ _ _ H fin=>kH H (Rf fd321_1lpc rfl fun _ H=>fin H iJ rfl)
  ·exact Op1 2 4 rfl rfl fun _ _ _ _ _ _ H fin=>kH H (Ro ty3run 0 rfl rfl fun _ H=>fin H iJ rfl)
  ·exact Op0 rfl fun _ _ _ _ _ _ H fin=>kH H (Rm rfl fun _ H=>fin H iJ rfl)
  ·exact Op1 4 6 rfl rfl fun _ _ _ _ _ _ H fin=>kH H (Rk rfl fun _ H=>fin H iJ rfl)
  ·exact Op1 5 7 rfl rfl fun _ _ _ _ _ _ H fin=>kH H (Rf fd321_0lpc rfl fun _ H=>fin H iJ rfl)
  ·exact Op1 6 8 rfl rfl fun _ _ _ _ _ _ H fin=>kH H (Ro ty9run 0 rfl rfl fun _ H=>fin H iJ rfl)
  ·refine Op1 7 9 rfl rfl fun _ a w G1 hG HT H fin=>?_;refine s_lens un9cp H wn rfl rfl ?_;clear H;intro a H;exact fin H iJ rfl
  ·exact Op2 3 5 8 10 rfl rfl fun _ _ _ _ _ _ H fin=>kH H (Rc rfl fun _ H=>fin H iJ rfl)
  ·exact Op1 9 11 rfl rfl fun _ _ _ _ _ _ H fin=>kH H (Rm rfl fun _ H=>fin H iJ rfl)
  ·exact skI 10 (decide_eq_false c0) rfl rfl
  ·exact skI 10 (decide_eq_false c0) rfl rfl
  ·exact skI 10 (decide_eq_false c0) rfl rfl
  ·exact skI 10 (decide_eq_false c0) rfl rfl
  ·exact skI 10 (decide_eq_false c0) rfl rfl
  refine Op2 10 12 15 17 rfl rfl fun _ a w G1 hG HT H fin=>?_;refine s_pick_f H wn rfl (decide_eq_false c0) rfl rfl ?_;clear H;intro a H;exact fin H iJ rfl
 clear H;intro a w G hGm0 H hv;obtain ⟨u18,hu18,hp18⟩:=hv 16 18 (by decide) rfl;obtain rfl:u18=.bool false:=hp18;have H:=H.addS hu18;clear hv;refine wl_nil ⟨rfl,?_⟩;refine K3 _ _ ?_;clear K3;refine c_cond_f H rfl rfl ?_;refine c_exit ?_;refine K1 _ _ ?_;clear K1;refine c_seq (fun _ K10=>?_)
 have hxR:x=scR s:=by
  rw [scnF_end (by first|exact fun h=>c0 (by omega)|exact fun h=>c1 h.2)] at hsc;exact hsc
 subst hxR;refine c_region ?_;refine kH H (Rm rfl ?_);clear H;intro a H;refine s_callL en236lfl (Li:=[]) (L:=scX b s (scR s) p (.slice vA (scR s).lit.length vc) (.slice qA (scR s).parts.length qc) :: (Lp++Lo)) H wn rfl (flush_spec _ Lp Lo _ b s (scR s).i p _ _ (scR s).pl (scR s).e (scR s).lit (scR s).parts hR (Hp.owns (Li:=[]) H.hp) (by omega) (by omega)) rfl ?_;clear H;rintro v52 G52 L52 a w ⟨p52,v52',q52,Lp52,Lo52,rfl,hR52⟩ hm52 H;dsimp only [List.nil_append] at H;obtain ⟨A52,c52,rfl,-,-⟩:=hR52.buf.shape;obtain ⟨B52,d52,rfl,-,-⟩:=hR52.prt.shape;refine wl_nil ?_;refine K10 _ _ ?_;clear K10;refine c_seqR (fun _ K11=>?_);refine kH H (Rm rfl (Rk rfl (Rf fd321_5lpc rfl (Ro ty22fst 0 rfl rfl (Rc rfl (Rm rfl ?_))))));clear H;intro a H;refine s_split H 58 rfl ?_ ?_
 ·intro h58
  try have p58:=of_decide_eq_true h58
  refine s_move H (wg H rfl rfl h58) rfl rfl ?_;clear H;intro a H;refine s_nilCheck H (wg H rfl rfl h58) rfl rfl ?_;clear H;intro a H;refine s_field fd321_4lfl H (wg H rfl rfl h58) rfl rfl ?_;clear H;intro a H;refine s_load ty3run H (wg H rfl rfl h58) rfl (H.hp.ocell 0 rfl rfl) rfl ?_;clear H;intro a H;refine s_cmp H (wg H rfl rfl h58) rfl rfl rfl rfl ?_;clear H;intro a H;refine s_pick_t H wn rfl h58 rfl rfl ?_;clear H;intro a H;refine K11 _ _ ?_;clear K11;refine c_cond H rfl ?_ ?_
  ·intro h64
   try have p64:=of_decide_eq_true h64
   refine c_region ?_;refine kH H (Rm rfl (Rk rfl (Rf fd321_5lpc rfl ?_)));clear H;intro a H;refine s_store ty22fst 0 (vs:=[_]) _ H wn rfl rfl rfl rfl rfl rfl rfl rfl ?_;clear H;intro w H;dsimp only [List.set,setRow] at H;refine wl_nil ?_;refine (leave0 H Tryz.results224 ?_).2
   first
    | exact H.hp.retL ⟨_,_,_,_,_,by rw [scE,if_pos ⟨by assumption,by assumption⟩],hR52⟩
    | exact H.hp.retL ⟨_,_,_,_,_,by rw [scE,if_neg (by first|exact fun h=>p58 h.1|exact fun h=>p64 h.2)],hR52⟩
  intro h64
  try have p64:=of_decide_eq_false h64
  refine c_skip ?_;refine (leave0 H Tryz.results224 ?_).2
  first
   | exact H.hp.retL ⟨_,_,_,_,_,by rw [scE,if_pos ⟨by assumption,by assumption⟩],hR52⟩
   | exact H.hp.retL ⟨_,_,_,_,_,by rw [scE,if_neg (by first|exact fun h=>p58 h.1|exact fun h=>p64 h.2)],hR52⟩
 intro h58
 try have p58:=of_decide_eq_false h58
 (iterate 5 refine s_skip H rfl rfl h58 rfl ?_;clear H;intro a H);refine s_pick_f H wn rfl h58 rfl rfl ?_;clear H;intro a H;refine K11 _ _ ?_;clear K11;refine c_cond_f H rfl rfl ?_;refine c_skip ?_;refine (leave0 H Tryz.results224 ?_).2
 first
  | exact H.hp.retL ⟨_,_,_,_,_,by rw [scE,if_pos ⟨by assumption,by assumption⟩],hR52⟩
  | exact H.hp.retL ⟨_,_,_,_,_,by rw [scE,if_neg (by first|exact fun h=>p58 h.1|exact fun h=>p64 h.2)],hR52⟩
end
section
open Go.RowKit
def u8Dat (c:Int):List Dat:=[.lf (.int .u8 c)]
theorem u8_of {G:GH} {c:Int} {cs:List Value} (h:RepRow G (u8Dat c) cs):cs=[.int .u8 c]:=by
 simp only [u8Dat,RepRow,RepV] at h
 obtain ⟨_,_,rfl,⟨rfl,_⟩,rfl⟩:=h
 rfl
/-- The bytes of a string. -/
def bytesI (s:ByteArray):List Int:=s.data.toList.map fun b=>(b.toNat:Int)
theorem bytes_cat (G:GH) (l:List Int):RepCat G 1 (l.map u8Dat) (l.map fun c=>Value.int .u8 c):=by
 refine ⟨l.map fun c=>[.int .u8 c],by induction l with|nil=>rfl|cons x r ih=>simp [ih],by simp,fun j r cs hr hc=>?_⟩
 rw [List.getElem?_map] at hr hc
 obtain ⟨x,hx,rfl⟩:=Option.map_eq_some_iff.1 hr
 rw [hx] at hc
 cases hc
 exact ⟨by simp only [u8Dat,RepRow];exact ⟨_,_,rfl,by simp [RepV,Value.oneCell'],rfl⟩,rfl⟩
theorem rep_fz {G:GH} {sz b o n cap:Nat} {cur:Array Value} {e:TypeId} {fz:Nat × Nat} {rows:List (List Dat)} (hb:G b=some (.cells cur e fz)) (h:RepV (fun k=>if k=b then some (.cells cur e (0,0)) else G k) (.sl sz rows) (.slice (some ⟨b,o,none⟩) n cap)) (hr:∀ r∈rows,∃ c,r=u8Dat c):RepV G (.sl sz rows) (.slice (some ⟨b,o,none⟩) n cap):=by
 simp only [RepV] at h ⊢
 obtain ⟨A,c,h1,h2,h3,h4⟩:=h
 refine ⟨A,c,h1,h2,h3,fun hn=>?_⟩
 obtain ⟨b',o',e',hrr⟩:=h4 hn
 injection h1 with e1
 subst e1
 injection e' with e2
 injection e2 with e3 e4
 subst e3;subst e4
 refine ⟨_,_,rfl,RepRows.mk fun k r hk=>?_⟩
 obtain ⟨cs,g1,g2,g3⟩:=hrr.get hk
 refine ⟨cs,g1,fun j u hj=>?_,?_⟩
 ·have:=g2 j u hj
  unfold gcell at this ⊢
  simp only [if_true] at this
  rw [hb];exact this
 ·obtain ⟨c,rfl⟩:=hr r (List.mem_of_getElem? hk)
  have:=u8_of g3
  subst this
  simp only [u8Dat,RepRow];exact ⟨_,_,rfl,by simp [RepV,Value.oneCell'],rfl⟩
section
variable {N:Nat} {D:List Deferred} {w0:World} {F:Nat→Prop} {G0 G:GH} {L:OL} {T:List (Nat × Value)}
variable {r:Option Nat} {P:Program} {ops:Array Oper} {Q:Exit→Act→World→Prop} {rest:List Oper} {a:Act} {w:World}
variable {d:Nat} {ty:TypeId} {pos:String} {aft:Array Edge} {g:Option (Nat × Bool)}
theorem upd_freezeAt {w:World} {b o n:Nat} {c:Array Value} {e:TypeId} {fz:Nat × Nat} (h:w.heap[b]?=some (.cells c e fz)) (hn:n≠0):∃ fz',Upd b (.cells c e fz') w (w.freeze ⟨b,o,none⟩ n):=by
 unfold World.freeze
 rw [if_neg hn]
 refine ⟨if fz.1 == fz.2 then (o,o+n) else (min fz.1 o,max fz.2 (o+n)),rfl,rfl,rfl,by simp,?_,fun k hk=>?_⟩
 ·simp [Array.getElem?_modify,h]
 ·simp [Array.getElem?_modify,Ne.symm hk]
theorem s_bytes {t u e:TypeId} {x:Operand} {s:ByteArray} (ht:P.underlying t=some .string) (hu:P.underlying u=some (.slice e)) (he:P.underlying e=some (.int .u8)) (H:St N D w0 F G0 G L T a w) (hw:Region.wanted ⟨some d,.convert t u x,ty,pos,aft,g⟩ (yielded ops a.tmps)=true) (hx:ev T x=some (.string s)) (hz:s.size≤4294967296) (hd:Nat.blt d N=true)
  (k:∀ v G' a' w',(∀ k o,G k=some o→G' k=some o)→RepV G' (.sl 1 ((bytesI s).map u8Dat)) v→St N D w0 F G0 G' L ((d,v) :: T) a' w'→WL r P ops Q rest a' w'):WL r P ops Q (⟨some d,.convert t u x,ty,pos,aft,g⟩ :: rest) a w:=by
 have hc:=Lib.run_convert_string_bytes (P:=P) w t u e s ht hu he
 have hge:=grownCap_ge w s.size 0 e
 have hml:s.size≤maxLen:=by
  have:maxLen=9223372036854775807:=rfl
  omega
 have hgm:=grownCap_le_maxLen w s.size 0 e hml
 have H1:=H.hp.drew.alloc (.cells (Lib.bytesCells w e s) e)
 have hw1:(w.drew.alloc (.cells (Lib.bytesCells w e s) e)).heap[w.drew.heap.size]?=some (.cells (Lib.bytesCells w e s) e (0,0)):=H1.own _ List.mem_cons_self
 obtain ⟨fz,hu2⟩:=upd_freezeAt (o:=(Lib.bytesCells w e s).size) (n:=1) hw1 (by decide)
 have H2:=H1.upd (i:=0) rfl hu2
 have H3:St N D w0 F G0 G ((w.heap.size,.cells (Lib.bytesCells w e s) e fz) :: L) ((d,.slice (some ⟨w.heap.size,0,none⟩) s.size (grownCap w s.size 0 e)) :: T) (a.put (some d) (.slice (some ⟨w.heap.size,0,none⟩) s.size (grownCap w s.size 0 e))) (Lib.bytesWorld w e s):=H.put hd _ H2
 obtain ⟨G',hm,hb,H4⟩:=H3.giveBox
 have hlen:(bytesI s).length=s.size:=by rw [bytesI,List.length_map,Array.length_toList];rfl
 have hrep:RepV G' (.sl 1 ((bytesI s).map u8Dat)) (.slice (some ⟨w.heap.size,0,none⟩) s.size (grownCap w s.size 0 e)):=by
  refine rep_fz hb ?_ (fun r hr=>by obtain ⟨c,-,rfl⟩:=List.mem_map.1 hr;exact ⟨c,rfl⟩)
  refine RepV.of_row (cur:=Lib.bytesCells w e s) (e:=e) (n:=s.size) (cap:=grownCap w s.size 0 e) (by simp) (by rw [List.length_map,hlen]) hge hgm ?_ (bytes_cat _ _)
  rw [Lib.bytesCells,Array.toList_append,Nat.mul_one,List.take_left' (by rw [Array.toList_map,List.length_map,Array.length_toList];rfl)]
  simp [bytesI]
 have k2:=k _ _ _ _ hm hrep H4
 refine wl_value (v:=.slice (some ⟨w.heap.size,0,none⟩) s.size (grownCap w s.size 0 e)) (w':=Lib.bytesWorld w e s) hw rfl ?_ k2
 simp only [execOp,H.ev hx,Sem.run_bind,hc,Result.andThen_ok,Sem.run_pure]
theorem s_lssstr {t yt:TypeId} {x y:Operand} {p q:ByteArray} (H:St N D w0 F G0 G L T a w) (hw:Region.wanted ⟨some d,.binOp .lss t x y yt,ty,pos,aft,g⟩ (yielded ops a.tmps)=true) (hx:ev T x=some (.string p)) (hy:ev T y=some (.string q)) (hd:Nat.blt d N=true)
  (k:∀ a',St N D w0 F G0 G L ((d,.bool (Op.bytesLess p.toList q.toList)) :: T) a' w→WL r P ops Q rest a' w):WL r P ops Q (⟨some d,.binOp .lss t x y yt,ty,pos,aft,g⟩ :: rest) a w:=by
 refine wl_value (v:=.bool (Op.bytesLess p.toList q.toList)) (w':=w) hw rfl ?_ (k _ (H.put hd _ H.hp))
 simp [execOp,H.ev hx,H.ev hy,Sem.run_bind,eqGuard,binOp,Op.stringOp]
end
end
section
open Go.RowKit
theorem en233lps:∀ args w,(callFunc 233 args).run Tryz.prog w=.ok (.enter 233 args) w:=enters Tryz.func233 rfl (by kernel_rfl)
theorem en224lps:∀ args w,(callFunc 224 args).run Tryz.prog w=.ok (.enter 224 args) w:=enters Tryz.func224 rfl (by kernel_rfl)
theorem en222lps:∀ args w,(callFunc 222 args).run Tryz.prog w=.ok (.enter 222 args) w:=enters Tryz.func222 rfl (by kernel_rfl)
theorem sr321lps:Srt Tryz.prog 321 [(0,1),(1,1),(2,2),(4,1),(5,1),(6,1)] [.string ⟨#[]⟩,.int .i64 0,.pointer none,.slice none 0 0,.slice none 0 0,.int .i64 0,.int .i64 0]:=⟨by kernel_rfl,by kernel_rfl⟩
theorem en225lps:∀ args w,(callFunc 225 args).run Tryz.prog w=.ok (.enter 225 args) w:=enters Tryz.func225 rfl (by kernel_rfl)
theorem fd293_1lps:Fld Tryz.prog 293 1 1:=⟨by kernel_rfl⟩
theorem en192lps:∀ args w,(callFunc 192 args).run Tryz.prog w=.ok (.enter 192 args) w:=enters Tryz.func192 rfl (by kernel_rfl)
theorem en193lps:∀ args w,(callFunc 193 args).run Tryz.prog w=.ok (.enter 193 args) w:=enters Tryz.func193 rfl (by kernel_rfl)
theorem en223lps:∀ args w,(callFunc 223 args).run Tryz.prog w=.ok (.enter 223 args) w:=enters Tryz.func223 rfl (by kernel_rfl)
theorem en194lps:∀ args w,(callFunc 194 args).run Tryz.prog w=.ok (.enter 194 args) w:=enters Tryz.func194 rfl (by kernel_rfl)
/-- What a test of bytes owes. -/
def TestU (fv:Value) (G:GH) (c:Int) (b:Bool):Prop:=∀ (G1:GH) (w1:World),(∀ b o,G b=some o→G1 b=some o)→Hold G1 w1→CallV Tryz.prog fv [.int .u8 c] w1 (Ret w1 G1 fun u G'=>u=.bool b)
theorem indexU_spec (G:GH) (w0:World) (hG:Hold G w0) (l:List Int) (p:Int→Bool) (v fv:Value) (hv:RepV G (.sl 1 (l.map u8Dat)) v) (hf:∀ c∈l,TestU fv G c (p c)) :
  Calls Tryz.prog 233 #[v,fv] w0 (Ret w0 G fun u G'=>u=vi (ixI (l.findIdx? p))):=by
 obtain ⟨A,c,rfl,hc1,hc2,hg⟩:=hv.slice;have hml:maxLen=9223372036854775807:=rfl;rw [List.length_map] at *;refine eN [(0,_),(1,_)] Tryz.func233 rfl Tryz.ntmps233 rfl rfl hG ?_;intro a H;refine c_seqR (fun _ K1=>?_);refine kH H (Ra rfl ?_);clear H;intro a H;refine K1 _ _ ?_;clear K1;refine c_seq (fun _ K2=>?_);refine c_seqR (fun _ K3=>?_);refine kH H (Rm rfl (Rl un263bld rfl (Rm rfl ?_)));clear H;intro a H;refine K3 _ _ ?_;clear K3;refine c_block ?_;skip;refine c_loopS (ι:=Nat × GH) (Tc:=[(0,_),(1,_),(7,_)]) (Lc:=[]) (fun (gh:Nat × GH)=>[(8,vi gh.1)]) (fun (gh:Nat × GH)=>[]) (fun (gh:Nat × GH)=>gh.2) (fun (gh:Nat × GH)=>gh.1≤l.length∧(l.take gh.1).findIdx? p=none∧(∀ b o,G b=some o→gh.2 b=some o)) (fun (gh:Nat × GH)=>l.length - gh.1) ((0,G)) (by exact (H).sub ⟨rfl,rfl,rfl,rfl,trivial⟩) ?_ ?_
 ·exact ⟨by omega,rfl,fun _ _ h=>h⟩
 clear H;intro gh a w hI H;obtain ⟨k,g⟩:=gh;dsimp only at hI H;obtain ⟨hk,hno,hgm⟩:=hI;dsimp only [List.cons_append,List.nil_append,List.append_nil] at H;refine c_seqR (fun _ K4=>?_);refine kH H (Rc rfl ?_);clear H;intro a H;refine K4 _ _ ?_;clear K4;refine c_seq (fun _ K5=>?_);refine c_cond H rfl ?_ ?_
 ·intro h9
  try have p9:=of_decide_eq_true h9
  have hk2:k < l.length:=by omega
  obtain ⟨b,o,cs,rfl,hcl,hrow,hr⟩:=hg k (u8Dat l[k]) (by simp [hk2]);obtain rfl:=u8_of hr
  have hcell:gcell G b (o+k*1)=some (.int .u8 l[k]):=by simpa using hrow 0 _ rfl
  refine c_skip ?_;refine K5 _ _ ?_;clear K5;refine c_seq (fun _ K6=>?_);refine c_block ?_;refine c_seqR (fun _ K7=>?_);refine kH H (Rm rfl (Ra rfl ?_));clear H;intro a H;refine K7 _ _ ?_;clear K7;refine c_seqR (fun _ K8=>?_);refine kH H (Rm rfl (Rm rfl (Rm rfl ?_)));clear H;intro a H;refine s_index un263bld ty5lsc _ H wn rfl rfl rfl (by first|assumption|omega) rfl ?_;clear H;intro a H;refine s_load ty5lsc H wn rfl (H.hp.gcell (gcell_mono hgm hcell)) rfl ?_;clear H;intro a H;refine s_callv0 H wn rfl rfl (hf _ (List.getElem_mem hk2) _ _ hgm H.hp.ro) rfl ?_;clear H;rintro v16 G16 a w rfl hm16 H;refine K8 _ _ ?_;clear K8;refine c_cond H rfl ?_ ?_
  ·intro h16
   try have p16:=of_decide_eq_true h16
   refine c_seqR (fun _ K9=>?_);refine kH H (Rm rfl (Ra rfl ?_));clear H;intro a H;refine K9 _ _ ?_;clear K9;refine c_ret ?_;refine lv H Tryz.results233 rfl ?_
   first
    | exact H.hp.ret (by rw [idx_stop hk2 hno h16];rfl)
    | exact H.hp.ret (by rw [show l.take k=l from List.take_of_length_le (by omega)] at hno;rw [hno];rfl)
  intro h16
  try have p16:=of_decide_eq_false h16
  refine c_skip ?_;refine K6 _ _ ?_;clear K6;refine c_region ?_;refine s_add _ H wn rfl rfl rfl (by omega) (by omega) rfl ?_;clear H;intro a H;refine kH H (Rm rfl ?_);clear H;intro a H;refine wl_nil ?_;refine loop_end ((k+1,G16)) (by exact (H).sub ⟨rfl,rfl,rfl,rfl,trivial⟩) ?_ ?_
  ·(try dsimp only);exact ⟨by omega,idx_next hk2 hno h16,fun b o h=>hm16 b o (hgm b o h)⟩
  first|omega|(dsimp only;omega)
 intro h9
 try have p9:=of_decide_eq_false h9
 refine c_exit ?_;refine K2 _ _ ?_;clear K2;refine c_seqR (fun _ K10=>?_);refine kH H (Ra rfl ?_);clear H;intro a H;refine K10 _ _ ?_;clear K10;refine c_ret ?_;refine lv H Tryz.results233 rfl ?_
 first
  | exact H.hp.ret (by rw [idx_stop hk2 hno h16];rfl)
  | exact H.hp.ret (by rw [show l.take k=l from List.take_of_length_le (by omega)] at hno;rw [hno];rfl)
theorem ixI_some (o:Option Nat):decide (0≤ixI o)=o.isSome:=by cases o <;> simp [ixI]
theorem containsU_spec (G:GH) (w0:World) (hG:Hold G w0) (l:List Int) (p:Int→Bool) (v fv:Value) (hv:RepV G (.sl 1 (l.map u8Dat)) v) (hf:∀ c∈l,TestU fv G c (p c)) :
  Calls Tryz.prog 222 #[v,fv] w0 (Ret w0 G fun u G'=>u=.bool (l.findIdx? p).isSome):=by
 obtain ⟨A,c,rfl,hc1,hc2,-⟩:=hv.slice;rw [List.length_map] at *;refine eN [(0,_),(1,_)] Tryz.func222 rfl Tryz.ntmps222 rfl rfl hG ?_;intro a H;refine c_seqR (fun _ K1=>?_);refine kH H (Ra rfl ?_);clear H;intro a H;refine K1 _ _ ?_;clear K1;refine c_seqR (fun _ K2=>?_);refine kH H (Rm rfl (Rm rfl ?_));clear H;intro a H;refine s_call en233lps H wn rfl (indexU_spec _ _ H.hp.ro l p _ _ hv hf) rfl ?_;clear H;rintro v7 G7 a w rfl hm7 H;refine kH H (Rc rfl (Ra rfl ?_));clear H;intro a H;refine K2 _ _ ?_;clear K2;refine c_ret ?_;refine lv H Tryz.results222 rfl ?_;exact H.hp.ret (congrArg Value.bool (ixI_some _))
def ctlB (c:Int):Bool:=decide (c < 32) || decide (c=127)
theorem ctl_test (G:GH) (c:Int):TestU (.func (.func 223) #[] #[]) G c (ctlB c):=by
 intro G1 w0 hm hG;refine callV_func (caps:=[]) en223lps ?_;refine eN [(0,_)] Tryz.func223 rfl Tryz.ntmps223 rfl rfl hG ?_;intro a H;refine c_seqR (fun _ K1=>?_);refine kH H (Ra rfl ?_);clear H;intro a H;refine K1 _ _ ?_;clear K1;refine c_seqR (fun _ K2=>?_);refine kH H (Rm rfl (Rc rfl (Rm rfl ?_)));clear H;intro a H;refine s_split H 5 rfl ?_ ?_
 ·intro h5
  try have p5:=of_decide_eq_true h5
  (iterate 2 refine s_skip H rfl rfl h5 rfl ?_;clear H;intro a H);refine s_pick_t H wn rfl h5 rfl rfl ?_;clear H;intro a H;refine kH H (Ra rfl ?_);clear H;intro a H;refine K2 _ _ ?_;clear K2;refine c_ret ?_;refine lv H Tryz.results223 rfl ?_;exact H.hp.ret (congrArg Value.bool (by unfold ctlB;first|(simp_all;done)|(simp_all;omega)))
 intro h5
 try have p5:=of_decide_eq_false h5
 refine s_move H (wg H rfl rfl h5) rfl rfl ?_;clear H;intro a H;refine s_cmp H (wg H rfl rfl h5) rfl rfl rfl rfl ?_;clear H;intro a H;refine s_pick_f H wn rfl h5 rfl rfl ?_;clear H;intro a H;refine kH H (Ra rfl ?_);clear H;intro a H;refine K2 _ _ ?_;clear K2;refine c_ret ?_;refine lv H Tryz.results223 rfl ?_;exact H.hp.ret (congrArg Value.bool (by unfold ctlB;first|(simp_all;done)|(simp_all;omega)))
/-- What Parse gives: the parts, and the error. -/
def prsE (t:ByteArray):Int:=if 64 < t.size then 10 else if validS t=false then 12 else if ((bytesI t).findIdx? ctlB).isSome=true then 5 else scE (scR t)
def prsS (t:ByteArray):List LpD:=if prsE t=0 then flS (scR t).lit (scR t).parts else []
theorem lp_cat (G:GH) (l:List LpD):RepCat G 3 (l.map LpD.dat) (lpC l):=by
 refine ⟨l.map LpD.cells,rfl,by simp,fun j r cs hr hc=>?_⟩;rw [List.getElem?_map] at hr hc;obtain ⟨x,hx,rfl⟩:=Option.map_eq_some_iff.1 hr;rw [hx] at hc
 cases hc
 exact ⟨lp_row G x,rfl⟩
theorem parse_spec (G:GH) (w0:World) (hG:Hold G w0) (t:ByteArray) (ht:t.size < 4611686018427387904) :
  Calls Tryz.prog 192 #[.string t] w0 (Ret w0 G fun u G'=>∃ x,u=.tuple #[x,vi (prsE t)]∧RepV G' (.sl 3 ((prsS t).map LpD.dat)) x):=by
 refine eN [(0,_)] Tryz.func192 rfl Tryz.ntmps192 rfl rfl hG ?_;intro a H;refine c_seqR (fun _ K1=>?_);refine kH H (Ra rfl (Ra rfl ?_));clear H;intro a H;refine K1 _ _ ?_;clear K1;refine c_seq (fun _ K2=>?_);refine c_block ?_;refine c_seqR (fun _ K3=>?_);refine kH H (Rm rfl ?_);clear H;intro a H;refine s_lens un9cp H wn rfl rfl ?_;clear H;intro a H;refine kH H (Rc rfl (Ra rfl ?_));clear H;intro a H;refine K3 _ _ ?_;clear K3;refine c_cond H rfl ?_ ?_
 ·intro h5
  try have p5:=of_decide_eq_true h5
  refine c_seq (fun _ K4=>?_)
  have he:prsE t=10:=by rw [prsE,if_pos (by omega)]
  refine c_region ?_;refine kH H (Ra rfl (Ra rfl ?_));clear H;intro a H;refine wl_nil ?_;refine K4 _ _ ?_;clear K4;refine c_ret ?_;refine (leaveT H Tryz.results192 (.cons (rv_tmp H rfl) (.cons (rv_tmp H rfl) .nil)) ?_).1
  first
   | exact H.hp.ret ⟨_,by rw [he0],by rw [prsS,if_pos he0];exact hrep⟩
   | exact H.hp.ret ⟨_,by rw [he],by rw [prsS,if_neg (by rw [he];first|decide|assumption)];exact RepV.nil_ rfl (by decide)⟩
 intro h5
 try have p5:=of_decide_eq_false h5
 refine c_seqR (fun _ K5=>?_);refine kH H (Rm rfl ?_);clear H;intro a H;refine s_call en132cp H wn rfl (valid_spec _ _ H.hp.ro t ht) rfl ?_;clear H;rintro v11 _ a w ⟨rfl,rfl⟩ - H;refine kH H (Rn rfl (Ra rfl ?_));clear H;intro a H;refine K5 _ _ ?_;clear K5;refine c_cond H rfl ?_ ?_
 ·intro h9
  try have p9:=of_decide_eq_true h9
  refine c_seq (fun _ K6=>?_)
  have he:prsE t=12:=by rw [prsE,if_neg (by omega),if_pos (by simpa using h9)]
  refine c_region ?_;refine kH H (Ra rfl (Ra rfl ?_));clear H;intro a H;refine wl_nil ?_;refine K6 _ _ ?_;clear K6;refine c_ret ?_;refine (leaveT H Tryz.results192 (.cons (rv_tmp H rfl) (.cons (rv_tmp H rfl) .nil)) ?_).1
  first
   | exact H.hp.ret ⟨_,by rw [he0],by rw [prsS,if_pos he0];exact hrep⟩
   | exact H.hp.ret ⟨_,by rw [he],by rw [prsS,if_neg (by rw [he];first|decide|assumption)];exact RepV.nil_ rfl (by decide)⟩
 intro h9
 try have p9:=of_decide_eq_false h9
 refine c_seqR (fun _ K7=>?_);refine kH H (Rm rfl ?_);clear H;intro a H;refine s_bytes un9cp un263bld un5cp H wn rfl (by omega) rfl ?_;clear H;intro v15 G15 a w hm15 hv15 H;obtain ⟨A15,c15,rfl,-,-,-⟩:=hv15.slice;refine s_call en222lps H wn rfl (containsU_spec _ _ H.hp.ro _ ctlB _ _ hv15 (fun c _=>ctl_test _ c)) rfl ?_;clear H;rintro v16 G16 a w rfl hm16 H;refine kH H (Ra rfl ?_);clear H;intro a H;refine K7 _ _ ?_;clear K7;refine c_cond H rfl ?_ ?_
 ·intro h13
  try have p13:=of_decide_eq_true h13
  refine c_seq (fun _ K8=>?_)
  have he:prsE t=5:=by rw [prsE,if_neg (by omega),if_neg (by simpa using h9),if_pos h13]
  refine c_region ?_;refine kH H (Ra rfl (Ra rfl ?_));clear H;intro a H;refine wl_nil ?_;refine K8 _ _ ?_;clear K8;refine c_ret ?_;refine (leaveT H Tryz.results192 (.cons (rv_tmp H rfl) (.cons (rv_tmp H rfl) .nil)) ?_).1
  first
   | exact H.hp.ret ⟨_,by rw [he0],by rw [prsS,if_pos he0];exact hrep⟩
   | exact H.hp.ret ⟨_,by rw [he],by rw [prsS,if_neg (by rw [he];first|decide|assumption)];exact RepV.nil_ rfl (by decide)⟩
 intro h13
 try have p13:=of_decide_eq_false h13
 refine c_skip ?_;refine K2 _ _ ?_;clear K2;refine c_seqR (fun _ K9=>?_);refine kH H (Rm rfl ?_);clear H;intro a H;refine s_build sr321lps [_,_,_,_,_,_,_] H wn rfl rfl rfl rfl ?_;clear H;intro a H;refine s_box (cs:=[_,_,_,_,_,_,_]) H wn rfl rfl rfl ?_;clear H;intro b19 a w hb19 H;refine kH H (Ra rfl ?_);clear H;intro a H;refine K9 _ _ ?_;clear K9;refine c_seq (fun _ K10=>?_);refine c_seqR (fun _ K11=>?_);refine kH H (Rm rfl ?_);clear H;intro a H;refine s_callL en224lps (Li:=[]) (L:=[scX b19 t sc0 (.pointer none) (.slice none 0 0) (.slice none 0 0)]) H wn rfl (scan_spec _ [] [] _ b19 t _ _ _ ⟨.inl rfl,IsRow.nil,IsRow.nil⟩ (Hp.owns (Li:=[]) H.hp) (by omega)) rfl ?_;clear H;rintro v21 G21 L21 a w ⟨p',v',q',Lp',Lo',rfl,hR21⟩ hm21 H;dsimp only [List.nil_append] at H;obtain ⟨A21,c21,rfl,-,-⟩:=hR21.buf.shape;obtain ⟨B21,d21,rfl,-,-⟩:=hR21.prt.shape;refine K11 _ _ ?_;clear K11;refine c_seq (fun _ K12=>?_)
 have he:prsE t=scE (scR t):=by rw [prsE,if_neg (by omega),if_neg (by simpa using h9),if_neg (by simp [h13])]
 refine c_region ?_;refine kH H (Rm rfl (Rk rfl (Rf fd321_5lpc rfl (Ro ty22fst 0 rfl rfl (Rc rfl ?_)))));clear H;intro a H;refine wl_nil ?_;refine K12 _ _ ?_;clear K12;refine c_cond H rfl ?_ ?_
 ·intro h26
  try have p26:=of_decide_eq_true h26
  refine c_seq (fun _ K13=>?_);have H:=H.sub (T':=[(4,_)]) ⟨rfl,trivial⟩;refine c_drawI (hmx) [[],[0],[0,1],[0,1,2],[],[0,1,2,3,4]] [] (by kernel_rfl) (by kernel_rfl) (fun (ix_:Nat) (v:Value) (G:GH)=>match ix_ with|0=>v=.pointer (some ⟨b19,0,none⟩)|1=>v=.pointer (some ⟨b19,0,none⟩)|2=>v=.pointer (some ⟨b19,6,none⟩)|3=>v=vi (scE (scR t))|4=>v=.slice none 0 0|5=>v=vi (scE (scR t))|_=>True) (fun _ _ _ _ _ h=>h) H ?_ ?_
  ·clear H;refine al4 ?_ ?_ ?_ ?_ (allI_cons ?_ (allI_cons ?_ allI_nil))
   ·exact Op0 rfl fun _ _ _ _ _ _ H fin=>kH H (Rm rfl fun _ H=>fin H iJ rfl)
   ·exact Op1 0 27 rfl rfl fun _ _ _ _ _ _ H fin=>kH H (Rk rfl fun _ H=>fin H iJ rfl)
   ·exact Op1 1 28 rfl rfl fun _ _ _ _ _ _ H fin=>kH H (Rf fd321_5lpc rfl fun _ H=>fin H iJ rfl)
   ·exact Op1 2 29 rfl rfl fun _ _ _ _ _ _ H fin=>kH H (Ro ty22fst 0 rfl rfl fun _ H=>fin H iJ rfl)
   ·exact Op0 rfl fun _ _ _ _ _ _ H fin=>kH H (Ra rfl fun _ H=>fin H iJ rfl)
   exact Op1 3 30 rfl rfl fun _ _ _ _ _ _ H fin=>kH H (Ra rfl fun _ H=>fin H iJ rfl)
  clear H;intro a w G hGm10 H hv;obtain ⟨u2,hu2,hp2⟩:=hv 4 2 (by decide) rfl;obtain rfl:u2=.slice none 0 0:=hp2;have H:=H.addS hu2;obtain ⟨u3,hu3,hp3⟩:=hv 5 3 (by decide) rfl;obtain rfl:u3=vi (scE (scR t)):=hp3;have H:=H.addS hu3;clear hv;refine wl_nil ⟨rfl,?_⟩;refine K13 _ _ ?_;clear K13;refine c_ret ?_;refine (leaveT H Tryz.results192 (.cons (rv_tmp H rfl) (.cons (rv_tmp H rfl) .nil)) ?_).1
  first
   | exact H.hp.ret ⟨_,by rw [he0],by rw [prsS,if_pos he0];exact hrep⟩
   | exact H.hp.ret ⟨_,by rw [he],by rw [prsS,if_neg (by rw [he];first|decide|assumption)];exact RepV.nil_ rfl (by decide)⟩
 intro h26
 try have p26:=of_decide_eq_false h26
 refine c_skip ?_;refine K10 _ _ ?_;clear K10;refine c_seq (fun _ K14=>?_)
 have he0:prsE t=0:=by rw [he];omega
 have H:=(St.cast H (show _=[_]++(Lp'++Lo') from rfl)).perm (List.Perm.append_left _ List.perm_append_comm);have H:=St.un H;obtain ⟨Gr,hmr,hrep,H⟩:=St.giveRow (Li:=[_]++Lo') (Lo:=Lp') H hR21.prt (rows:=(flS (scR t).lit (scR t).parts).map LpD.dat) (by simp) (lp_cat _ _);dsimp only [List.cons_append,List.nil_append] at H;refine c_region ?_;refine kH H (Rm rfl (Rk rfl (Rf fd321_3lfl rfl (Ro ty288lfl 0 rfl rfl (Ra rfl (Ra rfl ?_))))));clear H;intro a H;refine wl_nil ?_;refine K14 _ _ ?_;clear K14;refine c_ret ?_;refine (leaveT H Tryz.results192 (.cons (rv_tmp H rfl) (.cons (rv_tmp H rfl) .nil)) ?_).1
 first
  | exact H.hp.ret ⟨_,by rw [he0],by rw [prsS,if_pos he0];exact hrep⟩
  | exact H.hp.ret ⟨_,by rw [he],by rw [prsS,if_neg (by rw [he];first|decide|assumption)];exact RepV.nil_ rfl (by decide)⟩
structure LvD where
 fmt:Int
 start:Int
 tmpl:ByteArray
 restart:Int
def LvD.dat (x:LvD):List Dat:=[li x.fmt,li x.start,.lf (.string x.tmpl),li x.restart]
abbrev LvD.cells (x:LvD):List Value:=[vi x.fmt,vi x.start,.string x.tmpl,vi x.restart]
theorem lv_of {G:GH} {x:LvD} {cs:List Value} (h:RepRow G x.dat cs):cs=x.cells:=by
 simp only [LvD.dat,RepRow,RepV] at h
 obtain ⟨_,_,rfl,⟨rfl,_⟩,_,_,rfl,⟨rfl,_⟩,_,_,rfl,⟨rfl,_⟩,_,_,rfl,⟨rfl,_⟩,rfl⟩:=h
 rfl
theorem indexLp_spec (G:GH) (w0:World) (hG:Hold G w0) (l:List LpD) (p:LpD→Bool) (v fv:Value) (hv:RepV G (.sl 3 (l.map LpD.dat)) v) (hf:∀ x∈l,Tester fv G x.dat (p x)) :
  Calls Tryz.prog 225 #[v,fv] w0 (Ret w0 G fun u G'=>u=vi (ixI (l.findIdx? p))):=by
 obtain ⟨A,c,rfl,hc1,hc2,hg⟩:=hv.slice;have hml:maxLen=9223372036854775807:=rfl;rw [List.length_map] at *;refine eN [(0,_),(1,_)] Tryz.func225 rfl Tryz.ntmps225 rfl rfl hG ?_;intro a H;refine c_seqR (fun _ K1=>?_);refine kH H (Ra rfl ?_);clear H;intro a H;refine K1 _ _ ?_;clear K1;refine c_seq (fun _ K2=>?_);refine c_seqR (fun _ K3=>?_);refine kH H (Rm rfl (Rl un288lfl rfl (Rm rfl ?_)));clear H;intro a H;refine K3 _ _ ?_;clear K3;refine c_block ?_;skip;refine c_loopS (ι:=Nat × GH) (Tc:=[(0,_),(1,_),(7,_)]) (Lc:=[]) (fun (gh:Nat × GH)=>[(8,vi gh.1)]) (fun (gh:Nat × GH)=>[]) (fun (gh:Nat × GH)=>gh.2) (fun (gh:Nat × GH)=>gh.1≤l.length∧(l.take gh.1).findIdx? p=none∧(∀ b o,G b=some o→gh.2 b=some o)) (fun (gh:Nat × GH)=>l.length - gh.1) ((0,G)) (by exact (H).sub ⟨rfl,rfl,rfl,rfl,trivial⟩) ?_ ?_
 ·exact ⟨by omega,rfl,fun _ _ h=>h⟩
 clear H;intro gh a w hI H;obtain ⟨k,g⟩:=gh;dsimp only at hI H;obtain ⟨hk,hno,hgm⟩:=hI;dsimp only [List.cons_append,List.nil_append,List.append_nil] at H;refine c_seqR (fun _ K4=>?_);refine kH H (Rc rfl ?_);clear H;intro a H;refine K4 _ _ ?_;clear K4;refine c_seq (fun _ K5=>?_);refine c_cond H rfl ?_ ?_
 ·intro h9
  try have p9:=of_decide_eq_true h9
  have hk2:k < l.length:=by omega
  obtain ⟨b,o,cs,rfl,hcl,hrow,hr⟩:=hg k l[k].dat (by simp [hk2]);obtain rfl:=lp_of hr;refine c_skip ?_;refine K5 _ _ ?_;clear K5;refine c_seq (fun _ K6=>?_);refine c_block ?_;refine c_seqR (fun _ K7=>?_);refine kH H (Rm rfl (Ra rfl ?_));clear H;intro a H;refine K7 _ _ ?_;clear K7;refine c_seqR (fun _ K8=>?_);refine kH H (Rm rfl (Rm rfl (Rm rfl ?_)));clear H;intro a H;refine s_index un288lfl ty293lfl _ H wn rfl rfl rfl (by first|assumption|omega) rfl ?_;clear H;intro a H;refine s_loada ty293lfl (cs:=l[k].cells) H wn rfl rfl (fun j v hj=>H.hp.gcell (gcell_mono hgm (hrow j v hj))) rfl ?_;clear H;intro a H;refine s_callv0 H wn rfl rfl (hf _ (List.getElem_mem hk2) _ _ _ hgm H.hp.ro (lp_row _ l[k])) rfl ?_;clear H;rintro v16 G16 a w rfl hm16 H;refine K8 _ _ ?_;clear K8;refine c_cond H rfl ?_ ?_
  ·intro h16
   try have p16:=of_decide_eq_true h16
   refine c_seqR (fun _ K9=>?_);refine kH H (Rm rfl (Ra rfl ?_));clear H;intro a H;refine K9 _ _ ?_;clear K9;refine c_ret ?_;refine lv H Tryz.results225 rfl ?_
   first
    | exact H.hp.ret (by rw [idx_stop hk2 hno h16];rfl)
    | exact H.hp.ret (by rw [show l.take k=l from List.take_of_length_le (by omega)] at hno;rw [hno];rfl)
  intro h16
  try have p16:=of_decide_eq_false h16
  refine c_skip ?_;refine K6 _ _ ?_;clear K6;refine c_region ?_;refine s_add _ H wn rfl rfl rfl (by omega) (by omega) rfl ?_;clear H;intro a H;refine kH H (Rm rfl ?_);clear H;intro a H;refine wl_nil ?_;refine loop_end ((k+1,G16)) (by exact (H).sub ⟨rfl,rfl,rfl,rfl,trivial⟩) ?_ ?_
  ·(try dsimp only);exact ⟨by omega,idx_next hk2 hno h16,fun b o h=>hm16 b o (hgm b o h)⟩
  first|omega|(dsimp only;omega)
 intro h9
 try have p9:=of_decide_eq_false h9
 refine c_exit ?_;refine K2 _ _ ?_;clear K2;refine c_seqR (fun _ K10=>?_);refine kH H (Ra rfl ?_);clear H;intro a H;refine K10 _ _ ?_;clear K10;refine c_ret ?_;refine lv H Tryz.results225 rfl ?_
 first
  | exact H.hp.ret (by rw [idx_stop hk2 hno h16];rfl)
  | exact H.hp.ret (by rw [show l.take k=l from List.take_of_length_le (by omega)] at hno;rw [hno];rfl)
theorem containsLp_spec (G:GH) (w0:World) (hG:Hold G w0) (l:List LpD) (p:LpD→Bool) (v fv:Value) (hv:RepV G (.sl 3 (l.map LpD.dat)) v) (hf:∀ x∈l,Tester fv G x.dat (p x)) :
  Calls Tryz.prog 193 #[v,fv] w0 (Ret w0 G fun u G'=>u=.bool (l.findIdx? p).isSome):=by
 obtain ⟨A,c,rfl,hc1,hc2,-⟩:=hv.slice;rw [List.length_map] at *;refine eN [(0,_),(1,_)] Tryz.func193 rfl Tryz.ntmps193 rfl rfl hG ?_;intro a H;refine c_seqR (fun _ K1=>?_);refine kH H (Ra rfl ?_);clear H;intro a H;refine K1 _ _ ?_;clear K1;refine c_seqR (fun _ K2=>?_);refine kH H (Rm rfl (Rm rfl ?_));clear H;intro a H;refine s_call en225lps H wn rfl (indexLp_spec _ _ H.hp.ro l p _ _ hv hf) rfl ?_;clear H;rintro v7 G7 a w rfl hm7 H;refine kH H (Rc rfl (Ra rfl ?_));clear H;intro a H;refine K2 _ _ ?_;clear K2;refine c_ret ?_;refine lv H Tryz.results193 rfl ?_;exact H.hp.ret (congrArg Value.bool (ixI_some _))
theorem lvl_test {G:GH} {bl:Nat} {k:Int} (hb:gcell G bl 0=some (vi k)) (x:LpD):Tester (.func (.func 194) #[] #[.pointer (some ⟨bl,0,none⟩)]) G x.dat (decide (k < x.level)):=by
 intro G1 w0 cs hm hG hr;refine callV_func (caps:=[.pointer (some ⟨bl,0,none⟩)]) en194lps ?_;obtain rfl:=lp_of hr;replace hb:=gcell_mono hm hb;refine eN [(0,_),(1,_)] Tryz.func194 rfl Tryz.ntmps194 rfl rfl hG ?_;intro a H;refine c_seqR (fun _ K1=>?_);refine s_box (cs:=[_,_,_]) H wn rfl rfl rfl ?_;clear H;intro b2 a w hb2 H;refine kH H (Ra rfl ?_);clear H;intro a H;refine K1 _ _ ?_;clear K1;refine c_seqR (fun _ K2=>?_);refine kH H (Rf fd293_1lps rfl (Ro ty3run 0 rfl rfl ?_));clear H;intro a H;refine s_load ty3run H wn rfl (H.hp.gcell (by assumption)) rfl ?_;clear H;intro a H;refine kH H (Rc rfl (Ra rfl ?_));clear H;intro a H;refine K2 _ _ ?_;clear K2;refine c_ret ?_;refine lv H Tryz.results194 rfl ?_;exact H.hp.ret rfl
/-- The error of a template for a level. -/
def ltE (t:ByteArray) (k:Int):Int:=if k < 1∨9 < k then 2 else if prsE t=0∧((prsS t).findIdx? fun x=>decide (k < x.level)).isSome=true then 6 else prsE t
theorem ltCheck_spec (G:GH) (w0:World) (hG:Hold G w0) (t:ByteArray) (k:Int) (ht:t.size < 4611686018427387904) :
  Calls Tryz.prog 131 #[.string t,vi k] w0 (Ret w0 G fun u G'=>u=vi (ltE t k)):=by
 refine eN [(0,_),(1,_)] Tryz.func131 rfl Tryz.ntmps131 rfl rfl hG ?_;intro a H;refine c_seqR (fun _ K1=>?_);refine s_box (cs:=[_]) H wn rfl rfl rfl ?_;clear H;intro b3 a w hb3 H;refine kH H (Ra rfl ?_);clear H;intro a H;refine K1 _ _ ?_;clear K1;refine c_seq (fun _ K2=>?_);refine c_seqR (fun _ K3=>?_);refine kH H (Ro ty3run 0 rfl rfl (Rc rfl (Rm rfl ?_)));clear H;intro a H;refine s_split H 9 rfl ?_ ?_
 ·intro h9
  try have p9:=of_decide_eq_true h9
  (iterate 2 refine s_skip H rfl rfl h9 rfl ?_;clear H;intro a H);refine s_pick_t H wn rfl h9 rfl rfl ?_;clear H;intro a H;refine K3 _ _ ?_;clear K3;refine c_cond_t H rfl rfl ?_;refine c_seqR (fun _ K4=>?_);refine kH H (Ra rfl ?_);clear H;intro a H;refine K4 _ _ ?_;clear K4;refine c_ret ?_;refine lv H Tryz.results131 rfl ?_
  exact H.hp.ret (congrArg vi (by unfold ltE;(repeat' split) <;> first|rfl|(exfalso;simp_all;done)|(exfalso;simp_all;omega)|(simp_all;done)))
 intro h9
 try have p9:=of_decide_eq_false h9
 refine s_load ty3run H (wg H rfl rfl h9) rfl (H.hp.ocell 0 rfl rfl) rfl ?_;clear H;intro a H;refine s_cmp H (wg H rfl rfl h9) rfl rfl rfl rfl ?_;clear H;intro a H;refine s_pick_f H wn rfl h9 rfl rfl ?_;clear H;intro a H;refine K3 _ _ ?_;clear K3;refine c_cond H rfl ?_ ?_
 ·intro h12
  try have p12:=of_decide_eq_true h12
  refine c_seqR (fun _ K5=>?_);refine kH H (Ra rfl ?_);clear H;intro a H;refine K5 _ _ ?_;clear K5;refine c_ret ?_;refine lv H Tryz.results131 rfl ?_
  exact H.hp.ret (congrArg vi (by unfold ltE;(repeat' split) <;> first|rfl|(exfalso;simp_all;done)|(exfalso;simp_all;omega)|(simp_all;done)))
 intro h12
 try have p12:=of_decide_eq_false h12
 refine c_skip ?_;refine K2 _ _ ?_;clear K2;refine c_seq (fun _ K6=>?_);obtain ⟨Ga,hma,hb3',H⟩:=H.giveBox
 have hbk:gcell Ga b3 0=some (vi k):=by unfold gcell;rw [hb3'];rfl
 refine c_region ?_;refine kH H (Rm rfl ?_);clear H;intro a H;refine s_call en192lps H wn rfl (parse_spec _ _ H.hp.ro t ht) rfl ?_;clear H;rintro v15 G15 a w ⟨x15,rfl,hx15⟩ hm15 H;obtain ⟨A15,c15,rfl,-,-,-⟩:=hx15.slice;replace hbk:=gcell_mono hm15 hbk;refine kH H (Rm rfl ?_);clear H;intro a H;(iterate 2 refine s_extract H wn rfl rfl rfl ?_;clear H;intro a H);refine kH H (Ra rfl (Ra rfl ?_));clear H;intro a H;refine wl_nil ?_;refine K6 _ _ ?_;clear K6;refine c_seq (fun _ K7=>?_);refine c_seqR (fun _ K8=>?_);refine kH H (Rm rfl (Rc rfl (Rm rfl ?_)));clear H;intro a H;refine s_split H 20 rfl ?_ ?_
 ·intro h20
  try have p20:=of_decide_eq_true h20
  refine s_move H (wg H rfl rfl h20) rfl rfl ?_;clear H;intro a H;refine s_makeFunc H (wg H rfl rfl h20) rfl rfl ?_;clear H;intro a H;refine s_call en193lps H (wg H rfl rfl h20) rfl (containsLp_spec _ _ H.hp.ro _ (fun x=>decide (k < x.level)) _ _ hx15 (fun x _=>lvl_test hbk x)) rfl ?_;clear H;rintro v23 G23 a w rfl hm23 H;refine s_pick_t H wn rfl h20 rfl rfl ?_;clear H;intro a H;refine K8 _ _ ?_;clear K8;refine c_cond H rfl ?_ ?_
  ·intro h24
   try have p24:=of_decide_eq_true h24
   refine c_region ?_;refine kH H (Ra rfl ?_);clear H;intro a H;refine wl_nil ?_;refine K7 _ _ ?_;clear K7;refine c_seqR (fun _ K9=>?_);refine kH H (Rm rfl (Ra rfl ?_));clear H;intro a H;refine K9 _ _ ?_;clear K9;refine c_ret ?_;refine lv H Tryz.results131 rfl ?_
   exact H.hp.ret (congrArg vi (by unfold ltE;(repeat' split) <;> first|rfl|(exfalso;simp_all;done)|(exfalso;simp_all;omega)|(simp_all;done)))
  intro h24
  try have p24:=of_decide_eq_false h24
  refine c_skip ?_;refine K7 _ _ ?_;clear K7;refine c_seqR (fun _ K10=>?_);refine kH H (Rm rfl (Ra rfl ?_));clear H;intro a H;refine K10 _ _ ?_;clear K10;refine c_ret ?_;refine lv H Tryz.results131 rfl ?_
  exact H.hp.ret (congrArg vi (by unfold ltE;(repeat' split) <;> first|rfl|(exfalso;simp_all;done)|(exfalso;simp_all;omega)|(simp_all;done)))
 intro h20
 try have p20:=of_decide_eq_false h20
 (iterate 3 refine s_skip H rfl rfl h20 rfl ?_;clear H;intro a H);refine s_pick_f H wn rfl h20 rfl rfl ?_;clear H;intro a H;refine K8 _ _ ?_;clear K8;refine c_cond_f H rfl rfl ?_;refine c_skip ?_;refine K7 _ _ ?_;clear K7;refine c_seqR (fun _ K11=>?_);refine kH H (Rm rfl (Ra rfl ?_));clear H;intro a H;refine K11 _ _ ?_;clear K11;refine c_ret ?_;refine lv H Tryz.results131 rfl ?_
 exact H.hp.ret (congrArg vi (by unfold ltE;(repeat' split) <;> first|rfl|(exfalso;simp_all;done)|(exfalso;simp_all;omega)|(simp_all;done)))
end
section
open Go.RowKit
theorem ty102lcl:Ty Tryz.prog 102 4 40 [.int .i64 0,.int .i64 0,.string ⟨#[]⟩,.int .i64 0] true:=⟨by kernel_rfl,by kernel_rfl⟩
theorem un103lcl:Tryz.prog.underlying 103=some (.slice 102):=by kernel_rfl
theorem fd102_0lcl:Fld Tryz.prog 102 0 0:=⟨by kernel_rfl⟩
theorem fd102_1lcl:Fld Tryz.prog 102 1 1:=⟨by kernel_rfl⟩
theorem fd102_2lcl:Fld Tryz.prog 102 2 2:=⟨by kernel_rfl⟩
theorem en131lcl:∀ args w,(callFunc 131 args).run Tryz.prog w=.ok (.enter 131 args) w:=enters Tryz.func131 rfl (by kernel_rfl)
theorem fd102_3lcl:Fld Tryz.prog 102 3 3:=⟨by kernel_rfl⟩
def clvF:Nat→List LvD→Int
 | _,[]=>0
 | i,x :: r=>if x.fmt < 1∨7 < x.fmt then 3 else if x.start < 0∨32767 < x.start then 2 else if ltE x.tmpl ((i+1:Nat):Int)≠0 then ltE x.tmpl ((i+1:Nat):Int) else if x.restart < 0∨(i:Int) < x.restart then 5 else clvF (i+1) r
/-- The error of the levels of a list. -/
def clvE (l:List LvD):Int:=if l.length=0 then 11 else if 9 < l.length then 9 else clvF 0 l
theorem clvF_at {l:List LvD} {k:Nat} (h:k < l.length):clvF k (l.drop k)=if l[k].fmt < 1∨7 < l[k].fmt then 3 else if l[k].start < 0∨32767 < l[k].start then 2 else if ltE l[k].tmpl ((k+1:Nat):Int)≠0 then ltE l[k].tmpl ((k+1:Nat):Int) else if l[k].restart < 0∨(k:Int) < l[k].restart then 5 else clvF (k+1) (l.drop (k+1)):=by
 rw [List.drop_eq_getElem_cons h,clvF]
theorem checkLevels_spec (G:GH) (w0:World) (hG:Hold G w0) (l:List LvD) (v:Value) (hv:RepV G (.sl 4 (l.map LvD.dat)) v) (ht:∀ x∈l,x.tmpl.size < 4611686018427387904) :
  Calls Tryz.prog 57 #[v] w0 (Ret w0 G fun u G'=>u=vi (clvE l)):=by
 obtain ⟨A,c,rfl,hc1,hc2,hg⟩:=hv.slice;have hml:maxLen=9223372036854775807:=rfl;rw [List.length_map] at *;refine eN [(0,_)] Tryz.func57 rfl Tryz.ntmps57 rfl rfl hG ?_;intro a H;refine c_seqR (fun _ K1=>?_);refine kH H (Ra rfl ?_);clear H;intro a H;refine K1 _ _ ?_;clear K1;refine c_seq (fun _ K2=>?_);refine c_block ?_;refine c_seqR (fun _ K3=>?_);refine kH H (Rm rfl (Rl un103lcl rfl (Rc rfl (Ra rfl ?_))));clear H;intro a H;refine K3 _ _ ?_;clear K3;refine c_cond H rfl ?_ ?_
 ·intro h6
  try have p6:=of_decide_eq_true h6
  refine c_seqR (fun _ K4=>?_);refine kH H (Ra rfl ?_);clear H;intro a H;refine K4 _ _ ?_;clear K4;refine c_ret ?_;refine lv H Tryz.results57 rfl ?_
  first
   | exact H.hp.ret (congrArg vi (by rw [clvE,if_pos (by omega)]))
   | exact H.hp.ret (congrArg vi (by rw [clvE,if_neg (by omega),if_pos (by omega)]))
   | exact H.hp.ret (congrArg vi (by rw [clvE,if_neg (by omega),if_neg (by omega),← he,clvF_at hk2,if_pos (by omega)]))
   | exact H.hp.ret (congrArg vi (by rw [clvE,if_neg (by omega),if_neg (by omega),← he,clvF_at hk2,if_neg (by omega),if_pos (by omega)]))
   | exact H.hp.ret (congrArg vi (by rw [clvE,if_neg (by omega),if_neg (by omega),← he,clvF_at hk2,if_neg (by omega),if_neg (by omega),if_pos p45]))
   | exact H.hp.ret (congrArg vi (by rw [clvE,if_neg (by omega),if_neg (by omega),← he,clvF_at hk2,if_neg (by omega),if_neg (by omega),if_neg p45,if_pos (by omega)]))
   | exact H.hp.ret (congrArg vi (by rw [clvE,if_neg (by omega),if_neg (by omega),← he,List.drop_of_length_le (by omega)];rfl))
 intro h6
 try have p6:=of_decide_eq_false h6
 refine c_seqR (fun _ K5=>?_);refine kH H (Rm rfl (Rl un103lcl rfl (Rc rfl (Ra rfl ?_))));clear H;intro a H;refine K5 _ _ ?_;clear K5;refine c_cond H rfl ?_ ?_
 ·intro h10
  try have p10:=of_decide_eq_true h10
  refine c_seqR (fun _ K6=>?_);refine kH H (Ra rfl ?_);clear H;intro a H;refine K6 _ _ ?_;clear K6;refine c_ret ?_;refine lv H Tryz.results57 rfl ?_
  first
   | exact H.hp.ret (congrArg vi (by rw [clvE,if_pos (by omega)]))
   | exact H.hp.ret (congrArg vi (by rw [clvE,if_neg (by omega),if_pos (by omega)]))
   | exact H.hp.ret (congrArg vi (by rw [clvE,if_neg (by omega),if_neg (by omega),← he,clvF_at hk2,if_pos (by omega)]))
   | exact H.hp.ret (congrArg vi (by rw [clvE,if_neg (by omega),if_neg (by omega),← he,clvF_at hk2,if_neg (by omega),if_pos (by omega)]))
   | exact H.hp.ret (congrArg vi (by rw [clvE,if_neg (by omega),if_neg (by omega),← he,clvF_at hk2,if_neg (by omega),if_neg (by omega),if_pos p45]))
   | exact H.hp.ret (congrArg vi (by rw [clvE,if_neg (by omega),if_neg (by omega),← he,clvF_at hk2,if_neg (by omega),if_neg (by omega),if_neg p45,if_pos (by omega)]))
   | exact H.hp.ret (congrArg vi (by rw [clvE,if_neg (by omega),if_neg (by omega),← he,List.drop_of_length_le (by omega)];rfl))
 intro h10
 try have p10:=of_decide_eq_false h10
 refine c_skip ?_;refine K2 _ _ ?_;clear K2;refine c_seq (fun _ K7=>?_);refine c_seqR (fun _ K8=>?_);refine kH H (Rm rfl (Rl un103lcl rfl (Rm rfl ?_)));clear H;intro a H;refine K8 _ _ ?_;clear K8;refine c_block ?_;skip;refine c_loopS (ι:=Nat × GH) (Tc:=[(14,_),(15,_)]) (Lc:=[]) (fun (gh:Nat × GH)=>[(16,vi gh.1)]) (fun (gh:Nat × GH)=>[]) (fun (gh:Nat × GH)=>gh.2) (fun (gh:Nat × GH)=>gh.1≤l.length∧clvF gh.1 (l.drop gh.1)=clvF 0 l∧(∀ b o,G b=some o→gh.2 b=some o)) (fun (gh:Nat × GH)=>l.length - gh.1) ((0,G)) (by exact (H).sub ⟨rfl,rfl,rfl,trivial⟩) ?_ ?_
 ·exact ⟨Nat.zero_le _,rfl,fun _ _ h=>h⟩
 clear H;intro gh a w hI H;obtain ⟨k,g⟩:=gh;dsimp only at hI H;obtain ⟨hk,he,hgm⟩:=hI;dsimp only [List.cons_append,List.nil_append,List.append_nil] at H;refine c_seqR (fun _ K9=>?_);refine kH H (Rc rfl ?_);clear H;intro a H;refine K9 _ _ ?_;clear K9;refine c_seq (fun _ K10=>?_);refine c_cond H rfl ?_ ?_
 ·intro h17
  try have p17:=of_decide_eq_true h17
  have hk2:k < l.length:=by omega
  obtain ⟨b,o,cs,rfl,hcl,hrow,hr⟩:=hg k l[k].dat (by simp [hk2]);obtain rfl:=lv_of hr;refine c_skip ?_;refine K10 _ _ ?_;clear K10;refine c_seq (fun _ K11=>?_);refine c_block ?_;refine c_seqR (fun _ K12=>?_);refine kH H (Rm rfl ?_);clear H;intro a H;refine s_index un103lcl ty102lcl _ H wn rfl rfl rfl (by first|assumption|omega) rfl ?_;clear H;intro a H;refine s_loada ty102lcl (cs:=l[k].cells) H wn rfl rfl (fun j v hj=>H.hp.gcell (gcell_mono hgm (hrow j v hj))) rfl ?_;clear H;intro a H;refine s_alloc ty102lcl H wn rfl ?_;clear H;intro b4 a w hb4 H;refine kH H (Ra rfl ?_);clear H;intro a H;refine s_store ty102lcl 0 (vs:=[_,_,_,_]) _ H wn rfl rfl rfl rfl rfl rfl rfl rfl ?_;clear H;intro w H;dsimp only [List.set,setRow] at H;refine K12 _ _ ?_;clear K12;refine c_seq (fun _ K13=>?_);refine c_block ?_;refine c_seqR (fun _ K14=>?_);refine kH H (Rf fd102_0lcl rfl (Ro ty3run 0 rfl rfl (Rc rfl (Rm rfl ?_))));clear H;intro a H;refine s_split H 25 rfl ?_ ?_
  ·intro h25
   try have p25:=of_decide_eq_true h25
   (iterate 3 refine s_skip H rfl rfl h25 rfl ?_;clear H;intro a H);refine s_pick_t H wn rfl h25 rfl rfl ?_;clear H;intro a H;refine kH H (Ra rfl ?_);clear H;intro a H;refine K14 _ _ ?_;clear K14;refine c_cond_t H rfl rfl ?_;refine c_seqR (fun _ K15=>?_);refine kH H (Ra rfl ?_);clear H;intro a H;refine K15 _ _ ?_;clear K15;refine c_ret ?_;refine lv H Tryz.results57 rfl ?_
   first
    | exact H.hp.ret (congrArg vi (by rw [clvE,if_pos (by omega)]))
    | exact H.hp.ret (congrArg vi (by rw [clvE,if_neg (by omega),if_pos (by omega)]))
    | exact H.hp.ret (congrArg vi (by rw [clvE,if_neg (by omega),if_neg (by omega),← he,clvF_at hk2,if_pos (by omega)]))
    | exact H.hp.ret (congrArg vi (by rw [clvE,if_neg (by omega),if_neg (by omega),← he,clvF_at hk2,if_neg (by omega),if_pos (by omega)]))
    | exact H.hp.ret (congrArg vi (by rw [clvE,if_neg (by omega),if_neg (by omega),← he,clvF_at hk2,if_neg (by omega),if_neg (by omega),if_pos p45]))
    | exact H.hp.ret (congrArg vi (by rw [clvE,if_neg (by omega),if_neg (by omega),← he,clvF_at hk2,if_neg (by omega),if_neg (by omega),if_neg p45,if_pos (by omega)]))
    | exact H.hp.ret (congrArg vi (by rw [clvE,if_neg (by omega),if_neg (by omega),← he,List.drop_of_length_le (by omega)];rfl))
  intro h25
  try have p25:=of_decide_eq_false h25
  refine s_field fd102_0lcl H (wg H rfl rfl h25) rfl rfl ?_;clear H;intro a H;refine s_load ty3run H (wg H rfl rfl h25) rfl (H.hp.ocell 0 rfl rfl) rfl ?_;clear H;intro a H;refine s_cmp H (wg H rfl rfl h25) rfl rfl rfl rfl ?_;clear H;intro a H;refine s_pick_f H wn rfl h25 rfl rfl ?_;clear H;intro a H;refine kH H (Ra rfl ?_);clear H;intro a H;refine K14 _ _ ?_;clear K14;refine c_cond H rfl ?_ ?_
  ·intro h21
   try have p21:=of_decide_eq_true h21
   refine c_seqR (fun _ K16=>?_);refine kH H (Ra rfl ?_);clear H;intro a H;refine K16 _ _ ?_;clear K16;refine c_ret ?_;refine lv H Tryz.results57 rfl ?_
   first
    | exact H.hp.ret (congrArg vi (by rw [clvE,if_pos (by omega)]))
    | exact H.hp.ret (congrArg vi (by rw [clvE,if_neg (by omega),if_pos (by omega)]))
    | exact H.hp.ret (congrArg vi (by rw [clvE,if_neg (by omega),if_neg (by omega),← he,clvF_at hk2,if_pos (by omega)]))
    | exact H.hp.ret (congrArg vi (by rw [clvE,if_neg (by omega),if_neg (by omega),← he,clvF_at hk2,if_neg (by omega),if_pos (by omega)]))
    | exact H.hp.ret (congrArg vi (by rw [clvE,if_neg (by omega),if_neg (by omega),← he,clvF_at hk2,if_neg (by omega),if_neg (by omega),if_pos p45]))
    | exact H.hp.ret (congrArg vi (by rw [clvE,if_neg (by omega),if_neg (by omega),← he,clvF_at hk2,if_neg (by omega),if_neg (by omega),if_neg p45,if_pos (by omega)]))
    | exact H.hp.ret (congrArg vi (by rw [clvE,if_neg (by omega),if_neg (by omega),← he,List.drop_of_length_le (by omega)];rfl))
  intro h21
  try have p21:=of_decide_eq_false h21
  refine c_seqR (fun _ K17=>?_);refine kH H (Rf fd102_1lcl rfl (Ro ty3run 0 rfl rfl (Rc rfl (Rm rfl ?_))));clear H;intro a H;refine s_split H 34 rfl ?_ ?_
  ·intro h34
   try have p34:=of_decide_eq_true h34
   (iterate 3 refine s_skip H rfl rfl h34 rfl ?_;clear H;intro a H);refine s_pick_t H wn rfl h34 rfl rfl ?_;clear H;intro a H;refine kH H (Ra rfl ?_);clear H;intro a H;refine K17 _ _ ?_;clear K17;refine c_cond_t H rfl rfl ?_;refine c_seqR (fun _ K18=>?_);refine kH H (Ra rfl ?_);clear H;intro a H;refine K18 _ _ ?_;clear K18;refine c_ret ?_;refine lv H Tryz.results57 rfl ?_
   first
    | exact H.hp.ret (congrArg vi (by rw [clvE,if_pos (by omega)]))
    | exact H.hp.ret (congrArg vi (by rw [clvE,if_neg (by omega),if_pos (by omega)]))
    | exact H.hp.ret (congrArg vi (by rw [clvE,if_neg (by omega),if_neg (by omega),← he,clvF_at hk2,if_pos (by omega)]))
    | exact H.hp.ret (congrArg vi (by rw [clvE,if_neg (by omega),if_neg (by omega),← he,clvF_at hk2,if_neg (by omega),if_pos (by omega)]))
    | exact H.hp.ret (congrArg vi (by rw [clvE,if_neg (by omega),if_neg (by omega),← he,clvF_at hk2,if_neg (by omega),if_neg (by omega),if_pos p45]))
    | exact H.hp.ret (congrArg vi (by rw [clvE,if_neg (by omega),if_neg (by omega),← he,clvF_at hk2,if_neg (by omega),if_neg (by omega),if_neg p45,if_pos (by omega)]))
    | exact H.hp.ret (congrArg vi (by rw [clvE,if_neg (by omega),if_neg (by omega),← he,List.drop_of_length_le (by omega)];rfl))
  intro h34
  try have p34:=of_decide_eq_false h34
  refine s_field fd102_1lcl H (wg H rfl rfl h34) rfl rfl ?_;clear H;intro a H;refine s_load ty3run H (wg H rfl rfl h34) rfl (H.hp.ocell 0 rfl rfl) rfl ?_;clear H;intro a H;refine s_cmp H (wg H rfl rfl h34) rfl rfl rfl rfl ?_;clear H;intro a H;refine s_pick_f H wn rfl h34 rfl rfl ?_;clear H;intro a H;refine kH H (Ra rfl ?_);clear H;intro a H;refine K17 _ _ ?_;clear K17;refine c_cond H rfl ?_ ?_
  ·intro h30
   try have p30:=of_decide_eq_true h30
   refine c_seqR (fun _ K19=>?_);refine kH H (Ra rfl ?_);clear H;intro a H;refine K19 _ _ ?_;clear K19;refine c_ret ?_;refine lv H Tryz.results57 rfl ?_
   first
    | exact H.hp.ret (congrArg vi (by rw [clvE,if_pos (by omega)]))
    | exact H.hp.ret (congrArg vi (by rw [clvE,if_neg (by omega),if_pos (by omega)]))
    | exact H.hp.ret (congrArg vi (by rw [clvE,if_neg (by omega),if_neg (by omega),← he,clvF_at hk2,if_pos (by omega)]))
    | exact H.hp.ret (congrArg vi (by rw [clvE,if_neg (by omega),if_neg (by omega),← he,clvF_at hk2,if_neg (by omega),if_pos (by omega)]))
    | exact H.hp.ret (congrArg vi (by rw [clvE,if_neg (by omega),if_neg (by omega),← he,clvF_at hk2,if_neg (by omega),if_neg (by omega),if_pos p45]))
    | exact H.hp.ret (congrArg vi (by rw [clvE,if_neg (by omega),if_neg (by omega),← he,clvF_at hk2,if_neg (by omega),if_neg (by omega),if_neg p45,if_pos (by omega)]))
    | exact H.hp.ret (congrArg vi (by rw [clvE,if_neg (by omega),if_neg (by omega),← he,List.drop_of_length_le (by omega)];rfl))
  intro h30
  try have p30:=of_decide_eq_false h30
  refine c_skip ?_;refine K13 _ _ ?_;clear K13;refine c_seq (fun _ K20=>?_);refine c_seqR (fun _ K21=>?_);refine kH H (Rf fd102_2lcl rfl (Ro ty9run 0 rfl rfl (Rm rfl ?_)));clear H;intro a H;refine s_add _ H wn rfl rfl rfl (by omega) (by omega) rfl ?_;clear H;intro a H;rw [show ((k:Int)+1)=((k+1:Nat):Int) from rfl] at H;refine s_call en131lcl H wn rfl (ltCheck_spec _ _ H.hp.ro l[k].tmpl ((k+1:Nat):Int) (ht _ (List.getElem_mem hk2))) rfl ?_;clear H;rintro v43 G43 a w rfl hm43 H;refine kH H (Ra rfl ?_);clear H;intro a H;refine K21 _ _ ?_;clear K21;refine c_seqR (fun _ K22=>?_);refine kH H (Rm rfl (Rc rfl ?_));clear H;intro a H;refine K22 _ _ ?_;clear K22;refine c_cond H rfl ?_ ?_
  ·intro h45
   try have p45:=of_decide_eq_true h45
   refine c_seqR (fun _ K23=>?_);refine kH H (Rm rfl (Ra rfl ?_));clear H;intro a H;refine K23 _ _ ?_;clear K23;refine c_ret ?_;refine lv H Tryz.results57 rfl ?_
   first
    | exact H.hp.ret (congrArg vi (by rw [clvE,if_pos (by omega)]))
    | exact H.hp.ret (congrArg vi (by rw [clvE,if_neg (by omega),if_pos (by omega)]))
    | exact H.hp.ret (congrArg vi (by rw [clvE,if_neg (by omega),if_neg (by omega),← he,clvF_at hk2,if_pos (by omega)]))
    | exact H.hp.ret (congrArg vi (by rw [clvE,if_neg (by omega),if_neg (by omega),← he,clvF_at hk2,if_neg (by omega),if_pos (by omega)]))
    | exact H.hp.ret (congrArg vi (by rw [clvE,if_neg (by omega),if_neg (by omega),← he,clvF_at hk2,if_neg (by omega),if_neg (by omega),if_pos p45]))
    | exact H.hp.ret (congrArg vi (by rw [clvE,if_neg (by omega),if_neg (by omega),← he,clvF_at hk2,if_neg (by omega),if_neg (by omega),if_neg p45,if_pos (by omega)]))
    | exact H.hp.ret (congrArg vi (by rw [clvE,if_neg (by omega),if_neg (by omega),← he,List.drop_of_length_le (by omega)];rfl))
  intro h45
  try have p45:=of_decide_eq_false h45
  refine c_skip ?_;refine K20 _ _ ?_;clear K20;refine c_seqR (fun _ K24=>?_);refine kH H (Rf fd102_3lcl rfl (Ro ty3run 0 rfl rfl (Rc rfl (Rm rfl ?_))));clear H;intro a H;refine s_split H 50 rfl ?_ ?_
  ·intro h50
   try have p50:=of_decide_eq_true h50
   (iterate 4 refine s_skip H rfl rfl h50 rfl ?_;clear H;intro a H);refine s_pick_t H wn rfl h50 rfl rfl ?_;clear H;intro a H;refine K24 _ _ ?_;clear K24;refine c_cond_t H rfl rfl ?_;refine c_seqR (fun _ K25=>?_);refine kH H (Ra rfl ?_);clear H;intro a H;refine K25 _ _ ?_;clear K25;refine c_ret ?_;refine lv H Tryz.results57 rfl ?_
   first
    | exact H.hp.ret (congrArg vi (by rw [clvE,if_pos (by omega)]))
    | exact H.hp.ret (congrArg vi (by rw [clvE,if_neg (by omega),if_pos (by omega)]))
    | exact H.hp.ret (congrArg vi (by rw [clvE,if_neg (by omega),if_neg (by omega),← he,clvF_at hk2,if_pos (by omega)]))
    | exact H.hp.ret (congrArg vi (by rw [clvE,if_neg (by omega),if_neg (by omega),← he,clvF_at hk2,if_neg (by omega),if_pos (by omega)]))
    | exact H.hp.ret (congrArg vi (by rw [clvE,if_neg (by omega),if_neg (by omega),← he,clvF_at hk2,if_neg (by omega),if_neg (by omega),if_pos p45]))
    | exact H.hp.ret (congrArg vi (by rw [clvE,if_neg (by omega),if_neg (by omega),← he,clvF_at hk2,if_neg (by omega),if_neg (by omega),if_neg p45,if_pos (by omega)]))
    | exact H.hp.ret (congrArg vi (by rw [clvE,if_neg (by omega),if_neg (by omega),← he,List.drop_of_length_le (by omega)];rfl))
  intro h50
  try have p50:=of_decide_eq_false h50
  refine s_field fd102_3lcl H (wg H rfl rfl h50) rfl rfl ?_;clear H;intro a H;refine s_load ty3run H (wg H rfl rfl h50) rfl (H.hp.ocell 0 rfl rfl) rfl ?_;clear H;intro a H;refine s_move H (wg H rfl rfl h50) rfl rfl ?_;clear H;intro a H;refine s_cmp H (wg H rfl rfl h50) rfl rfl rfl rfl ?_;clear H;intro a H;refine s_pick_f H wn rfl h50 rfl rfl ?_;clear H;intro a H;refine K24 _ _ ?_;clear K24;refine c_cond H rfl ?_ ?_
  ·intro h55
   try have p55:=of_decide_eq_true h55
   refine c_seqR (fun _ K26=>?_);refine kH H (Ra rfl ?_);clear H;intro a H;refine K26 _ _ ?_;clear K26;refine c_ret ?_;refine lv H Tryz.results57 rfl ?_
   first
    | exact H.hp.ret (congrArg vi (by rw [clvE,if_pos (by omega)]))
    | exact H.hp.ret (congrArg vi (by rw [clvE,if_neg (by omega),if_pos (by omega)]))
    | exact H.hp.ret (congrArg vi (by rw [clvE,if_neg (by omega),if_neg (by omega),← he,clvF_at hk2,if_pos (by omega)]))
    | exact H.hp.ret (congrArg vi (by rw [clvE,if_neg (by omega),if_neg (by omega),← he,clvF_at hk2,if_neg (by omega),if_pos (by omega)]))
    | exact H.hp.ret (congrArg vi (by rw [clvE,if_neg (by omega),if_neg (by omega),← he,clvF_at hk2,if_neg (by omega),if_neg (by omega),if_pos p45]))
    | exact H.hp.ret (congrArg vi (by rw [clvE,if_neg (by omega),if_neg (by omega),← he,clvF_at hk2,if_neg (by omega),if_neg (by omega),if_neg p45,if_pos (by omega)]))
    | exact H.hp.ret (congrArg vi (by rw [clvE,if_neg (by omega),if_neg (by omega),← he,List.drop_of_length_le (by omega)];rfl))
  intro h55
  try have p55:=of_decide_eq_false h55
  refine c_skip ?_;refine K11 _ _ ?_;clear K11;refine c_region ?_;refine s_add _ H wn rfl rfl rfl (by omega) (by omega) rfl ?_;clear H;intro a H;refine kH H (Rm rfl ?_);clear H;intro a H;refine wl_nil ?_;refine loop_end ((k+1,G43)) (by exact (H.pickT (Pl:=[_]) (Pl':=[]) [] (by decide) rfl).sub ⟨rfl,rfl,rfl,trivial⟩) ?_ ?_
  ·(try dsimp only);exact ⟨by omega,by rw [clvF_at hk2,if_neg (by omega),if_neg (by omega),if_neg p45,if_neg (by omega)] at he;exact he,fun b o h=>hm43 b o (hgm b o h)⟩
  first|omega|(dsimp only;omega)
 intro h17
 try have p17:=of_decide_eq_false h17
 refine c_exit ?_;refine K7 _ _ ?_;clear K7;refine c_seqR (fun _ K27=>?_);refine kH H (Ra rfl ?_);clear H;intro a H;refine K27 _ _ ?_;clear K27;refine c_ret ?_;refine lv H Tryz.results57 rfl ?_
 first
  | exact H.hp.ret (congrArg vi (by rw [clvE,if_pos (by omega)]))
  | exact H.hp.ret (congrArg vi (by rw [clvE,if_neg (by omega),if_pos (by omega)]))
  | exact H.hp.ret (congrArg vi (by rw [clvE,if_neg (by omega),if_neg (by omega),← he,clvF_at hk2,if_pos (by omega)]))
  | exact H.hp.ret (congrArg vi (by rw [clvE,if_neg (by omega),if_neg (by omega),← he,clvF_at hk2,if_neg (by omega),if_pos (by omega)]))
  | exact H.hp.ret (congrArg vi (by rw [clvE,if_neg (by omega),if_neg (by omega),← he,clvF_at hk2,if_neg (by omega),if_neg (by omega),if_pos p45]))
  | exact H.hp.ret (congrArg vi (by rw [clvE,if_neg (by omega),if_neg (by omega),← he,clvF_at hk2,if_neg (by omega),if_neg (by omega),if_neg p45,if_pos (by omega)]))
  | exact H.hp.ret (congrArg vi (by rw [clvE,if_neg (by omega),if_neg (by omega),← he,List.drop_of_length_le (by omega)];rfl))
end
section
open Go.RowKit
theorem ty42dst:Ty Tryz.prog 42 1 24 [.slice none 0 0] false:=⟨by kernel_rfl,by kernel_rfl⟩
theorem un42dst:Tryz.prog.underlying 42=some (.slice 105):=by kernel_rfl
theorem ty105dst:Ty Tryz.prog 105 2 32 [.int .i64 0,.slice none 0 0] true:=⟨by kernel_rfl,by kernel_rfl⟩
theorem fd105_0dst:Fld Tryz.prog 105 0 0:=⟨by kernel_rfl⟩
theorem ty103dst:Ty Tryz.prog 103 1 24 [.slice none 0 0] false:=⟨by kernel_rfl,by kernel_rfl⟩
theorem en121dst:∀ args w,(callFunc 121 args).run Tryz.prog w=.ok (.enter 121 args) w:=enters Tryz.func121 rfl (by kernel_rfl)
theorem fd105_1dst:Fld Tryz.prog 105 1 1:=⟨by kernel_rfl⟩
theorem en57dst:∀ args w,(callFunc 57 args).run Tryz.prog w=.ok (.enter 57 args) w:=enters Tryz.func57 rfl (by kernel_rfl)
theorem en119dst:∀ args w,(callFunc 119 args).run Tryz.prog w=.ok (.enter 119 args) w:=enters Tryz.func119 rfl (by kernel_rfl)
theorem en122dst:∀ args w,(callFunc 122 args).run Tryz.prog w=.ok (.enter 122 args) w:=enters Tryz.func122 rfl (by kernel_rfl)
theorem en120dst:∀ args w,(callFunc 120 args).run Tryz.prog w=.ok (.enter 120 args) w:=enters Tryz.func120 rfl (by kernel_rfl)
structure LiD where
 id:Int
 levels:List LvD
def LiD.dat (x:LiD):List Dat:=[li x.id,.sl 4 (x.levels.map LvD.dat)]
structure CmD where
 id:Int
 parent:Int
 author:ByteArray
 time:Int
 text:ByteArray
 done:Bool
def CmD.dat (x:CmD):List Dat:=[li x.id,li x.parent,.lf (.string x.author),li x.time,.lf (.string x.text),.lf (.bool x.done)]
abbrev CmD.cells (x:CmD):List Value:=[vi x.id,vi x.parent,.string x.author,vi x.time,.string x.text,.bool x.done]
structure VaD where
 name:ByteArray
 value:ByteArray
def VaD.dat (x:VaD):List Dat:=[.lf (.string x.name),.lf (.string x.value)]
abbrev VaD.cells (x:VaD):List Value:=[.string x.name,.string x.value]
theorem cm_of {G:GH} {x:CmD} {cs:List Value} (h:RepRow G x.dat cs):cs=x.cells:=by
 simp only [CmD.dat,RepRow,RepV] at h
 obtain ⟨_,_,rfl,⟨rfl,_⟩,_,_,rfl,⟨rfl,_⟩,_,_,rfl,⟨rfl,_⟩,_,_,rfl,⟨rfl,_⟩,_,_,rfl,⟨rfl,_⟩,_,_,rfl,⟨rfl,_⟩,rfl⟩:=h
 rfl
theorem va_of {G:GH} {x:VaD} {cs:List Value} (h:RepRow G x.dat cs):cs=x.cells:=by
 simp only [VaD.dat,RepRow,RepV] at h
 obtain ⟨_,_,rfl,⟨rfl,_⟩,_,_,rfl,⟨rfl,_⟩,rfl⟩:=h
 rfl
theorem li_at {G:GH} {l:List LiD} {A:Option Addr} {n c k:Nat} (hv:RepV G (.sl 2 (l.map LiD.dat)) (.slice A n c)) (hk:k < l.length):∃ b o B d,A=some ⟨b,o,none⟩∧(∀ j u,[vi l[k].id,.slice B l[k].levels.length d][j]?=some u→gcell G b (o+k*2+j)=some u)∧RepV G (.sl 4 (l[k].levels.map LvD.dat)) (.slice B l[k].levels.length d):=by
 obtain ⟨A',c',he,_,_,hg⟩:=hv.slice
 injection he with e1 e2 e3
 subst e1;obtain ⟨b,o,cs,h1,h2,h3,h4⟩:=hg k l[k].dat (by simp [hk])
 simp only [LiD.dat,RepRow] at h4
 obtain ⟨v1,_,rfl,⟨rfl,-⟩,v2,_,rfl,hl,rfl⟩:∃ v vs,cs=v :: vs∧RepV G (li l[k].id) v∧∃ v2 vs2,vs=v2 :: vs2∧RepV G (.sl 4 (l[k].levels.map LvD.dat)) v2∧vs2=[]:=h4;obtain ⟨B,d,rfl,-,-,-⟩:=hl.slice;rw [List.length_map] at *;exact ⟨b,o,B,d,h1,h3,hl⟩
theorem lid_cb {G:GH} {bl:Nat} {l:List LiD} {A:Option Addr} {n c:Nat} (hb:gcell G bl 0=some (.slice A n c)) (hv:RepV G (.sl 2 (l.map LiD.dat)) (.slice A n c)):IxCb (.func (.func 122) #[] #[.pointer (some ⟨bl,0,none⟩)]) G l.length fun k=>(l[k]?.map LiD.id).getD 0:=by
 intro k hk G1 w0 hm hG;refine callV_func (caps:=[.pointer (some ⟨bl,0,none⟩)]) en122dst ?_;replace hb:=gcell_mono hm hb
 obtain rfl:n=l.length:=by have:=hv.len;simpa using this
 obtain ⟨b,o,B,d,rfl,hrow,-⟩:=li_at (hv.mono hm) hk;have hq:=hrow 0 _ rfl;refine eN [(0,_),(1,_)] Tryz.func122 rfl Tryz.ntmps122 rfl rfl hG ?_;intro a H;refine c_seqR (fun _ K1=>?_);refine kH H (Ra rfl ?_);clear H;intro a H;refine K1 _ _ ?_;clear K1;refine c_seqR (fun _ K2=>?_);refine s_load ty42dst H wn rfl (H.hp.gcell (by assumption)) rfl ?_;clear H;intro a H;refine kH H (Rm rfl ?_);clear H;intro a H;refine s_index un42dst ty105dst _ H wn rfl rfl rfl (by first|assumption|omega) rfl ?_;clear H;intro a H;refine kH H (Rf fd105_0dst rfl ?_);clear H;intro a H;refine s_load ty3run H wn rfl (H.hp.gcell (by assumption)) rfl ?_;clear H;intro a H;refine kH H (Ra rfl ?_);clear H;intro a H;refine K2 _ _ ?_;clear K2;refine c_ret ?_;refine lv H Tryz.results122 rfl ?_;exact H.hp.ret (by dsimp only;rw [List.getElem?_eq_getElem hk];rfl)
def lisE (l:List LiD) (i:Nat):Int:=firstE [incE (fun k=>(l[k]?.map LiD.id).getD 0) i,clvE ((l[i]?.map LiD.levels).getD [])]
theorem lis_cb {G:GH} {bl:Nat} {l:List LiD} {A:Option Addr} {n c:Nat} (hb:gcell G bl 0=some (.slice A n c)) (hv:RepV G (.sl 2 (l.map LiD.dat)) (.slice A n c)) (hl:l.length≤4294967296) (ht:∀ x∈l,∀ y∈x.levels,y.tmpl.size < 4611686018427387904):IxCb (.func (.func 120) #[] #[.pointer (some ⟨bl,0,none⟩)]) G l.length (lisE l):=by
 intro k hk G1 w0 hm hG;refine callV_func (caps:=[.pointer (some ⟨bl,0,none⟩)]) en120dst ?_;replace hb:=gcell_mono hm hb;replace hv:=hv.mono hm;have hcb:=lid_cb hb hv
 obtain rfl:n=l.length:=by have:=hv.len;simpa using this
 obtain ⟨b,o,B,d,rfl,hrow,hlv⟩:=li_at hv hk;have hq:=hrow 1 _ rfl
 have he:lisE l k=firstE [incE (fun k=>(l[k]?.map LiD.id).getD 0) k,clvE l[k].levels]:=by unfold lisE;rw [List.getElem?_eq_getElem hk];rfl
 refine eN [(0,_),(1,_)] Tryz.func120 rfl Tryz.ntmps120 rfl rfl hG ?_;intro a H;refine c_seqR (fun _ K1=>?_);refine kH H (Ra rfl ?_);clear H;intro a H;refine K1 _ _ ?_;clear K1;refine c_seq (fun _ K2=>?_);have H:=H.sub (T':=[(0,_),(1,_)]) ⟨rfl,rfl,trivial⟩;refine c_drawI (hmx) [[],[],[0,1],[],[],[3,4],[3,4,5],[3,4,5,6],(List.range 8),(List.range 9),(List.range 10),(List.range 11)] [9,10,11] (by kernel_rfl) (by kernel_rfl) (fun (ix_:Nat) (v:Value) (G:GH)=>match ix_ with|0=>v=vi k|1=>v=.func (.func 122) #[] #[.pointer (some ⟨bl,0,none⟩)]|2=>v=vi (incE (fun k=>(l[k]?.map LiD.id).getD 0) k)|3=>v=.slice (some ⟨b,o,none⟩) l.length c|4=>v=vi k|5=>v=.pointer (some ⟨b,o+k*2,none⟩)|6=>v=.pointer (some ⟨b,o+k*2+1,none⟩)|7=>v=.slice B l[k].levels.length d|8=>v=vi (clvE l[k].levels)|_=>True) (fun _ _ _ _ _ h=>h) H ?_ ?_
 ·clear H;refine al4 ?_ ?_ ?_ ?_ (al4 ?_ ?_ ?_ ?_ (al4 ?_ ?_ ?_ ?_ allI_nil))
  ·exact Op0 rfl fun _ _ _ _ _ _ H fin=>kH H (Rm rfl fun _ H=>fin H iJ rfl)
  ·refine Op0 rfl fun _ a w G1 hG HT H fin=>?_;refine s_makeFunc H wn rfl rfl ?_;clear H;intro a H;exact fin H iJ rfl
  ·refine Op2 0 4 1 5 rfl rfl fun _ a w G1 hG HT H fin=>?_;refine s_call en121dst H wn rfl (increasing_spec _ _ H.hp.ro k _ _ (by omega) (fun i hi=>(hcb.mono hG) i (by omega))) rfl ?_;clear H;rintro v6 G6 a w rfl hGm6 H;exact fin H hGm6 (rfl)
  ·refine Op0 rfl fun _ a w G1 hG HT H fin=>?_;refine s_load ty42dst H wn rfl (H.hp.gcell (gcell_mono hG hb)) rfl ?_;clear H;intro a H;exact fin H iJ rfl
  ·exact Op0 rfl fun _ _ _ _ _ _ H fin=>kH H (Rm rfl fun _ H=>fin H iJ rfl)
  ·refine Op2 3 7 4 8 rfl rfl fun _ a w G1 hG HT H fin=>?_;refine s_index un42dst ty105dst _ H wn rfl rfl rfl (by first|assumption|omega) rfl ?_;clear H;intro a H;exact fin H iJ rfl
  ·exact Op1 5 9 rfl rfl fun _ _ _ _ _ _ H fin=>kH H (Rf fd105_1dst rfl fun _ H=>fin H iJ rfl)
  ·refine Op1 6 10 rfl rfl fun _ a w G1 hG HT H fin=>?_;refine s_load ty103dst H wn rfl (H.hp.gcell (gcell_mono hG hq)) rfl ?_;clear H;intro a H;exact fin H iJ rfl
  ·refine Op1 7 11 rfl rfl fun _ a w G1 hG HT H fin=>?_;refine s_call en57dst H wn rfl (checkLevels_spec _ _ H.hp.ro _ _ (hlv.mono hG) (ht _ (List.getElem_mem hk))) rfl ?_;clear H;rintro v12 G12 a w rfl hGm12 H;exact fin H hGm12 (rfl)
  ·exact opB rfl
  ·exact opB rfl
  exact opB rfl
 clear H;intro a w G hGm1 H hv;obtain ⟨u6,hu6,hp6⟩:=hv 2 6 (by decide) rfl;obtain rfl:u6=vi (incE (fun k=>(l[k]?.map LiD.id).getD 0) k):=hp6;have H:=H.addS hu6;obtain ⟨u12,hu12,hp12⟩:=hv 8 12 (by decide) rfl;obtain rfl:u12=vi (clvE l[k].levels):=hp12;have H:=H.addS hu12;clear hv;refine s_buildSlice un221fst ty22fst [_,_] [_,_] H wn rfl rfl rfl rfl rfl (by intro i q h;match i,h with|0,h=>exact h|1,h=>exact h|n+2,h=>simp at h) rfl rfl ?_;clear H;intro b13 a w hb13 H;obtain ⟨G13,hm13,hb13',H⟩:=H.giveBox;refine s_call en52nam H wn rfl (first_spec1 _ _ H.hp.ro _ _ (two_rep hb13')) rfl ?_;clear H;rintro v14 _ a w ⟨rfl,rfl⟩ - H;refine kH H (Ra rfl ?_);clear H;intro a H;refine wl_nil ⟨rfl,?_⟩;refine K2 _ _ ?_;clear K2;refine c_ret ?_;refine lv H Tryz.results120 rfl ?_;exact H.hp.ret (by rw [he])
def chkLis (l:List LiD):Int:=firstE [whenE (decide (64 < (l.length:Int))) 9,allE (lisE l) (min l.length 64)]
theorem IxCb.le {fv:Value} {G:GH} {n m:Nat} {E:Nat→Int} (h:IxCb fv G n E) (hm:m≤n):IxCb fv G m E:=fun i hi=>h i (by omega)
theorem checkLists_spec (G:GH) (w0:World) (hG:Hold G w0) (l:List LiD) (v:Value) (hv:RepV G (.sl 2 (l.map LiD.dat)) v) (hl:l.length≤4294967296) (ht:∀ x∈l,∀ y∈x.levels,y.tmpl.size < 4611686018427387904) :
  Calls Tryz.prog 53 #[v] w0 (Ret w0 G fun u G'=>u=vi (chkLis l)):=by
 obtain ⟨A,c,rfl,hc1,hc2,-⟩:=hv.slice;rw [List.length_map] at *;refine eN [(0,_)] Tryz.func53 rfl Tryz.ntmps53 rfl rfl hG ?_;intro a H;refine c_seqR (fun _ K1=>?_);refine s_box (cs:=[_]) H wn rfl rfl rfl ?_;clear H;intro b1 a w hb1 H;refine kH H (Ra rfl ?_);clear H;intro a H;refine K1 _ _ ?_;clear K1;refine c_seq (fun _ K2=>?_);have H:=H.sub (T':=[(1,_)]) ⟨rfl,trivial⟩;obtain ⟨Ga,hma,hb1',H⟩:=H.giveBox
 have hbl:gcell Ga b1 0=some (.slice A l.length c):=by unfold gcell;rw [hb1'];rfl
 have hcb:=lis_cb hbl (hv.mono hma) hl ht;refine c_drawI (hmx) [[],[0],[0,1],[0,1,2],[],[4],[4,5],[],(List.range 8),(List.range 9),(List.range 10),(List.range 11)] [9,10,11] (by kernel_rfl) (by kernel_rfl) (fun (ix_:Nat) (v:Value) (G:GH)=>match ix_ with|0=>v=.slice A l.length c|1=>v=vi l.length|2=>v=.bool (decide (64 < (l.length:Int)))|3=>v=vi (whenE (decide (64 < (l.length:Int))) 9)|4=>v=.slice A l.length c|5=>v=vi l.length|6=>v=vi ((min l.length 64:Nat):Int)|7=>v=.func (.func 120) #[] #[.pointer (some ⟨b1,0,none⟩)]|8=>v=vi (allE (lisE l) (min l.length 64))|_=>True) (fun _ _ _ _ _ h=>h) H ?_ ?_
 ·clear H;refine al4 ?_ ?_ ?_ ?_ (al4 ?_ ?_ ?_ ?_ (al4 ?_ ?_ ?_ ?_ allI_nil))
  ·refine Op0 rfl fun _ a w G1 hG HT H fin=>?_;refine s_load ty42dst H wn rfl (H.hp.gcell (gcell_mono hG hbl)) rfl ?_;clear H;intro a H;exact fin H iJ rfl
  ·exact Op1 0 3 rfl rfl fun _ _ _ _ _ _ H fin=>kH H (Rl un42dst rfl fun _ H=>fin H iJ rfl)
  ·exact Op1 1 4 rfl rfl fun _ _ _ _ _ _ H fin=>kH H (Rc rfl fun _ H=>fin H iJ rfl)
  ·refine Op1 2 5 rfl rfl fun _ a w G1 hG HT H fin=>?_;refine s_call en65nam H wn rfl (when_spec _ _ H.hp.ro _ 9) rfl ?_;clear H;rintro v6 G6 a w ⟨rfl,-⟩ hGm6 H;exact fin H hGm6 (rfl)
  ·refine Op0 rfl fun _ a w G1 hG HT H fin=>?_;refine s_load ty42dst H wn rfl (H.hp.gcell (gcell_mono hG hbl)) rfl ?_;clear H;intro a H;exact fin H iJ rfl
  ·exact Op1 4 7 rfl rfl fun _ _ _ _ _ _ H fin=>kH H (Rl un42dst rfl fun _ H=>fin H iJ rfl)
  ·refine Op1 5 8 rfl rfl fun _ a w G1 hG HT H fin=>?_;refine s_min H wn rfl rfl rfl ?_;clear H;intro a H;exact fin H iJ (congrArg vi (by omega))
  ·refine Op0 rfl fun _ a w G1 hG HT H fin=>?_;refine s_makeFunc H wn rfl rfl ?_;clear H;intro a H;exact fin H iJ rfl
  ·refine Op2 6 9 7 10 rfl rfl fun _ a w G1 hG HT H fin=>?_;refine s_call en119dst H wn rfl (all_spec _ _ H.hp.ro (min l.length 64) (lisE l) _ (by omega) ((hcb.mono hG).le (Nat.min_le_left _ _))) rfl ?_;clear H;rintro v11 G11 a w rfl hGm11 H;exact fin H hGm11 (rfl)
  ·exact opB rfl
  ·exact opB rfl
  exact opB rfl
 clear H;intro a w G hGm1 H hv;obtain ⟨u6,hu6,hp6⟩:=hv 3 6 (by decide) rfl;obtain rfl:u6=vi (whenE (decide (64 < (l.length:Int))) 9):=hp6;have H:=H.addS hu6;obtain ⟨u11,hu11,hp11⟩:=hv 8 11 (by decide) rfl;obtain rfl:u11=vi (allE (lisE l) (min l.length 64)):=hp11;have H:=H.addS hu11;clear hv;refine s_buildSlice un221fst ty22fst [_,_] [_,_] H wn rfl rfl rfl rfl rfl (by intro i q h;match i,h with|0,h=>exact h|1,h=>exact h|n+2,h=>simp at h) rfl rfl ?_;clear H;intro b12 a w hb12 H;obtain ⟨G12,hm12,hb12',H⟩:=H.giveBox;refine s_call en52nam H wn rfl (first_spec1 _ _ H.hp.ro _ _ (two_rep hb12')) rfl ?_;clear H;rintro v13 _ a w ⟨rfl,rfl⟩ - H;refine kH H (Ra rfl ?_);clear H;intro a H;refine wl_nil ⟨rfl,?_⟩;refine K2 _ _ ?_;clear K2;refine c_ret ?_;refine lv H Tryz.results53 rfl ?_;exact H.hp.ret rfl
end
end Go.Proofs.YtlnhhlighgaapaaGreat
