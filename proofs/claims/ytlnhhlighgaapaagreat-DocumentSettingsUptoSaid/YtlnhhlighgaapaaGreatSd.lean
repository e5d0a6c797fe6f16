/-
  What the claim stands on, part 4: Package stylesheet: IsName, FindName, Find, is. Package stylesheet: own. Package document: checkComments. Maps from numbers to their places in a list. Ranges over functions that turn a block of their own. Ranges over functions that turn a block of their own and might never end by themselves. Package stylesheet: the chain of a style. Package stylesheet: Check. Package document: checkVars, CheckSettings. Package obeluslaw13: the model's checkSettings.
-/
import Derived.Test.YtlnhhlighgaapaaGreatSc
namespace Go.Proofs.YtlnhhlighgaapaaGreat
section
open Go.RowKit
theorem un41sty:Tryz.prog.underlying 41=some (.slice 100):=by kernel_rfl
theorem ty100sty:Ty Tryz.prog 100 6 72 [.int .i64 0,.int .i64 0,.string ⟨#[]⟩,.int .i64 0,.int .i64 0,.slice none 0 0] true:=⟨by kernel_rfl,by kernel_rfl⟩
theorem fd100_1sty:Fld Tryz.prog 100 1 1:=⟨by kernel_rfl⟩
theorem fd100_2sty:Fld Tryz.prog 100 2 2:=⟨by kernel_rfl⟩
theorem fd100_0sty:Fld Tryz.prog 100 0 0:=⟨by kernel_rfl⟩
theorem en212sty:∀ args w,(callFunc 212 args).run Tryz.prog w=.ok (.enter 212 args) w:=enters Tryz.func212 rfl (by kernel_rfl)
theorem en180sty:∀ args w,(callFunc 180 args).run Tryz.prog w=.ok (.enter 180 args) w:=enters Tryz.func180 rfl (by kernel_rfl)
theorem en213sty:∀ args w,(callFunc 213 args).run Tryz.prog w=.ok (.enter 213 args) w:=enters Tryz.func213 rfl (by kernel_rfl)
theorem en214sty:∀ args w,(callFunc 214 args).run Tryz.prog w=.ok (.enter 214 args) w:=enters Tryz.func214 rfl (by kernel_rfl)
structure StyleD where
 id:Int
 kind:Int
 name:ByteArray
 base:Int
 next:Int
 props:List PropD
def StyleD.dat (x:StyleD):List Dat:=[li x.id,li x.kind,.lf (.string x.name),li x.base,li x.next,.sl 2 (x.props.map PropD.dat)]
theorem style_of {G:GH} {x:StyleD} {cs:List Value} (h:RepRow G x.dat cs):∃ A c,cs=[vi x.id,vi x.kind,.string x.name,vi x.base,vi x.next,.slice A x.props.length c]∧RepV G (.sl 2 (x.props.map PropD.dat)) (.slice A x.props.length c):=by
 simp only [StyleD.dat,RepRow] at h
 obtain ⟨v1,_,rfl,h1,v2,_,rfl,h2,v3,_,rfl,h3,v4,_,rfl,h4,v5,_,rfl,h5,v6,_,rfl,h6,rfl⟩:=h
 simp only [RepV] at h1 h2 h3 h4 h5
 obtain ⟨rfl,-⟩:=h1;obtain ⟨rfl,-⟩:=h2;obtain ⟨rfl,-⟩:=h3;obtain ⟨rfl,-⟩:=h4;obtain ⟨rfl,-⟩:=h5;obtain ⟨A,c,rfl,-,-,-⟩:=h6.slice;rw [List.length_map] at *;exact ⟨A,c,rfl,h6⟩
theorem style_at {G:GH} {l:List StyleD} {A:Option Addr} {n c k:Nat} (hv:RepV G (.sl 6 (l.map StyleD.dat)) (.slice A n c)) (hk:k < l.length):∃ b o pA pc,A=some ⟨b,o,none⟩∧(∀ j u,[vi l[k].id,vi l[k].kind,.string l[k].name,vi l[k].base,vi l[k].next,.slice pA l[k].props.length pc][j]?=some u→gcell G b (o+k*6+j)=some u)∧RepV G (.sl 2 (l[k].props.map PropD.dat)) (.slice pA l[k].props.length pc) ∧
  RepRow G l[k].dat [vi l[k].id,vi l[k].kind,.string l[k].name,vi l[k].base,vi l[k].next,.slice pA l[k].props.length pc]:=by
 obtain ⟨A',c',he,_,_,hg⟩:=hv.slice
 injection he with e1 e2 e3
 subst e1;obtain ⟨b,o,cs,h1,h2,h3,h4⟩:=hg k l[k].dat (by simp [hk]);obtain ⟨pA,pc,rfl,hp⟩:=style_of h4;exact ⟨b,o,pA,pc,h1,h3,hp,h4⟩
def okB (x:Int):Bool:=decide (32≤x∧x≤126)
/-- Whether a string is the name of a style. -/
def nameF (s:ByteArray) (k:Nat):Bool:=(List.range k).all fun i=>okB (byteAt s i)
def isNameS (s:ByteArray):Bool:=decide (s.size≠0∧s.size≤40∧byteAt s 0≠32∧byteAt s (s.size - 1)≠32) && nameF s s.size
theorem nameF_succ (s:ByteArray) (k:Nat):nameF s (k+1)=(nameF s k && okB (byteAt s k)):=by simp [nameF,List.range_succ]
theorem nameF_no {s:ByteArray} {k:Nat} (hk:k < s.size) (h:okB (byteAt s k)=false):nameF s s.size=false:=by
 rw [nameF,List.all_eq_false];exact ⟨k,by simpa using hk,by simp [h]⟩
theorem isName_spec (G:GH) (w0:World) (hG:Hold G w0) (s:ByteArray) (hs:s.size≤4611686018427387904):Calls Tryz.prog 177 #[.string s] w0 (Ret w0 G fun u G'=>u=.bool (isNameS s)):=by
 refine eN [(0,_)] Tryz.func177 rfl Tryz.ntmps177 rfl rfl hG ?_;intro a H;refine c_seqR (fun _ K1=>?_);refine kH H (Ra rfl ?_);clear H;intro a H;refine K1 _ _ ?_;clear K1;refine c_seq (fun _ K2=>?_);refine c_seqR (fun _ K3=>?_);refine kH H (Rm rfl ?_);clear H;intro a H;refine s_lens un9cp H wn rfl rfl ?_;clear H;intro a H;refine kH H (Rc rfl (Rm rfl ?_));clear H;intro a H;refine s_split H 7 rfl ?_ ?_
 ·intro h7
  try have p7:=of_decide_eq_true h7
  (iterate 3 refine s_skip H rfl rfl h7 rfl ?_;clear H;intro a H);refine s_pick_t H wn rfl h7 rfl rfl ?_;clear H;intro a H;refine kH H (Rm rfl ?_);clear H;intro a H;(iterate 3 refine s_skip H rfl rfl rfl rfl ?_;clear H;intro a H);refine s_pick_t H wn rfl rfl rfl rfl ?_;clear H;intro a H;refine kH H (Rm rfl ?_);clear H;intro a H;(iterate 6 refine s_skip H rfl rfl rfl rfl ?_;clear H;intro a H);refine s_pick_t H wn rfl rfl rfl rfl ?_;clear H;intro a H;refine K3 _ _ ?_;clear K3;refine c_cond_t H rfl rfl ?_;refine c_seqR (fun _ K4=>?_);refine kH H (Ra rfl ?_);clear H;intro a H;refine K4 _ _ ?_;clear K4;refine c_ret ?_;refine lv H Tryz.results177 rfl ?_
  first
   | exact H.hp.ret (congrArg Value.bool (by rw [isNameS,decide_eq_false (by omega),Bool.false_and]))
   | exact H.hp.ret (congrArg Value.bool (by rw [isNameS,decide_eq_true (by omega),show s.size=k by omega,hno];rfl))
   | exact H.hp.ret (congrArg Value.bool (by rw [isNameS,nameF_no (k:=k) (by omega) (decide_eq_false (by omega)),Bool.and_false]))
 intro h7
 try have p7:=of_decide_eq_false h7
 refine s_move H (wg H rfl rfl h7) rfl rfl ?_;clear H;intro a H;refine s_lens un9cp H (wg H rfl rfl h7) rfl rfl ?_;clear H;intro a H;refine s_cmp H (wg H rfl rfl h7) rfl rfl rfl rfl ?_;clear H;intro a H;refine s_pick_f H wn rfl h7 rfl rfl ?_;clear H;intro a H;refine kH H (Rm rfl ?_);clear H;intro a H;refine s_split H 12 rfl ?_ ?_
 ·intro h12
  try have p12:=of_decide_eq_true h12
  (iterate 3 refine s_skip H rfl rfl h12 rfl ?_;clear H;intro a H);refine s_pick_t H wn rfl h12 rfl rfl ?_;clear H;intro a H;refine kH H (Rm rfl ?_);clear H;intro a H;(iterate 6 refine s_skip H rfl rfl rfl rfl ?_;clear H;intro a H);refine s_pick_t H wn rfl rfl rfl rfl ?_;clear H;intro a H;refine K3 _ _ ?_;clear K3;refine c_cond_t H rfl rfl ?_;refine c_seqR (fun _ K5=>?_);refine kH H (Ra rfl ?_);clear H;intro a H;refine K5 _ _ ?_;clear K5;refine c_ret ?_;refine lv H Tryz.results177 rfl ?_
  first
   | exact H.hp.ret (congrArg Value.bool (by rw [isNameS,decide_eq_false (by omega),Bool.false_and]))
   | exact H.hp.ret (congrArg Value.bool (by rw [isNameS,decide_eq_true (by omega),show s.size=k by omega,hno];rfl))
   | exact H.hp.ret (congrArg Value.bool (by rw [isNameS,nameF_no (k:=k) (by omega) (decide_eq_false (by omega)),Bool.and_false]))
 intro h12
 try have p12:=of_decide_eq_false h12
 refine s_move H (wg H rfl rfl h12) rfl rfl ?_;clear H;intro a H;refine s_indexs 0 un9cp H (wg H rfl rfl h12) rfl rfl rfl (by omega) rfl ?_;clear H;intro a H;rw [← byteAt_lt] at H;refine s_cmp H (wg H rfl rfl h12) rfl rfl rfl rfl ?_;clear H;intro a H;refine s_pick_f H wn rfl h12 rfl rfl ?_;clear H;intro a H;refine kH H (Rm rfl ?_);clear H;intro a H;refine s_split H 17 rfl ?_ ?_
 ·intro h17
  try have p17:=of_decide_eq_true h17
  (iterate 6 refine s_skip H rfl rfl h17 rfl ?_;clear H;intro a H);refine s_pick_t H wn rfl h17 rfl rfl ?_;clear H;intro a H;refine K3 _ _ ?_;clear K3;refine c_cond_t H rfl rfl ?_;refine c_seqR (fun _ K6=>?_);refine kH H (Ra rfl ?_);clear H;intro a H;refine K6 _ _ ?_;clear K6;refine c_ret ?_;refine lv H Tryz.results177 rfl ?_
  first
   | exact H.hp.ret (congrArg Value.bool (by rw [isNameS,decide_eq_false (by omega),Bool.false_and]))
   | exact H.hp.ret (congrArg Value.bool (by rw [isNameS,decide_eq_true (by omega),show s.size=k by omega,hno];rfl))
   | exact H.hp.ret (congrArg Value.bool (by rw [isNameS,nameF_no (k:=k) (by omega) (decide_eq_false (by omega)),Bool.and_false]))
 intro h17
 try have p17:=of_decide_eq_false h17
 (iterate 2 refine s_move H (wg H rfl rfl h17) rfl rfl ?_;clear H;intro a H);refine s_lens un9cp H (wg H rfl rfl h17) rfl rfl ?_;clear H;intro a H;refine s_sub _ H (wg H rfl rfl h17) rfl rfl rfl (by omega) (by omega) rfl ?_;clear H;intro a H;refine s_indexs (s.size - 1) un9cp H (wg H rfl rfl h17) rfl rfl (by omega) (by omega) rfl ?_;clear H;intro a H;rw [← byteAt_lt] at H;refine s_cmp H (wg H rfl rfl h17) rfl rfl rfl rfl ?_;clear H;intro a H;refine s_pick_f H wn rfl h17 rfl rfl ?_;clear H;intro a H;refine K3 _ _ ?_;clear K3;refine c_cond H rfl ?_ ?_
 ·intro h24
  try have p24:=of_decide_eq_true h24
  refine c_seqR (fun _ K7=>?_);refine kH H (Ra rfl ?_);clear H;intro a H;refine K7 _ _ ?_;clear K7;refine c_ret ?_;refine lv H Tryz.results177 rfl ?_
  first
   | exact H.hp.ret (congrArg Value.bool (by rw [isNameS,decide_eq_false (by omega),Bool.false_and]))
   | exact H.hp.ret (congrArg Value.bool (by rw [isNameS,decide_eq_true (by omega),show s.size=k by omega,hno];rfl))
   | exact H.hp.ret (congrArg Value.bool (by rw [isNameS,nameF_no (k:=k) (by omega) (decide_eq_false (by omega)),Bool.and_false]))
 intro h24
 try have p24:=of_decide_eq_false h24
 refine c_skip ?_;refine K2 _ _ ?_;clear K2;refine c_seq (fun _ K8=>?_);refine c_seqR (fun _ K9=>?_);refine kH H (Rm rfl ?_);clear H;intro a H;refine s_lens un9cp H wn rfl rfl ?_;clear H;intro a H;refine kH H (Rm rfl ?_);clear H;intro a H;refine K9 _ _ ?_;clear K9;refine c_block ?_;skip;refine c_loopS (ι:=Nat) (Tc:=[(0,_),(26,_)]) (Lc:=[]) (fun (gh:Nat)=>[(27,vi gh)]) (fun (gh:Nat)=>[]) (fun (gh:Nat)=>G) (fun (gh:Nat)=>gh≤s.size∧nameF s gh=true) (fun (gh:Nat)=>s.size - gh) (0) (by exact (H).sub ⟨rfl,rfl,rfl,trivial⟩) ?_ ?_
 ·exact ⟨Nat.zero_le _,rfl⟩
 clear H;intro gh a w hI H;obtain ⟨k,hgh⟩:∃ x,x=gh:=⟨_,rfl⟩;subst hgh;obtain ⟨hk,hno⟩:=hI;dsimp only [List.cons_append,List.nil_append,List.append_nil] at H;refine c_seqR (fun _ K10=>?_);refine kH H (Rc rfl ?_);clear H;intro a H;refine K10 _ _ ?_;clear K10;refine c_seq (fun _ K11=>?_);refine c_cond H rfl ?_ ?_
 ·intro h28
  try have p28:=of_decide_eq_true h28
  refine c_skip ?_;refine K11 _ _ ?_;clear K11;refine c_seq (fun _ K12=>?_);refine c_block ?_;refine c_seqR (fun _ K13=>?_);refine kH H (Rm rfl (Ra rfl ?_));clear H;intro a H;refine K13 _ _ ?_;clear K13;refine c_seqR (fun _ K14=>?_);refine kH H (Rm rfl (Rm rfl ?_));clear H;intro a H;refine s_indexs k un9cp H wn rfl rfl rfl (by omega) rfl ?_;clear H;intro a H;rw [← byteAt_lt] at H;refine kH H (Rc rfl (Rm rfl ?_));clear H;intro a H;refine s_split H 34 rfl ?_ ?_
  ·intro h34
   try have p34:=of_decide_eq_true h34
   (iterate 4 refine s_skip H rfl rfl h34 rfl ?_;clear H;intro a H);refine s_pick_t H wn rfl h34 rfl rfl ?_;clear H;intro a H;refine K14 _ _ ?_;clear K14;refine c_cond_t H rfl rfl ?_;refine c_seqR (fun _ K15=>?_);refine kH H (Ra rfl ?_);clear H;intro a H;refine K15 _ _ ?_;clear K15;refine c_ret ?_;refine lv H Tryz.results177 rfl ?_
   first
    | exact H.hp.ret (congrArg Value.bool (by rw [isNameS,decide_eq_false (by omega),Bool.false_and]))
    | exact H.hp.ret (congrArg Value.bool (by rw [isNameS,decide_eq_true (by omega),show s.size=k by omega,hno];rfl))
    | exact H.hp.ret (congrArg Value.bool (by rw [isNameS,nameF_no (k:=k) (by omega) (decide_eq_false (by omega)),Bool.and_false]))
  intro h34
  try have p34:=of_decide_eq_false h34
  (iterate 2 refine s_move H (wg H rfl rfl h34) rfl rfl ?_;clear H;intro a H);refine s_indexs k un9cp H (wg H rfl rfl h34) rfl rfl rfl (by omega) rfl ?_;clear H;intro a H;rw [← byteAt_lt] at H;refine s_cmp H (wg H rfl rfl h34) rfl rfl rfl rfl ?_;clear H;intro a H;refine s_pick_f H wn rfl h34 rfl rfl ?_;clear H;intro a H;refine K14 _ _ ?_;clear K14;refine c_cond H rfl ?_ ?_
  ·intro h39
   try have p39:=of_decide_eq_true h39
   refine c_seqR (fun _ K16=>?_);refine kH H (Ra rfl ?_);clear H;intro a H;refine K16 _ _ ?_;clear K16;refine c_ret ?_;refine lv H Tryz.results177 rfl ?_
   first
    | exact H.hp.ret (congrArg Value.bool (by rw [isNameS,decide_eq_false (by omega),Bool.false_and]))
    | exact H.hp.ret (congrArg Value.bool (by rw [isNameS,decide_eq_true (by omega),show s.size=k by omega,hno];rfl))
    | exact H.hp.ret (congrArg Value.bool (by rw [isNameS,nameF_no (k:=k) (by omega) (decide_eq_false (by omega)),Bool.and_false]))
  intro h39
  try have p39:=of_decide_eq_false h39
  refine c_skip ?_;refine K12 _ _ ?_;clear K12;refine c_region ?_;refine s_add _ H wn rfl rfl rfl (by omega) (by omega) rfl ?_;clear H;intro a H;refine kH H (Rm rfl ?_);clear H;intro a H;refine wl_nil ?_;refine loop_end ((k+1)) (by exact (H).sub ⟨rfl,rfl,rfl,trivial⟩) ?_ ?_
  ·exact ⟨by omega,by rw [nameF_succ,hno];simp [okB];omega⟩
  first|omega|(dsimp only;omega)
 intro h28
 try have p28:=of_decide_eq_false h28
 refine c_exit ?_;refine K8 _ _ ?_;clear K8;refine c_seqR (fun _ K17=>?_);refine kH H (Ra rfl ?_);clear H;intro a H;refine K17 _ _ ?_;clear K17;refine c_ret ?_;refine lv H Tryz.results177 rfl ?_
 first
  | exact H.hp.ret (congrArg Value.bool (by rw [isNameS,decide_eq_false (by omega),Bool.false_and]))
  | exact H.hp.ret (congrArg Value.bool (by rw [isNameS,decide_eq_true (by omega),show s.size=k by omega,hno];rfl))
  | exact H.hp.ret (congrArg Value.bool (by rw [isNameS,nameF_no (k:=k) (by omega) (decide_eq_false (by omega)),Bool.and_false]))
theorem indexStyle_spec (G:GH) (w0:World) (hG:Hold G w0) (l:List StyleD) (p:StyleD→Bool) (v fv:Value) (hv:RepV G (.sl 6 (l.map StyleD.dat)) v) (hf:∀ x∈l,Tester fv G x.dat (p x)) :
  Calls Tryz.prog 212 #[v,fv] w0 (Ret w0 G fun u G'=>u=vi (ixI (l.findIdx? p))):=by
 obtain ⟨A,c,rfl,hc1,hc2,-⟩:=hv.slice;have hml:maxLen=9223372036854775807:=rfl;rw [List.length_map] at *;refine eN [(0,_),(1,_)] Tryz.func212 rfl Tryz.ntmps212 rfl rfl hG ?_;intro a H;refine c_seqR (fun _ K1=>?_);refine kH H (Ra rfl ?_);clear H;intro a H;refine K1 _ _ ?_;clear K1;refine c_seq (fun _ K2=>?_);refine c_seqR (fun _ K3=>?_);refine kH H (Rm rfl (Rl un41sty rfl (Rm rfl ?_)));clear H;intro a H;refine K3 _ _ ?_;clear K3;refine c_block ?_;skip;refine c_loopS (ι:=Nat × GH) (Tc:=[(0,_),(1,_),(7,_)]) (Lc:=[]) (fun (gh:Nat × GH)=>[(8,vi gh.1)]) (fun (gh:Nat × GH)=>[]) (fun (gh:Nat × GH)=>gh.2) (fun (gh:Nat × GH)=>gh.1≤l.length∧(l.take gh.1).findIdx? p=none∧(∀ b o,G b=some o→gh.2 b=some o)) (fun (gh:Nat × GH)=>l.length - gh.1) ((0,G)) (by exact (H).sub ⟨rfl,rfl,rfl,rfl,trivial⟩) ?_ ?_
 ·exact ⟨by omega,rfl,fun _ _ h=>h⟩
 clear H;intro gh a w hI H;obtain ⟨k,g⟩:=gh;dsimp only at hI H;obtain ⟨hk,hno,hgm⟩:=hI;dsimp only [List.cons_append,List.nil_append,List.append_nil] at H;refine c_seqR (fun _ K4=>?_);refine kH H (Rc rfl ?_);clear H;intro a H;refine K4 _ _ ?_;clear K4;refine c_seq (fun _ K5=>?_);refine c_cond H rfl ?_ ?_
 ·intro h9
  try have p9:=of_decide_eq_true h9
  have hk2:k < l.length:=by omega
  obtain ⟨b,o,pA,pc,rfl,hrow,hp,hrep⟩:=style_at (hv.mono hgm) hk2;refine c_skip ?_;refine K5 _ _ ?_;clear K5;refine c_seq (fun _ K6=>?_);refine c_block ?_;refine c_seqR (fun _ K7=>?_);refine kH H (Rm rfl (Ra rfl ?_));clear H;intro a H;refine K7 _ _ ?_;clear K7;refine c_seqR (fun _ K8=>?_);refine kH H (Rm rfl (Rm rfl (Rm rfl ?_)));clear H;intro a H;refine s_index un41sty ty100sty _ H wn rfl rfl rfl (by first|assumption|omega) rfl ?_;clear H;intro a H;refine s_loada ty100sty (cs:=[_,_,_,_,_,_]) H wn rfl rfl (fun j v hj=>H.hp.gcell (hrow j v hj)) rfl ?_;clear H;intro a H;refine s_callv0 H wn rfl rfl (hf _ (List.getElem_mem hk2) _ _ _ hgm H.hp.ro hrep) rfl ?_;clear H;rintro v16 G16 a w rfl hm16 H;refine K8 _ _ ?_;clear K8;refine c_cond H rfl ?_ ?_
  ·intro h16
   try have p16:=of_decide_eq_true h16
   refine c_seqR (fun _ K9=>?_);refine kH H (Rm rfl (Ra rfl ?_));clear H;intro a H;refine K9 _ _ ?_;clear K9;refine c_ret ?_;refine lv H Tryz.results212 rfl ?_
   first
    | exact H.hp.ret (by rw [idx_stop hk2 hno h16];rfl)
    | exact H.hp.ret (by rw [show l.take k=l from List.take_of_length_le (by omega)] at hno;rw [hno];rfl)
  intro h16
  try have p16:=of_decide_eq_false h16
  refine c_skip ?_;refine K6 _ _ ?_;clear K6;refine c_region ?_;refine s_add _ H wn rfl rfl rfl (by omega) (by omega) rfl ?_;clear H;intro a H;refine kH H (Rm rfl ?_);clear H;intro a H;refine wl_nil ?_;refine loop_end ((k+1,G16)) (by exact (H).sub ⟨rfl,rfl,rfl,rfl,trivial⟩) ?_ ?_
  ·(try dsimp only);exact ⟨by omega,idx_next hk2 hno h16,fun b o h=>hm16 b o (hgm b o h)⟩
  first|omega|(dsimp only;omega)
 intro h9
 try have p9:=of_decide_eq_false h9
 refine c_exit ?_;refine K2 _ _ ?_;clear K2;refine c_seqR (fun _ K10=>?_);refine kH H (Ra rfl ?_);clear H;intro a H;refine K10 _ _ ?_;clear K10;refine c_ret ?_;refine lv H Tryz.results212 rfl ?_
 first
  | exact H.hp.ret (by rw [idx_stop hk2 hno h16];rfl)
  | exact H.hp.ret (by rw [show l.take k=l from List.take_of_length_le (by omega)] at hno;rw [hno];rfl)
def nmEq (p q:ByteArray):Bool:=p.toList == q.toList
theorem findName1 {G:GH} {bk bn:Nat} {kind:Int} {name:ByteArray} (hk:gcell G bk 0=some (vi kind)) (hn:gcell G bn 0=some (.string name)) (x:StyleD):Tester (.func (.func 213) #[] #[.pointer (some ⟨bk,0,none⟩),.pointer (some ⟨bn,0,none⟩)]) G x.dat (decide (x.kind=kind) && nmEq x.name name):=by
 intro G1 w0 cs hm hG hr;refine callV_func (caps:=[.pointer (some ⟨bk,0,none⟩),.pointer (some ⟨bn,0,none⟩)]) en213sty ?_;obtain ⟨pA,pc,rfl,-⟩:=style_of hr;replace hk:=gcell_mono hm hk;replace hn:=gcell_mono hm hn;refine eN [(0,_),(1,_),(2,_)] Tryz.func213 rfl Tryz.ntmps213 rfl rfl hG ?_;intro a H;refine c_seqR (fun _ K1=>?_);refine s_box (cs:=[_,_,_,_,_,_]) H wn rfl rfl rfl ?_;clear H;intro b3 a w hb3 H;refine kH H (Ra rfl ?_);clear H;intro a H;refine K1 _ _ ?_;clear K1;refine c_seqR (fun _ K2=>?_);refine kH H (Rf fd100_1sty rfl (Ro ty3run 0 rfl rfl ?_));clear H;intro a H;refine s_load ty3run H wn rfl (H.hp.gcell (by assumption)) rfl ?_;clear H;intro a H;refine kH H (Rc rfl (Rm rfl ?_));clear H;intro a H;refine s_split H 9 rfl ?_ ?_
 ·intro h9
  try have p9:=of_decide_eq_true h9
  refine s_field fd100_2sty H (wg H rfl rfl h9) rfl rfl ?_;clear H;intro a H;refine s_load ty9run H (wg H rfl rfl h9) rfl (H.hp.ocell 0 rfl rfl) rfl ?_;clear H;intro a H;refine s_load ty9run H (wg H rfl rfl h9) rfl (H.hp.gcell (by assumption)) rfl ?_;clear H;intro a H;refine s_eqstr H (wg H rfl rfl h9) rfl rfl rfl ?_;clear H;intro a H;refine s_pick_t H wn rfl h9 rfl rfl ?_;clear H;intro a H;refine kH H (Ra rfl ?_);clear H;intro a H;refine K2 _ _ ?_;clear K2;refine c_ret ?_;refine lv H Tryz.results213 rfl ?_;exact H.hp.ret (by unfold nmEq;simp_all)
 intro h9
 try have p9:=of_decide_eq_false h9
 (iterate 4 refine s_skip H rfl rfl h9 rfl ?_;clear H;intro a H);refine s_pick_f H wn rfl h9 rfl rfl ?_;clear H;intro a H;refine kH H (Ra rfl ?_);clear H;intro a H;refine K2 _ _ ?_;clear K2;refine c_ret ?_;refine lv H Tryz.results213 rfl ?_;exact H.hp.ret (by unfold nmEq;simp_all)
theorem find1 {G:GH} {bi:Nat} {id:Int} (hb:gcell G bi 0=some (vi id)) (x:StyleD):Tester (.func (.func 214) #[] #[.pointer (some ⟨bi,0,none⟩)]) G x.dat (decide (x.id=id)):=by
 intro G1 w0 cs hm hG hr;refine callV_func (caps:=[.pointer (some ⟨bi,0,none⟩)]) en214sty ?_;obtain ⟨pA,pc,rfl,-⟩:=style_of hr;replace hb:=gcell_mono hm hb;refine eN [(0,_),(1,_)] Tryz.func214 rfl Tryz.ntmps214 rfl rfl hG ?_;intro a H;refine c_seqR (fun _ K1=>?_);refine s_box (cs:=[_,_,_,_,_,_]) H wn rfl rfl rfl ?_;clear H;intro b2 a w hb2 H;refine kH H (Ra rfl ?_);clear H;intro a H;refine K1 _ _ ?_;clear K1;refine c_seqR (fun _ K2=>?_);refine kH H (Rf fd100_0sty rfl (Ro ty3run 0 rfl rfl ?_));clear H;intro a H;refine s_load ty3run H wn rfl (H.hp.gcell (by assumption)) rfl ?_;clear H;intro a H;refine kH H (Rc rfl (Ra rfl ?_));clear H;intro a H;refine K2 _ _ ?_;clear K2;refine c_ret ?_;refine lv H Tryz.results214 rfl ?_;exact H.hp.ret rfl
def findName (l:List StyleD) (kind:Int) (name:ByteArray):Option Nat:=l.findIdx? fun x=>decide (x.kind=kind) && nmEq x.name name
def findId (l:List StyleD) (id:Int):Option Nat:=l.findIdx? fun x=>decide (x.id=id)
theorem ixI_ge (o:Option Nat):decide (0≤ixI o)=o.isSome:=by cases o <;> simp [ixI]
theorem findName_spec (G:GH) (w0:World) (hG:Hold G w0) (l:List StyleD) (kind:Int) (name:ByteArray) (v:Value) (hv:RepV G (.sl 6 (l.map StyleD.dat)) v) :
  Calls Tryz.prog 178 #[v,vi kind,.string name] w0 (Ret w0 G fun u G'=>u=.tuple #[vi (max (ixI (findName l kind name)) 0),.bool (findName l kind name).isSome]):=by
 obtain ⟨A,c,rfl,hc1,hc2,-⟩:=hv.slice;rw [List.length_map] at *;refine eN [(0,_),(1,_),(2,_)] Tryz.func178 rfl Tryz.ntmps178 rfl rfl hG ?_;intro a H;refine c_seqR (fun _ K1=>?_);refine s_box (cs:=[_]) H wn rfl rfl rfl ?_;clear H;intro b4 a w hb4 H;refine s_box (cs:=[_]) H wn rfl rfl rfl ?_;clear H;intro b5 a w hb5 H;refine kH H (Ra rfl (Ra rfl ?_));clear H;intro a H;refine K1 _ _ ?_;clear K1;refine c_seq (fun _ K2=>?_);obtain ⟨Ga,hma,hb5',H⟩:=H.giveBox;obtain ⟨Gb,hmb,hb4',H⟩:=H.giveBox
 have q4:gcell Gb b4 0=some (vi kind):=by unfold gcell;rw [hb4'];rfl
 have q5:gcell Gb b5 0=some (.string name):=by unfold gcell;rw [hmb _ _ hb5'];rfl
 refine c_region ?_;refine kH H (Rm rfl ?_);clear H;intro a H;refine s_makeFunc H wn rfl rfl ?_;clear H;intro a H;refine s_call en212sty H wn rfl (indexStyle_spec _ _ H.hp.ro l (fun x=>decide (x.kind=kind) && nmEq x.name name) _ _ ((hv.mono hma).mono hmb) (fun x _=>findName1 q4 q5 x)) rfl ?_;clear H;rintro v11 G11 a w rfl hm11 H;refine kH H (Ra rfl ?_);clear H;intro a H;refine wl_nil ?_;refine K2 _ _ ?_;clear K2;refine c_seqR (fun _ K3=>?_);refine kH H (Rm rfl ?_);clear H;intro a H;refine s_max H wn rfl rfl rfl ?_;clear H;intro a H;refine kH H (Rm rfl (Rc rfl (Ra rfl (Ra rfl ?_))));clear H;intro a H;refine K3 _ _ ?_;clear K3;refine c_ret ?_;refine (leaveT H Tryz.results178 (.cons (rv_tmp H rfl) (.cons (rv_tmp H rfl) .nil)) ?_).1;exact H.hp.ret (by rw [← ixI_ge];rfl)
theorem find_id_spec (G:GH) (w0:World) (hG:Hold G w0) (l:List StyleD) (id:Int) (v:Value) (hv:RepV G (.sl 6 (l.map StyleD.dat)) v) :
  Calls Tryz.prog 180 #[v,vi id] w0 (Ret w0 G fun u G'=>u=.tuple #[vi (max (ixI (findId l id)) 0),.bool (findId l id).isSome]):=by
 obtain ⟨A,c,rfl,hc1,hc2,-⟩:=hv.slice;rw [List.length_map] at *;refine eN [(0,_),(1,_)] Tryz.func180 rfl Tryz.ntmps180 rfl rfl hG ?_;intro a H;refine c_seqR (fun _ K1=>?_);refine s_box (cs:=[_]) H wn rfl rfl rfl ?_;clear H;intro b3 a w hb3 H;refine kH H (Ra rfl (Ra rfl ?_));clear H;intro a H;refine K1 _ _ ?_;clear K1;refine c_seq (fun _ K2=>?_);obtain ⟨Ga,hma,hb3',H⟩:=H.giveBox
 have q3:gcell Ga b3 0=some (vi id):=by unfold gcell;rw [hb3'];rfl
 refine c_region ?_;refine kH H (Rm rfl ?_);clear H;intro a H;refine s_makeFunc H wn rfl rfl ?_;clear H;intro a H;refine s_call en212sty H wn rfl (indexStyle_spec _ _ H.hp.ro l (fun x=>decide (x.id=id)) _ _ (hv.mono hma) (fun x _=>find1 q3 x)) rfl ?_;clear H;rintro v9 G9 a w rfl hm9 H;refine kH H (Ra rfl ?_);clear H;intro a H;refine wl_nil ?_;refine K2 _ _ ?_;clear K2;refine c_seqR (fun _ K3=>?_);refine kH H (Rm rfl ?_);clear H;intro a H;refine s_max H wn rfl rfl rfl ?_;clear H;intro a H;refine kH H (Rm rfl (Rc rfl (Ra rfl (Ra rfl ?_))));clear H;intro a H;refine K3 _ _ ?_;clear K3;refine c_ret ?_;refine (leaveT H Tryz.results180 (.cons (rv_tmp H rfl) (.cons (rv_tmp H rfl) .nil)) ?_).1;exact H.hp.ret (by rw [← ixI_ge];rfl)
/-- Whether there is a style of a kind with an id. -/
def isS (l:List StyleD) (kind id:Int):Bool:=match findId l id with|some i=>decide ((l[i]?.map StyleD.kind)=some kind)|none=>false
theorem is_spec (G:GH) (w0:World) (hG:Hold G w0) (l:List StyleD) (kind id:Int) (v:Value) (hv:RepV G (.sl 6 (l.map StyleD.dat)) v) :
  Calls Tryz.prog 104 #[v,vi kind,vi id] w0 (Ret w0 G fun u G'=>u=.bool (isS l kind id)):=by
 obtain ⟨A,c,rfl,hc1,hc2,-⟩:=hv.slice;rw [List.length_map] at *;refine eN [(0,_),(1,_),(2,_)] Tryz.func104 rfl Tryz.ntmps104 rfl rfl hG ?_;intro a H;refine c_seqR (fun _ K1=>?_);refine kH H (Ra rfl ?_);clear H;intro a H;refine K1 _ _ ?_;clear K1;refine c_seqR (fun _ K2=>?_);refine kH H (Rm rfl (Rm rfl ?_));clear H;intro a H;refine s_call en180sty H wn rfl (find_id_spec _ _ H.hp.ro l id _ hv) rfl ?_;clear H;rintro v12 G12 a w rfl hm12 H;obtain ⟨o,ho⟩:∃ o,o=findId l id:=⟨_,rfl⟩;rw [← ho] at H;refine kH H (Rm rfl ?_);clear H;intro a H;(iterate 2 refine s_extract H wn rfl rfl rfl ?_;clear H;intro a H);refine kH H (Ra rfl (Ra rfl ?_));clear H;intro a H;refine K2 _ _ ?_;clear K2;refine c_seqR (fun _ K3=>?_);refine kH H (Rm rfl (Rm rfl ?_));clear H;intro a H;refine s_split H 16 rfl ?_ ?_
 ·intro h16
  try have p16:=of_decide_eq_true h16
  obtain ⟨i,rfl⟩:=Option.isSome_iff_exists.1 h16
  have hil:i < l.length:=by
   obtain ⟨hi,-⟩:=List.findIdx?_eq_some_iff_getElem.1 ho.symm;exact hi
  rw [show max (ixI (some i)) 0=(i:Int) by simp [ixI]] at H;obtain ⟨b,o',pA,pc,rfl,hrow,hp,hrep⟩:=style_at (hv.mono hm12) hil;have r1:gcell G12 b (o'+i*6+1)=some (vi l[i].kind):=hrow 1 _ rfl;(iterate 2 refine s_move H (wg H rfl rfl h16) rfl rfl ?_;clear H;intro a H);refine s_index un41sty ty100sty _ H (wg H rfl rfl h16) rfl rfl rfl (by first|assumption|omega) rfl ?_;clear H;intro a H;refine s_field fd100_1sty H (wg H rfl rfl h16) rfl rfl ?_;clear H;intro a H;refine s_load ty3run H (wg H rfl rfl h16) rfl (H.hp.gcell (by assumption)) rfl ?_;clear H;intro a H;refine s_move H (wg H rfl rfl h16) rfl rfl ?_;clear H;intro a H;refine s_cmp H (wg H rfl rfl h16) rfl rfl rfl rfl ?_;clear H;intro a H;refine s_pick_t H wn rfl h16 rfl rfl ?_;clear H;intro a H;refine kH H (Ra rfl ?_);clear H;intro a H;refine K3 _ _ ?_;clear K3;refine c_ret ?_;refine lv H Tryz.results104 rfl ?_
  first
   | exact H.hp.ret (congrArg Value.bool (by rw [isS,← ho];dsimp only;rw [List.getElem?_eq_getElem hil];simp))
   | exact H.hp.ret (congrArg Value.bool (by rw [isS,← ho];cases o <;> simp_all))
 intro h16
 try have p16:=of_decide_eq_false h16
 (iterate 7 refine s_skip H rfl rfl h16 rfl ?_;clear H;intro a H);refine s_pick_f H wn rfl h16 rfl rfl ?_;clear H;intro a H;refine kH H (Ra rfl ?_);clear H;intro a H;refine K3 _ _ ?_;clear K3;refine c_ret ?_;refine lv H Tryz.results104 rfl ?_
 first
  | exact H.hp.ret (congrArg Value.bool (by rw [isS,← ho];dsimp only;rw [List.getElem?_eq_getElem hil];simp))
  | exact H.hp.ret (congrArg Value.bool (by rw [isS,← ho];cases o <;> simp_all))
end
section
open Go.RowKit
theorem en177stz:∀ args w,(callFunc 177 args).run Tryz.prog w=.ok (.enter 177 args) w:=enters Tryz.func177 rfl (by kernel_rfl)
theorem en178stz:∀ args w,(callFunc 178 args).run Tryz.prog w=.ok (.enter 178 args) w:=enters Tryz.func178 rfl (by kernel_rfl)
theorem fd100_5stz:Fld Tryz.prog 100 5 5:=⟨by kernel_rfl⟩
theorem en179stz:∀ args w,(callFunc 179 args).run Tryz.prog w=.ok (.enter 179 args) w:=enters Tryz.func179 rfl (by kernel_rfl)
theorem en44stz:∀ args w,(callFunc 44 args).run Tryz.prog w=.ok (.enter 44 args) w:=enters Tryz.func44 rfl (by kernel_rfl)
theorem RepV.pre {G:GH} {sz:Nat} {rows:List (List Dat)} {A:Option Addr} {n c:Nat} (h:RepV G (.sl sz rows) (.slice A n c)) (k:Nat) (hk:k≤rows.length):RepV G (.sl sz (rows.take k)) (.slice A k c):=by
 have h:=h.part 0 k (Nat.zero_le _) hk
 have e:(if c=0 then A else A.map (·.add (0*sz)))=A:=by
  split
  ·rfl
  cases A <;> simp [Addr.add]
 rw [e] at h
 simpa using h
theorem element_spec (G:GH) (w0:World) (hG:Hold G w0) (kind:Int):Calls Tryz.prog 179 #[vi kind] w0 (Ret w0 G fun u G'=>u=vi (if kind=1 then 2 else 1)):=by
 refine eN [(0,_)] Tryz.func179 rfl Tryz.ntmps179 rfl rfl hG ?_;intro a H;refine c_seqR (fun _ K1=>?_);refine kH H (Ra rfl ?_);clear H;intro a H;refine K1 _ _ ?_;clear K1;refine c_seq (fun _ K2=>?_);refine c_seqR (fun _ K3=>?_);refine kH H (Rm rfl (Rc rfl ?_));clear H;intro a H;refine K3 _ _ ?_;clear K3;refine c_cond H rfl ?_ ?_
 ·intro h4
  try have p4:=of_decide_eq_true h4
  refine c_seqR (fun _ K4=>?_);refine kH H (Ra rfl ?_);clear H;intro a H;refine K4 _ _ ?_;clear K4;refine c_ret ?_;refine lv H Tryz.results179 rfl ?_;exact H.hp.ret (by first|(rw [if_pos (by omega)];done)|rw [if_neg (by omega)])
 intro h4
 try have p4:=of_decide_eq_false h4
 refine c_skip ?_;refine K2 _ _ ?_;clear K2;refine c_seqR (fun _ K5=>?_);refine kH H (Ra rfl ?_);clear H;intro a H;refine K5 _ _ ?_;clear K5;refine c_ret ?_;refine lv H Tryz.results179 rfl ?_;exact H.hp.ret (by first|(rw [if_pos (by omega)];done)|rw [if_neg (by omega)])
def prevS (l:List StyleD) (k:Nat):Option Int:=if k=0 then none else l[k - 1]?.map StyleD.id
theorem prevS_0 {l:List StyleD} {k:Nat} (h:k=0):prevS l k=none:=if_pos h
def badK (k:Int):Bool:=decide (k=20) || decide (k=1)
/-- The error of a style itself, behind others. -/
def ownE (q:Option Int) (dup:Bool) (s:StyleD):Int :=
 if s.id < 1∨1073741824 < s.id then 18 else if q=some s.id then 7 else if ltB q s.id=true then 6 else if s.kind≠1∧s.kind≠2 then 3 else if isNameS s.name=false then 13 else if dup=true then 7
 else if s.props.any (fun p=>badK p.key)=true then 4 else chkPS (if s.kind=1 then 2 else 1) s.props
def ownS (l:List StyleD) (k:Nat) (s:StyleD):Int:=ownE (prevS l k) (findName (l.take k) s.kind s.name).isSome s
set_option maxHeartbeats 1000000 in
theorem own_spec (G:GH) (w0:World) (hG:Hold G w0) (l:List StyleD) (k:Nat) (v:Value) (hv:RepV G (.sl 6 (l.map StyleD.dat)) v) (hk:k < l.length) (hs:l[k].name.size≤4611686018427387904) :
  Calls Tryz.prog 103 #[v,vi k] w0 (Ret w0 G fun u G'=>u=vi (ownS l k l[k])):=by
 obtain ⟨A,c,rfl,hc1,hc2,-⟩:=hv.slice;have hml:maxLen=9223372036854775807:=rfl;rw [List.length_map] at *;obtain ⟨b,o,pA,pc,rfl,hrow,hp,hrep⟩:=style_at hv hk;obtain ⟨x,hx⟩:∃ x,x=l[k]:=⟨_,rfl⟩;rw [← hx] at hs hrow hp hrep ⊢;have hdp:∀ j v,[vi x.id,vi x.kind,.string x.name,vi x.base,vi x.next,.slice pA x.props.length pc][j]?=some v→gcell G b (o+k*6+j)=some v:=hrow;obtain ⟨_,_,he0,hpc1,hpc2,-⟩:=hp.slice
 injection he0 with _ he1 he2
 rw [List.length_map] at *;subst he2
 obtain ⟨pk,hpk⟩:∃ pk,0 < k→gcell G b (o+(k - 1)*6+0)=some (vi pk)∧prevS l k=some pk:=by
  by_cases h0:0 < k
  ·obtain ⟨b',o',_,_,he,hr',-,-⟩:=style_at hv (show k - 1 < l.length by omega)
   injection he with he
   injection he with e1 e2 e3
   subst e1;subst e2;exact ⟨_,fun _=>⟨hr' 0 _ rfl,by rw [prevS,if_neg (by omega),List.getElem?_eq_getElem (by omega)];rfl⟩⟩
  exact ⟨0,fun h=>absurd h h0⟩
 refine eN [(0,_),(1,_)] Tryz.func103 rfl Tryz.ntmps103 rfl rfl hG ?_;intro a H;refine c_seqR (fun _ K1=>?_);refine kH H (Ra rfl ?_);clear H;intro a H;refine K1 _ _ ?_;clear K1;refine c_seqR (fun _ K2=>?_);refine kH H (Rm rfl (Rm rfl ?_));clear H;intro a H;refine s_index un41sty ty100sty _ H wn rfl rfl rfl (by first|assumption|omega) rfl ?_;clear H;intro a H;refine s_loada ty100sty (cs:=[_,_,_,_,_,_]) H wn rfl rfl (fun j v hj=>H.hp.gcell (hrow j v hj)) rfl ?_;clear H;intro a H;refine s_alloc ty100sty H wn rfl ?_;clear H;intro b5 a w hb5 H;refine s_store ty100sty 0 (vs:=[_,_,_,_,_,_]) _ H wn rfl rfl rfl rfl rfl rfl rfl rfl ?_;clear H;intro w H;dsimp only [List.set,setRow] at H;refine K2 _ _ ?_;clear K2;refine c_seqJ (ι:=GH) (Tc:=[(0,_),(1,_),(5,_)]) (Lc:=[(_,_)]) (fun (gh:GH)=>[]) (fun (gh:GH)=>[]) (fun (gh:GH)=>gh) (fun (gh:GH)=>¬ (x.id < 1∨1073741824 < x.id)∧¬ prevS l k=some x.id∧¬ ltB (prevS l k) x.id=true∧¬ (x.kind≠1∧x.kind≠2)∧¬ isNameS x.name=false∧(∀ b o,G b=some o→gh b=some o)) (by exact (H).sub ⟨rfl,rfl,rfl,trivial⟩) ?_ ?_
 ·skip;refine c_block ?_;refine c_seqR (fun _ K3=>?_);refine kH H (Rf fd100_0sty rfl (Ro ty3run 0 rfl rfl (Rc rfl (Rm rfl ?_))));clear H;intro a H;refine s_split H 18 rfl ?_ ?_
  ·intro h18
   try have p18:=of_decide_eq_true h18
   (iterate 3 refine s_skip H rfl rfl h18 rfl ?_;clear H;intro a H);refine s_pick_t H wn rfl h18 rfl rfl ?_;clear H;intro a H;refine kH H (Ra rfl ?_);clear H;intro a H;refine K3 _ _ ?_;clear K3;refine c_cond_t H rfl rfl ?_;refine c_seqR (fun _ K4=>?_);refine kH H (Ra rfl ?_);clear H;intro a H;refine K4 _ _ ?_;clear K4;refine c_ret ?_;refine lv H Tryz.results103 rfl ?_
   first
    | exact H.hp.ret (congrArg vi e0.symm)
    | exact H.hp.ret (congrArg vi e4.symm)
    | exact H.hp.ret (congrArg vi e7.symm)
    | exact H.hp.ret (congrArg vi e13.symm)
    | exact H.hp.ret (congrArg vi e3.symm)
    | exact H.hp.ret (congrArg vi e6.symm)
    | exact H.hp.ret (congrArg vi (by rw [ownS,ownE,if_pos (by omega)]))
  intro h18
  try have p18:=of_decide_eq_false h18
  refine s_field fd100_0sty H (wg H rfl rfl h18) rfl rfl ?_;clear H;intro a H;refine s_load ty3run H (wg H rfl rfl h18) rfl (H.hp.ocell 0 rfl rfl) rfl ?_;clear H;intro a H;refine s_cmp H (wg H rfl rfl h18) rfl rfl rfl rfl ?_;clear H;intro a H;refine s_pick_f H wn rfl h18 rfl rfl ?_;clear H;intro a H;refine kH H (Ra rfl ?_);clear H;intro a H;refine K3 _ _ ?_;clear K3;refine c_cond H rfl ?_ ?_
  ·intro h14
   try have p14:=of_decide_eq_true h14
   refine c_seqR (fun _ K5=>?_);refine kH H (Ra rfl ?_);clear H;intro a H;refine K5 _ _ ?_;clear K5;refine c_ret ?_;refine lv H Tryz.results103 rfl ?_
   first
    | exact H.hp.ret (congrArg vi e0.symm)
    | exact H.hp.ret (congrArg vi e4.symm)
    | exact H.hp.ret (congrArg vi e7.symm)
    | exact H.hp.ret (congrArg vi e13.symm)
    | exact H.hp.ret (congrArg vi e3.symm)
    | exact H.hp.ret (congrArg vi e6.symm)
    | exact H.hp.ret (congrArg vi (by rw [ownS,ownE,if_pos (by omega)]))
  intro h14
  try have p14:=of_decide_eq_false h14
  refine c_seq (fun _ K6=>?_)
  by_cases c0:0 < (k:Int)
  ·skip
   by_cases c1:x.id=pk
   ·skip;refine c_drawI (hmx) [[],[0],[0,1],[0,1,2],[0,1,2,3],[0,1,2],[0,1,2],[0,1,2,6],[0,1,2,5,6,7],[0,1,2,5,6,7,8],[0,1,2,5,6,7,8,9],(List.range 11),(List.range 12),(List.range 13)] [13] (by kernel_rfl) (by kernel_rfl) (fun (ix_:Nat) (v:Value) (G:GH)=>match ix_ with|0=>v=vi k|1=>v=.bool (decide (0 < (k:Int)))|2=>v=.bool (decide (0 < (k:Int)))|3=>v=.pointer (some ⟨b5,0,none⟩)|4=>v=vi x.id|5=>v=.slice (some ⟨b,o,none⟩) l.length c|6=>v=vi k|7=>v=vi ((k - 1:Nat):Int)|8=>v=.pointer (some ⟨b,o+(k - 1)*6,none⟩)|9=>v=.pointer (some ⟨b,o+(k - 1)*6+0,none⟩)|10=>v=vi pk|11=>v=.bool (decide (x.id=pk))|12=>v=.bool (decide (x.id=pk))|_=>True) (fun _ _ _ _ _ h=>h) H ?_ ?_
    ·clear H;refine al4 ?_ ?_ ?_ ?_ (al4 ?_ ?_ ?_ ?_ (al4 ?_ ?_ ?_ ?_ (allI_cons ?_ (allI_cons ?_ allI_nil))))
     ·exact Op0 rfl fun _ _ _ _ _ _ H fin=>kH H (Rm rfl fun _ H=>fin H iJ rfl)
     ·exact Op1 0 24 rfl rfl fun _ _ _ _ _ _ H fin=>kH H (Rc rfl fun _ H=>fin H iJ rfl)
     ·exact Op1 1 25 rfl rfl fun _ _ _ _ _ _ H fin=>kH H (Rm rfl fun _ H=>fin H iJ rfl)
     ·refine Op1 2 26 rfl rfl fun _ a w G1 hG HT H fin=>?_;refine s_field fd100_0sty H (wg H rfl rfl (decide_eq_true c0)) rfl rfl ?_;clear H;intro a H;exact fin H iJ rfl
     ·refine Op2 3 27 2 26 rfl rfl fun _ a w G1 hG HT H fin=>?_;refine s_load ty3run H (wg H rfl rfl (decide_eq_true c0)) rfl (H.hp.ocell 0 rfl rfl) rfl ?_;clear H;intro a H;exact fin H iJ rfl
     ·refine Op1 2 26 rfl rfl fun _ a w G1 hG HT H fin=>?_;refine s_move H (wg H rfl rfl (decide_eq_true c0)) rfl rfl ?_;clear H;intro a H;exact fin H iJ rfl
     ·refine Op1 2 26 rfl rfl fun _ a w G1 hG HT H fin=>?_;refine s_move H (wg H rfl rfl (decide_eq_true c0)) rfl rfl ?_;clear H;intro a H;exact fin H iJ rfl
     ·refine Op2 6 30 2 26 rfl rfl fun _ a w G1 hG HT H fin=>?_;refine s_sub _ H (wg H rfl rfl (decide_eq_true c0)) rfl rfl rfl (by omega) (by omega) rfl ?_;clear H;intro a H;exact fin H iJ (by first|rfl|exact congrArg vi (by omega))
     ·refine Op3 5 29 7 31 2 26 rfl rfl fun _ a w G1 hG HT H fin=>?_;refine s_index un41sty ty100sty _ H (wg H rfl rfl (decide_eq_true c0)) rfl rfl rfl (by first|assumption|omega) rfl ?_;clear H;intro a H;exact fin H iJ rfl
     ·refine Op2 8 32 2 26 rfl rfl fun _ a w G1 hG HT H fin=>?_;refine s_field fd100_0sty H (wg H rfl rfl (decide_eq_true c0)) rfl rfl ?_;clear H;intro a H;exact fin H iJ rfl
     ·refine Op2 9 33 2 26 rfl rfl fun _ a w G1 hG HT H fin=>?_;refine s_load ty3run H (wg H rfl rfl (decide_eq_true c0)) rfl (H.hp.gcell (gcell_mono hG (hpk (by omega)).1)) rfl ?_;clear H;intro a H;exact fin H iJ rfl
     ·refine Op3 4 28 10 34 2 26 rfl rfl fun _ a w G1 hG HT H fin=>?_;refine s_cmp H (wg H rfl rfl (decide_eq_true c0)) rfl rfl rfl rfl ?_;clear H;intro a H;exact fin H iJ rfl
     ·refine Op2 2 26 11 35 rfl rfl fun _ a w G1 hG HT H fin=>?_;refine s_pick_t H wn rfl (decide_eq_true c0) rfl rfl ?_;clear H;intro a H;exact fin H iJ rfl
     exact opB rfl
    clear H;intro a w G hGm4 H hv;obtain ⟨u36,hu36,hp36⟩:=hv 12 36 (by decide) rfl;obtain rfl:u36=.bool (decide (x.id=pk)):=hp36;have H:=H.addS hu36;clear hv;refine kH H (Ra rfl ?_);clear H;intro a H;refine wl_nil ⟨rfl,?_⟩;refine K6 _ _ ?_;clear K6;refine c_cond_t H rfl (decide_eq_true c1) ?_;refine c_seq (fun _ K7=>?_)
    have e7:ownS l k x=7:=by rw [ownS,ownE,if_neg (by omega),if_pos (by rw [(hpk (by omega)).2,c1])]
    refine c_region ?_;refine kH H (Ra rfl ?_);clear H;intro a H;refine wl_nil ?_;refine K7 _ _ ?_;clear K7;refine c_ret ?_;refine lv H Tryz.results103 rfl ?_
    first
     | exact H.hp.ret (congrArg vi e0.symm)
     | exact H.hp.ret (congrArg vi e4.symm)
     | exact H.hp.ret (congrArg vi e7.symm)
     | exact H.hp.ret (congrArg vi e13.symm)
     | exact H.hp.ret (congrArg vi e3.symm)
     | exact H.hp.ret (congrArg vi e6.symm)
     | exact H.hp.ret (congrArg vi (by rw [ownS,ownE,if_pos (by omega)]))
   skip;refine c_drawI (hmx) [[],[0],[0,1],[0,1,2],[0,1,2,3],[0,1,2],[0,1,2],[0,1,2,6],[0,1,2,5,6,7],[0,1,2,5,6,7,8],[0,1,2,5,6,7,8,9],(List.range 11),(List.range 12),(List.range 13)] [13] (by kernel_rfl) (by kernel_rfl) (fun (ix_:Nat) (v:Value) (G:GH)=>match ix_ with|0=>v=vi k|1=>v=.bool (decide (0 < (k:Int)))|2=>v=.bool (decide (0 < (k:Int)))|3=>v=.pointer (some ⟨b5,0,none⟩)|4=>v=vi x.id|5=>v=.slice (some ⟨b,o,none⟩) l.length c|6=>v=vi k|7=>v=vi ((k - 1:Nat):Int)|8=>v=.pointer (some ⟨b,o+(k - 1)*6,none⟩)|9=>v=.pointer (some ⟨b,o+(k - 1)*6+0,none⟩)|10=>v=vi pk|11=>v=.bool (decide (x.id=pk))|12=>v=.bool (decide (x.id=pk))|_=>True) (fun _ _ _ _ _ h=>h) H ?_ ?_
   ·clear H;refine al4 ?_ ?_ ?_ ?_ (al4 ?_ ?_ ?_ ?_ (al4 ?_ ?_ ?_ ?_ (allI_cons ?_ (allI_cons ?_ allI_nil))))
    ·exact Op0 rfl fun _ _ _ _ _ _ H fin=>kH H (Rm rfl fun _ H=>fin H iJ rfl)
    ·exact Op1 0 24 rfl rfl fun _ _ _ _ _ _ H fin=>kH H (Rc rfl fun _ H=>fin H iJ rfl)
    ·exact Op1 1 25 rfl rfl fun _ _ _ _ _ _ H fin=>kH H (Rm rfl fun _ H=>fin H iJ rfl)
    ·refine Op1 2 26 rfl rfl fun _ a w G1 hG HT H fin=>?_;refine s_field fd100_0sty H (wg H rfl rfl (decide_eq_true c0)) rfl rfl ?_;clear H;intro a H;exact fin H iJ rfl
    ·refine Op2 3 27 2 26 rfl rfl fun _ a w G1 hG HT H fin=>?_;refine s_load ty3run H (wg H rfl rfl (decide_eq_true c0)) rfl (H.hp.ocell 0 rfl rfl) rfl ?_;clear H;intro a H;exact fin H iJ rfl
    ·refine Op1 2 26 rfl rfl fun _ a w G1 hG HT H fin=>?_;refine s_move H (wg H rfl rfl (decide_eq_true c0)) rfl rfl ?_;clear H;intro a H;exact fin H iJ rfl
    ·refine Op1 2 26 rfl rfl fun _ a w G1 hG HT H fin=>?_;refine s_move H (wg H rfl rfl (decide_eq_true c0)) rfl rfl ?_;clear H;intro a H;exact fin H iJ rfl
    ·refine Op2 6 30 2 26 rfl rfl fun _ a w G1 hG HT H fin=>?_;refine s_sub _ H (wg H rfl rfl (decide_eq_true c0)) rfl rfl rfl (by omega) (by omega) rfl ?_;clear H;intro a H;exact fin H iJ (by first|rfl|exact congrArg vi (by omega))
    ·refine Op3 5 29 7 31 2 26 rfl rfl fun _ a w G1 hG HT H fin=>?_;refine s_index un41sty ty100sty _ H (wg H rfl rfl (decide_eq_true c0)) rfl rfl rfl (by first|assumption|omega) rfl ?_;clear H;intro a H;exact fin H iJ rfl
    ·refine Op2 8 32 2 26 rfl rfl fun _ a w G1 hG HT H fin=>?_;refine s_field fd100_0sty H (wg H rfl rfl (decide_eq_true c0)) rfl rfl ?_;clear H;intro a H;exact fin H iJ rfl
    ·refine Op2 9 33 2 26 rfl rfl fun _ a w G1 hG HT H fin=>?_;refine s_load ty3run H (wg H rfl rfl (decide_eq_true c0)) rfl (H.hp.gcell (gcell_mono hG (hpk (by omega)).1)) rfl ?_;clear H;intro a H;exact fin H iJ rfl
    ·refine Op3 4 28 10 34 2 26 rfl rfl fun _ a w G1 hG HT H fin=>?_;refine s_cmp H (wg H rfl rfl (decide_eq_true c0)) rfl rfl rfl rfl ?_;clear H;intro a H;exact fin H iJ rfl
    ·refine Op2 2 26 11 35 rfl rfl fun _ a w G1 hG HT H fin=>?_;refine s_pick_t H wn rfl (decide_eq_true c0) rfl rfl ?_;clear H;intro a H;exact fin H iJ rfl
    exact opB rfl
   clear H;intro a w G hGm4 H hv;obtain ⟨u36,hu36,hp36⟩:=hv 12 36 (by decide) rfl;obtain rfl:u36=.bool (decide (x.id=pk)):=hp36;have H:=H.addS hu36;clear hv;refine kH H (Ra rfl ?_);clear H;intro a H;refine wl_nil ⟨rfl,?_⟩;refine K6 _ _ ?_;clear K6;refine c_cond_f H rfl (decide_eq_false c1) ?_;refine c_seq (fun _ K8=>?_)
   have q1:¬ (0 < (k:Int)∧x.id=pk):=by first|exact fun h=>c1 h.2|exact fun h=>c0 h.1
   have q1':¬ prevS l k=some x.id:=fun h=>q1 (by
    by_cases h0:0 < k
    ·rw [(hpk h0).2] at h
     injection h with h
     exact ⟨by omega,h.symm⟩
    rw [prevS_0 (by omega)] at h
    cases h)
   by_cases c3:x.id < pk
   ·skip;refine c_drawI (hmx) [[],[0],[0,1],[0,1,2],[0,1,2,3],[0,1,2],[0,1,2],[0,1,2,6],[0,1,2,5,6,7],[0,1,2,5,6,7,8],[0,1,2,5,6,7,8,9],(List.range 11),(List.range 12),(List.range 13)] [13] (by kernel_rfl) (by kernel_rfl) (fun (ix_:Nat) (v:Value) (G:GH)=>match ix_ with|0=>v=vi k|1=>v=.bool (decide (0 < (k:Int)))|2=>v=.bool (decide (0 < (k:Int)))|3=>v=.pointer (some ⟨b5,0,none⟩)|4=>v=vi x.id|5=>v=.slice (some ⟨b,o,none⟩) l.length c|6=>v=vi k|7=>v=vi ((k - 1:Nat):Int)|8=>v=.pointer (some ⟨b,o+(k - 1)*6,none⟩)|9=>v=.pointer (some ⟨b,o+(k - 1)*6+0,none⟩)|10=>v=vi pk|11=>v=.bool (decide (x.id < pk))|12=>v=.bool (decide (x.id < pk))|_=>True) (fun _ _ _ _ _ h=>h) H ?_ ?_
    ·clear H;refine al4 ?_ ?_ ?_ ?_ (al4 ?_ ?_ ?_ ?_ (al4 ?_ ?_ ?_ ?_ (allI_cons ?_ (allI_cons ?_ allI_nil))))
     ·exact Op0 rfl fun _ _ _ _ _ _ H fin=>kH H (Rm rfl fun _ H=>fin H iJ rfl)
     ·exact Op1 0 38 rfl rfl fun _ _ _ _ _ _ H fin=>kH H (Rc rfl fun _ H=>fin H iJ rfl)
     ·exact Op1 1 39 rfl rfl fun _ _ _ _ _ _ H fin=>kH H (Rm rfl fun _ H=>fin H iJ rfl)
     ·refine Op1 2 40 rfl rfl fun _ a w G1 hG HT H fin=>?_;refine s_field fd100_0sty H (wg H rfl rfl (decide_eq_true c0)) rfl rfl ?_;clear H;intro a H;exact fin H iJ rfl
     ·refine Op2 3 41 2 40 rfl rfl fun _ a w G1 hG HT H fin=>?_;refine s_load ty3run H (wg H rfl rfl (decide_eq_true c0)) rfl (H.hp.ocell 0 rfl rfl) rfl ?_;clear H;intro a H;exact fin H iJ rfl
     ·refine Op1 2 40 rfl rfl fun _ a w G1 hG HT H fin=>?_;refine s_move H (wg H rfl rfl (decide_eq_true c0)) rfl rfl ?_;clear H;intro a H;exact fin H iJ rfl
     ·refine Op1 2 40 rfl rfl fun _ a w G1 hG HT H fin=>?_;refine s_move H (wg H rfl rfl (decide_eq_true c0)) rfl rfl ?_;clear H;intro a H;exact fin H iJ rfl
     ·refine Op2 6 44 2 40 rfl rfl fun _ a w G1 hG HT H fin=>?_;refine s_sub _ H (wg H rfl rfl (decide_eq_true c0)) rfl rfl rfl (by omega) (by omega) rfl ?_;clear H;intro a H;exact fin H iJ (by first|rfl|exact congrArg vi (by omega))
     ·refine Op3 5 43 7 45 2 40 rfl rfl fun _ a w G1 hG HT H fin=>?_;refine s_index un41sty ty100sty _ H (wg H rfl rfl (decide_eq_true c0)) rfl rfl rfl (by first|assumption|omega) rfl ?_;clear H;intro a H;exact fin H iJ rfl
     ·refine Op2 8 46 2 40 rfl rfl fun _ a w G1 hG HT H fin=>?_;refine s_field fd100_0sty H (wg H rfl rfl (decide_eq_true c0)) rfl rfl ?_;clear H;intro a H;exact fin H iJ rfl
     ·refine Op2 9 47 2 40 rfl rfl fun _ a w G1 hG HT H fin=>?_;refine s_load ty3run H (wg H rfl rfl (decide_eq_true c0)) rfl (H.hp.gcell (gcell_mono hG (gcell_mono hGm4 (hpk (by omega)).1))) rfl ?_;clear H;intro a H;exact fin H iJ rfl
     ·refine Op3 4 42 10 48 2 40 rfl rfl fun _ a w G1 hG HT H fin=>?_;refine s_cmp H (wg H rfl rfl (decide_eq_true c0)) rfl rfl rfl rfl ?_;clear H;intro a H;exact fin H iJ rfl
     ·refine Op2 2 40 11 49 rfl rfl fun _ a w G1 hG HT H fin=>?_;refine s_pick_t H wn rfl (decide_eq_true c0) rfl rfl ?_;clear H;intro a H;exact fin H iJ rfl
     exact opB rfl
    clear H;intro a w G hGm6 H hv;obtain ⟨u50,hu50,hp50⟩:=hv 12 50 (by decide) rfl;obtain rfl:u50=.bool (decide (x.id < pk)):=hp50;have H:=H.addS hu50;clear hv;refine kH H (Ra rfl ?_);clear H;intro a H;refine wl_nil ⟨rfl,?_⟩;refine K8 _ _ ?_;clear K8;refine c_cond_t H rfl (decide_eq_true c3) ?_;refine c_seq (fun _ K9=>?_)
    have e6:ownS l k x=6:=by rw [ownS,ownE,if_neg (by omega),if_neg q1',if_pos (by rw [(hpk (by omega)).2];exact decide_eq_true c3)]
    refine c_region ?_;refine kH H (Ra rfl ?_);clear H;intro a H;refine wl_nil ?_;refine K9 _ _ ?_;clear K9;refine c_ret ?_;refine lv H Tryz.results103 rfl ?_
    first
     | exact H.hp.ret (congrArg vi e0.symm)
     | exact H.hp.ret (congrArg vi e4.symm)
     | exact H.hp.ret (congrArg vi e7.symm)
     | exact H.hp.ret (congrArg vi e13.symm)
     | exact H.hp.ret (congrArg vi e3.symm)
     | exact H.hp.ret (congrArg vi e6.symm)
     | exact H.hp.ret (congrArg vi (by rw [ownS,ownE,if_pos (by omega)]))
   skip;refine c_drawI (hmx) [[],[0],[0,1],[0,1,2],[0,1,2,3],[0,1,2],[0,1,2],[0,1,2,6],[0,1,2,5,6,7],[0,1,2,5,6,7,8],[0,1,2,5,6,7,8,9],(List.range 11),(List.range 12),(List.range 13)] [13] (by kernel_rfl) (by kernel_rfl) (fun (ix_:Nat) (v:Value) (G:GH)=>match ix_ with|0=>v=vi k|1=>v=.bool (decide (0 < (k:Int)))|2=>v=.bool (decide (0 < (k:Int)))|3=>v=.pointer (some ⟨b5,0,none⟩)|4=>v=vi x.id|5=>v=.slice (some ⟨b,o,none⟩) l.length c|6=>v=vi k|7=>v=vi ((k - 1:Nat):Int)|8=>v=.pointer (some ⟨b,o+(k - 1)*6,none⟩)|9=>v=.pointer (some ⟨b,o+(k - 1)*6+0,none⟩)|10=>v=vi pk|11=>v=.bool (decide (x.id < pk))|12=>v=.bool (decide (x.id < pk))|_=>True) (fun _ _ _ _ _ h=>h) H ?_ ?_
   ·clear H;refine al4 ?_ ?_ ?_ ?_ (al4 ?_ ?_ ?_ ?_ (al4 ?_ ?_ ?_ ?_ (allI_cons ?_ (allI_cons ?_ allI_nil))))
    ·exact Op0 rfl fun _ _ _ _ _ _ H fin=>kH H (Rm rfl fun _ H=>fin H iJ rfl)
    ·exact Op1 0 38 rfl rfl fun _ _ _ _ _ _ H fin=>kH H (Rc rfl fun _ H=>fin H iJ rfl)
    ·exact Op1 1 39 rfl rfl fun _ _ _ _ _ _ H fin=>kH H (Rm rfl fun _ H=>fin H iJ rfl)
    ·refine Op1 2 40 rfl rfl fun _ a w G1 hG HT H fin=>?_;refine s_field fd100_0sty H (wg H rfl rfl (decide_eq_true c0)) rfl rfl ?_;clear H;intro a H;exact fin H iJ rfl
    ·refine Op2 3 41 2 40 rfl rfl fun _ a w G1 hG HT H fin=>?_;refine s_load ty3run H (wg H rfl rfl (decide_eq_true c0)) rfl (H.hp.ocell 0 rfl rfl) rfl ?_;clear H;intro a H;exact fin H iJ rfl
    ·refine Op1 2 40 rfl rfl fun _ a w G1 hG HT H fin=>?_;refine s_move H (wg H rfl rfl (decide_eq_true c0)) rfl rfl ?_;clear H;intro a H;exact fin H iJ rfl
    ·refine Op1 2 40 rfl rfl fun _ a w G1 hG HT H fin=>?_;refine s_move H (wg H rfl rfl (decide_eq_true c0)) rfl rfl ?_;clear H;intro a H;exact fin H iJ rfl
    ·refine Op2 6 44 2 40 rfl rfl fun _ a w G1 hG HT H fin=>?_;refine s_sub _ H (wg H rfl rfl (decide_eq_true c0)) rfl rfl rfl (by omega) (by omega) rfl ?_;clear H;intro a H;exact fin H iJ (by first|rfl|exact congrArg vi (by omega))
    ·refine Op3 5 43 7 45 2 40 rfl rfl fun _ a w G1 hG HT H fin=>?_;refine s_index un41sty ty100sty _ H (wg H rfl rfl (decide_eq_true c0)) rfl rfl rfl (by first|assumption|omega) rfl ?_;clear H;intro a H;exact fin H iJ rfl
    ·refine Op2 8 46 2 40 rfl rfl fun _ a w G1 hG HT H fin=>?_;refine s_field fd100_0sty H (wg H rfl rfl (decide_eq_true c0)) rfl rfl ?_;clear H;intro a H;exact fin H iJ rfl
    ·refine Op2 9 47 2 40 rfl rfl fun _ a w G1 hG HT H fin=>?_;refine s_load ty3run H (wg H rfl rfl (decide_eq_true c0)) rfl (H.hp.gcell (gcell_mono hG (gcell_mono hGm4 (hpk (by omega)).1))) rfl ?_;clear H;intro a H;exact fin H iJ rfl
    ·refine Op3 4 42 10 48 2 40 rfl rfl fun _ a w G1 hG HT H fin=>?_;refine s_cmp H (wg H rfl rfl (decide_eq_true c0)) rfl rfl rfl rfl ?_;clear H;intro a H;exact fin H iJ rfl
    ·refine Op2 2 40 11 49 rfl rfl fun _ a w G1 hG HT H fin=>?_;refine s_pick_t H wn rfl (decide_eq_true c0) rfl rfl ?_;clear H;intro a H;exact fin H iJ rfl
    exact opB rfl
   clear H;intro a w G hGm6 H hv;obtain ⟨u50,hu50,hp50⟩:=hv 12 50 (by decide) rfl;obtain rfl:u50=.bool (decide (x.id < pk)):=hp50;have H:=H.addS hu50;clear hv;refine kH H (Ra rfl ?_);clear H;intro a H;refine wl_nil ⟨rfl,?_⟩;refine K8 _ _ ?_;clear K8;refine c_cond_f H rfl (decide_eq_false c3) ?_;refine c_seq (fun _ K10=>?_)
   have q2:¬ (0 < (k:Int)∧x.id < pk):=by first|exact fun h=>c3 h.2|exact fun h=>c0 h.1
   have q2':¬ ltB (prevS l k) x.id=true:=fun h=>q2 (by
    by_cases h0:0 < k
    ·rw [(hpk h0).2] at h;exact ⟨by omega,of_decide_eq_true h⟩
    rw [prevS_0 (by omega)] at h
    cases h)
   refine c_region ?_;refine kH H (Rf fd100_1sty rfl (Ro ty3run 0 rfl rfl (Rc rfl (Rm rfl ?_))));clear H;intro a H;refine s_split H 55 rfl ?_ ?_
   ·intro h55
    try have p55:=of_decide_eq_true h55
    refine s_field fd100_1sty H (wg H rfl rfl h55) rfl rfl ?_;clear H;intro a H;refine s_load ty3run H (wg H rfl rfl h55) rfl (H.hp.ocell 0 rfl rfl) rfl ?_;clear H;intro a H;refine s_cmp H (wg H rfl rfl h55) rfl rfl rfl rfl ?_;clear H;intro a H;refine s_pick_t H wn rfl h55 rfl rfl ?_;clear H;intro a H;refine kH H (Ra rfl ?_);clear H;intro a H;refine wl_nil ?_;refine K10 _ _ ?_;clear K10;refine c_cond H rfl ?_ ?_
    ·intro h51
     try have p51:=of_decide_eq_true h51
     refine c_seq (fun _ K11=>?_)
     have e3:ownS l k x=3:=by rw [ownS,ownE,if_neg (by omega),if_neg q1',if_neg q2',if_pos (by omega)]
     refine c_region ?_;refine kH H (Ra rfl ?_);clear H;intro a H;refine wl_nil ?_;refine K11 _ _ ?_;clear K11;refine c_ret ?_;refine lv H Tryz.results103 rfl ?_
     first
      | exact H.hp.ret (congrArg vi e0.symm)
      | exact H.hp.ret (congrArg vi e4.symm)
      | exact H.hp.ret (congrArg vi e7.symm)
      | exact H.hp.ret (congrArg vi e13.symm)
      | exact H.hp.ret (congrArg vi e3.symm)
      | exact H.hp.ret (congrArg vi e6.symm)
      | exact H.hp.ret (congrArg vi (by rw [ownS,ownE,if_pos (by omega)]))
    intro h51
    try have p51:=of_decide_eq_false h51
    refine c_seqR (fun _ K12=>?_);refine kH H (Rf fd100_2sty rfl (Ro ty9run 0 rfl rfl ?_));clear H;intro a H;refine s_call en177stz H wn rfl (isName_spec _ _ H.hp.ro x.name hs) rfl ?_;clear H;rintro v63 G63 a w rfl hm63 H;refine kH H (Rn rfl (Ra rfl ?_));clear H;intro a H;refine K12 _ _ ?_;clear K12;refine c_cond H rfl ?_ ?_
    ·intro h60
     try have p60:=of_decide_eq_true h60
     refine c_seq (fun _ K13=>?_)
     have e13:ownS l k x=13:=by rw [ownS,ownE,if_neg (by omega),if_neg q1',if_neg q2',if_neg (by omega),if_pos (by simpa using h60)]
     refine c_region ?_;refine kH H (Ra rfl ?_);clear H;intro a H;refine wl_nil ?_;refine K13 _ _ ?_;clear K13;refine c_ret ?_;refine lv H Tryz.results103 rfl ?_
     first
      | exact H.hp.ret (congrArg vi e0.symm)
      | exact H.hp.ret (congrArg vi e4.symm)
      | exact H.hp.ret (congrArg vi e7.symm)
      | exact H.hp.ret (congrArg vi e13.symm)
      | exact H.hp.ret (congrArg vi e3.symm)
      | exact H.hp.ret (congrArg vi e6.symm)
      | exact H.hp.ret (congrArg vi (by rw [ownS,ownE,if_pos (by omega)]))
    intro h60
    try have p60:=of_decide_eq_false h60
    refine c_skip ?_;refine ⟨G63,by exact (H).sub ⟨rfl,rfl,rfl,trivial⟩,?_⟩;exact ⟨by omega,q1',q2',by omega,by simpa using h60,fun b o h=>hm63 b o (hGm6 b o (hGm4 b o h))⟩
   intro h55
   try have p55:=of_decide_eq_false h55
   (iterate 3 refine s_skip H rfl rfl h55 rfl ?_;clear H;intro a H);refine s_pick_f H wn rfl h55 rfl rfl ?_;clear H;intro a H;refine kH H (Ra rfl ?_);clear H;intro a H;refine wl_nil ?_;refine K10 _ _ ?_;clear K10;refine c_cond_f H rfl rfl ?_;refine c_seqR (fun _ K14=>?_);refine kH H (Rf fd100_2sty rfl (Ro ty9run 0 rfl rfl ?_));clear H;intro a H;refine s_call en177stz H wn rfl (isName_spec _ _ H.hp.ro x.name hs) rfl ?_;clear H;rintro v63 G63 a w rfl hm63 H;refine kH H (Rn rfl (Ra rfl ?_));clear H;intro a H;refine K14 _ _ ?_;clear K14;refine c_cond H rfl ?_ ?_
   ·intro h60
    try have p60:=of_decide_eq_true h60
    refine c_seq (fun _ K15=>?_)
    have e13:ownS l k x=13:=by rw [ownS,ownE,if_neg (by omega),if_neg q1',if_neg q2',if_neg (by omega),if_pos (by simpa using h60)]
    refine c_region ?_;refine kH H (Ra rfl ?_);clear H;intro a H;refine wl_nil ?_;refine K15 _ _ ?_;clear K15;refine c_ret ?_;refine lv H Tryz.results103 rfl ?_
    first
     | exact H.hp.ret (congrArg vi e0.symm)
     | exact H.hp.ret (congrArg vi e4.symm)
     | exact H.hp.ret (congrArg vi e7.symm)
     | exact H.hp.ret (congrArg vi e13.symm)
     | exact H.hp.ret (congrArg vi e3.symm)
     | exact H.hp.ret (congrArg vi e6.symm)
     | exact H.hp.ret (congrArg vi (by rw [ownS,ownE,if_pos (by omega)]))
   intro h60
   try have p60:=of_decide_eq_false h60
   refine c_skip ?_;refine ⟨G63,by exact (H).sub ⟨rfl,rfl,rfl,trivial⟩,?_⟩;exact ⟨by omega,q1',q2',by omega,by simpa using h60,fun b o h=>hm63 b o (hGm6 b o (hGm4 b o h))⟩
  skip;refine c_drawI (hmx) [[],[0],[0,1],[0,1,2],[0,1,2,3],[0,1,2],[0,1,2],[0,1,2,6],[0,1,2,5,6,7],[0,1,2,5,6,7,8],[0,1,2,5,6,7,8,9],(List.range 11),(List.range 12),(List.range 13)] [13] (by kernel_rfl) (by kernel_rfl) (fun (ix_:Nat) (v:Value) (G:GH)=>match ix_ with|0=>v=vi k|1=>v=.bool (decide (0 < (k:Int)))|2=>v=.bool (decide (0 < (k:Int)))|3=>v=undef|4=>v=undef|5=>v=undef|6=>v=undef|7=>v=undef|8=>v=undef|9=>v=undef|10=>v=undef|11=>v=undef|12=>v=.bool false|_=>True) (fun _ _ _ _ _ h=>h) H ?_ ?_
  ·clear H;refine al4 ?_ ?_ ?_ ?_ (al4 ?_ ?_ ?_ ?_ (al4 ?_ ?_ ?_ ?_ (allI_cons ?_ (allI_cons ?_ allI_nil))))
   ·exact Op0 rfl fun _ _ _ _ _ _ H fin=>kH H (Rm rfl fun _ H=>fin H iJ rfl)
   ·exact Op1 0 24 rfl rfl fun _ _ _ _ _ _ H fin=>kH H (Rc rfl fun _ H=>fin H iJ rfl)
   ·exact Op1 1 25 rfl rfl fun _ _ _ _ _ _ H fin=>kH H (Rm rfl fun _ H=>fin H iJ rfl)
   ·exact skI 2 (decide_eq_false c0) rfl rfl
   ·exact skI 2 (decide_eq_false c0) rfl rfl
   ·exact skI 2 (decide_eq_false c0) rfl rfl
   ·exact skI 2 (decide_eq_false c0) rfl rfl
   ·exact skI 2 (decide_eq_false c0) rfl rfl
   ·exact skI 2 (decide_eq_false c0) rfl rfl
   ·exact skI 2 (decide_eq_false c0) rfl rfl
   ·exact skI 2 (decide_eq_false c0) rfl rfl
   ·exact skI 2 (decide_eq_false c0) rfl rfl
   ·refine Op2 2 26 11 35 rfl rfl fun _ a w G1 hG HT H fin=>?_;refine s_pick_f H wn rfl (decide_eq_false c0) rfl rfl ?_;clear H;intro a H;exact fin H iJ rfl
   exact opB rfl
  clear H;intro a w G hGm4 H hv;obtain ⟨u36,hu36,hp36⟩:=hv 12 36 (by decide) rfl;obtain rfl:u36=.bool false:=hp36;have H:=H.addS hu36;clear hv;refine kH H (Ra rfl ?_);clear H;intro a H;refine wl_nil ⟨rfl,?_⟩;refine K6 _ _ ?_;clear K6;refine c_cond_f H rfl rfl ?_;refine c_seq (fun _ K16=>?_)
  have q1:¬ (0 < (k:Int)∧x.id=pk):=by first|exact fun h=>c1 h.2|exact fun h=>c0 h.1
  have q1':¬ prevS l k=some x.id:=fun h=>q1 (by
   by_cases h0:0 < k
   ·rw [(hpk h0).2] at h
    injection h with h
    exact ⟨by omega,h.symm⟩
   rw [prevS_0 (by omega)] at h
   cases h)
  refine c_drawI (hmx) [[],[0],[0,1],[0,1,2],[0,1,2,3],[0,1,2],[0,1,2],[0,1,2,6],[0,1,2,5,6,7],[0,1,2,5,6,7,8],[0,1,2,5,6,7,8,9],(List.range 11),(List.range 12),(List.range 13)] [13] (by kernel_rfl) (by kernel_rfl) (fun (ix_:Nat) (v:Value) (G:GH)=>match ix_ with|0=>v=vi k|1=>v=.bool (decide (0 < (k:Int)))|2=>v=.bool (decide (0 < (k:Int)))|3=>v=undef|4=>v=undef|5=>v=undef|6=>v=undef|7=>v=undef|8=>v=undef|9=>v=undef|10=>v=undef|11=>v=undef|12=>v=.bool false|_=>True) (fun _ _ _ _ _ h=>h) H ?_ ?_
  ·clear H;refine al4 ?_ ?_ ?_ ?_ (al4 ?_ ?_ ?_ ?_ (al4 ?_ ?_ ?_ ?_ (allI_cons ?_ (allI_cons ?_ allI_nil))))
   ·exact Op0 rfl fun _ _ _ _ _ _ H fin=>kH H (Rm rfl fun _ H=>fin H iJ rfl)
   ·exact Op1 0 38 rfl rfl fun _ _ _ _ _ _ H fin=>kH H (Rc rfl fun _ H=>fin H iJ rfl)
   ·exact Op1 1 39 rfl rfl fun _ _ _ _ _ _ H fin=>kH H (Rm rfl fun _ H=>fin H iJ rfl)
   ·exact skI 2 (decide_eq_false c0) rfl rfl
   ·exact skI 2 (decide_eq_false c0) rfl rfl
   ·exact skI 2 (decide_eq_false c0) rfl rfl
   ·exact skI 2 (decide_eq_false c0) rfl rfl
   ·exact skI 2 (decide_eq_false c0) rfl rfl
   ·exact skI 2 (decide_eq_false c0) rfl rfl
   ·exact skI 2 (decide_eq_false c0) rfl rfl
   ·exact skI 2 (decide_eq_false c0) rfl rfl
   ·exact skI 2 (decide_eq_false c0) rfl rfl
   ·refine Op2 2 40 11 49 rfl rfl fun _ a w G1 hG HT H fin=>?_;refine s_pick_f H wn rfl (decide_eq_false c0) rfl rfl ?_;clear H;intro a H;exact fin H iJ rfl
   exact opB rfl
  clear H;intro a w G hGm6 H hv;obtain ⟨u50,hu50,hp50⟩:=hv 12 50 (by decide) rfl;obtain rfl:u50=.bool false:=hp50;have H:=H.addS hu50;clear hv;refine kH H (Ra rfl ?_);clear H;intro a H;refine wl_nil ⟨rfl,?_⟩;refine K16 _ _ ?_;clear K16;refine c_cond_f H rfl rfl ?_;refine c_seq (fun _ K17=>?_)
  have q2:¬ (0 < (k:Int)∧x.id < pk):=by first|exact fun h=>c3 h.2|exact fun h=>c0 h.1
  have q2':¬ ltB (prevS l k) x.id=true:=fun h=>q2 (by
   by_cases h0:0 < k
   ·rw [(hpk h0).2] at h;exact ⟨by omega,of_decide_eq_true h⟩
   rw [prevS_0 (by omega)] at h
   cases h)
  refine c_region ?_;refine kH H (Rf fd100_1sty rfl (Ro ty3run 0 rfl rfl (Rc rfl (Rm rfl ?_))));clear H;intro a H;refine s_split H 55 rfl ?_ ?_
  ·intro h55
   try have p55:=of_decide_eq_true h55
   refine s_field fd100_1sty H (wg H rfl rfl h55) rfl rfl ?_;clear H;intro a H;refine s_load ty3run H (wg H rfl rfl h55) rfl (H.hp.ocell 0 rfl rfl) rfl ?_;clear H;intro a H;refine s_cmp H (wg H rfl rfl h55) rfl rfl rfl rfl ?_;clear H;intro a H;refine s_pick_t H wn rfl h55 rfl rfl ?_;clear H;intro a H;refine kH H (Ra rfl ?_);clear H;intro a H;refine wl_nil ?_;refine K17 _ _ ?_;clear K17;refine c_cond H rfl ?_ ?_
   ·intro h51
    try have p51:=of_decide_eq_true h51
    refine c_seq (fun _ K18=>?_)
    have e3:ownS l k x=3:=by rw [ownS,ownE,if_neg (by omega),if_neg q1',if_neg q2',if_pos (by omega)]
    refine c_region ?_;refine kH H (Ra rfl ?_);clear H;intro a H;refine wl_nil ?_;refine K18 _ _ ?_;clear K18;refine c_ret ?_;refine lv H Tryz.results103 rfl ?_
    first
     | exact H.hp.ret (congrArg vi e0.symm)
     | exact H.hp.ret (congrArg vi e4.symm)
     | exact H.hp.ret (congrArg vi e7.symm)
     | exact H.hp.ret (congrArg vi e13.symm)
     | exact H.hp.ret (congrArg vi e3.symm)
     | exact H.hp.ret (congrArg vi e6.symm)
     | exact H.hp.ret (congrArg vi (by rw [ownS,ownE,if_pos (by omega)]))
   intro h51
   try have p51:=of_decide_eq_false h51
   refine c_seqR (fun _ K19=>?_);refine kH H (Rf fd100_2sty rfl (Ro ty9run 0 rfl rfl ?_));clear H;intro a H;refine s_call en177stz H wn rfl (isName_spec _ _ H.hp.ro x.name hs) rfl ?_;clear H;rintro v63 G63 a w rfl hm63 H;refine kH H (Rn rfl (Ra rfl ?_));clear H;intro a H;refine K19 _ _ ?_;clear K19;refine c_cond H rfl ?_ ?_
   ·intro h60
    try have p60:=of_decide_eq_true h60
    refine c_seq (fun _ K20=>?_)
    have e13:ownS l k x=13:=by rw [ownS,ownE,if_neg (by omega),if_neg q1',if_neg q2',if_neg (by omega),if_pos (by simpa using h60)]
    refine c_region ?_;refine kH H (Ra rfl ?_);clear H;intro a H;refine wl_nil ?_;refine K20 _ _ ?_;clear K20;refine c_ret ?_;refine lv H Tryz.results103 rfl ?_
    first
     | exact H.hp.ret (congrArg vi e0.symm)
     | exact H.hp.ret (congrArg vi e4.symm)
     | exact H.hp.ret (congrArg vi e7.symm)
     | exact H.hp.ret (congrArg vi e13.symm)
     | exact H.hp.ret (congrArg vi e3.symm)
     | exact H.hp.ret (congrArg vi e6.symm)
     | exact H.hp.ret (congrArg vi (by rw [ownS,ownE,if_pos (by omega)]))
   intro h60
   try have p60:=of_decide_eq_false h60
   refine c_skip ?_;refine ⟨G63,by exact (H).sub ⟨rfl,rfl,rfl,trivial⟩,?_⟩;exact ⟨by omega,q1',q2',by omega,by simpa using h60,fun b o h=>hm63 b o (hGm6 b o (hGm4 b o h))⟩
  intro h55
  try have p55:=of_decide_eq_false h55
  (iterate 3 refine s_skip H rfl rfl h55 rfl ?_;clear H;intro a H);refine s_pick_f H wn rfl h55 rfl rfl ?_;clear H;intro a H;refine kH H (Ra rfl ?_);clear H;intro a H;refine wl_nil ?_;refine K17 _ _ ?_;clear K17;refine c_cond_f H rfl rfl ?_;refine c_seqR (fun _ K21=>?_);refine kH H (Rf fd100_2sty rfl (Ro ty9run 0 rfl rfl ?_));clear H;intro a H;refine s_call en177stz H wn rfl (isName_spec _ _ H.hp.ro x.name hs) rfl ?_;clear H;rintro v63 G63 a w rfl hm63 H;refine kH H (Rn rfl (Ra rfl ?_));clear H;intro a H;refine K21 _ _ ?_;clear K21;refine c_cond H rfl ?_ ?_
  ·intro h60
   try have p60:=of_decide_eq_true h60
   refine c_seq (fun _ K22=>?_)
   have e13:ownS l k x=13:=by rw [ownS,ownE,if_neg (by omega),if_neg q1',if_neg q2',if_neg (by omega),if_pos (by simpa using h60)]
   refine c_region ?_;refine kH H (Ra rfl ?_);clear H;intro a H;refine wl_nil ?_;refine K22 _ _ ?_;clear K22;refine c_ret ?_;refine lv H Tryz.results103 rfl ?_
   first
    | exact H.hp.ret (congrArg vi e0.symm)
    | exact H.hp.ret (congrArg vi e4.symm)
    | exact H.hp.ret (congrArg vi e7.symm)
    | exact H.hp.ret (congrArg vi e13.symm)
    | exact H.hp.ret (congrArg vi e3.symm)
    | exact H.hp.ret (congrArg vi e6.symm)
    | exact H.hp.ret (congrArg vi (by rw [ownS,ownE,if_pos (by omega)]))
  intro h60
  try have p60:=of_decide_eq_false h60
  refine c_skip ?_;refine ⟨G63,by exact (H).sub ⟨rfl,rfl,rfl,trivial⟩,?_⟩;exact ⟨by omega,q1',q2',by omega,by simpa using h60,fun b o h=>hm63 b o (hGm6 b o (hGm4 b o h))⟩
 clear H;intro gh a w hI H;obtain ⟨g,hgh⟩:∃ x,x=gh:=⟨_,rfl⟩;subst hgh;obtain ⟨q0,q1',q2',q3,q4,hgm⟩:=hI;dsimp only [List.cons_append,List.nil_append,List.append_nil] at H;refine c_seq (fun _ K23=>?_);refine c_seq (fun _ K24=>?_);have hv12:=(hv.mono hgm).pre k (by rw [List.length_map];omega);rw [← List.map_take] at hv12;have hp12:=hp.mono hgm;refine c_drawI (hmx) [[],[],[0,1],[],[3],[],[5],(List.range 7),(List.range 8),(List.range 9),(List.range 9),(List.range 10),(List.range 12)] [12] (by kernel_rfl) (by kernel_rfl) (fun (ix_:Nat) (v:Value) (G:GH)=>match ix_ with|0=>v=.slice (some ⟨b,o,none⟩) l.length c|1=>v=vi k|2=>v=.slice (some ⟨b,o,none⟩) k c|3=>v=.pointer (some ⟨b5,1,none⟩)|4=>v=vi x.kind|5=>v=.pointer (some ⟨b5,2,none⟩)|6=>v=.string x.name|7=>v=.tuple #[vi (max (ixI (findName (l.take k) x.kind x.name)) 0),.bool (findName (l.take k) x.kind x.name).isSome]|8=>v=.tuple #[vi (max (ixI (findName (l.take k) x.kind x.name)) 0),.bool (findName (l.take k) x.kind x.name).isSome]|9=>v=vi (max (ixI (findName (l.take k) x.kind x.name)) 0)|10=>v=.bool (findName (l.take k) x.kind x.name).isSome|11=>v=vi (max (ixI (findName (l.take k) x.kind x.name)) 0)|_=>True) (fun _ _ _ _ _ h=>h) H ?_ ?_
 ·clear H;refine al4 ?_ ?_ ?_ ?_ (al4 ?_ ?_ ?_ ?_ (al4 ?_ ?_ ?_ ?_ (allI_cons ?_ allI_nil)))
  ·exact Op0 rfl fun _ _ _ _ _ _ H fin=>kH H (Rm rfl fun _ H=>fin H iJ rfl)
  ·exact Op0 rfl fun _ _ _ _ _ _ H fin=>kH H (Rm rfl fun _ H=>fin H iJ rfl)
  ·refine Op2 0 66 1 67 rfl rfl fun _ a w G1 hG HT H fin=>?_;refine s_sliceTo un41sty ty100sty k H wn rfl rfl rfl (by omega) rfl ?_;clear H;intro a H;exact fin H iJ rfl
  ·exact Op0 rfl fun _ _ _ _ _ _ H fin=>kH H (Rf fd100_1sty rfl fun _ H=>fin H iJ rfl)
  ·exact Op1 3 69 rfl rfl fun _ _ _ _ _ _ H fin=>kH H (Ro ty3run 0 rfl rfl fun _ H=>fin H iJ rfl)
  ·exact Op0 rfl fun _ _ _ _ _ _ H fin=>kH H (Rf fd100_2sty rfl fun _ H=>fin H iJ rfl)
  ·exact Op1 5 71 rfl rfl fun _ _ _ _ _ _ H fin=>kH H (Ro ty9run 0 rfl rfl fun _ H=>fin H iJ rfl)
  ·refine Op3 2 68 4 70 6 72 rfl rfl fun _ a w G1 hG HT H fin=>?_;refine s_call en178stz H wn rfl (findName_spec _ _ H.hp.ro (l.take k) x.kind x.name _ (hv12.mono hG)) rfl ?_;clear H;rintro v73 G73 a w rfl hGm73 H;exact fin H hGm73 (rfl)
  ·exact Op1 7 73 rfl rfl fun _ _ _ _ _ _ H fin=>kH H (Rm rfl fun _ H=>fin H iJ rfl)
  ·refine Op1 8 65 rfl rfl fun _ a w G1 hG HT H fin=>?_;refine s_extract H wn rfl rfl rfl ?_;clear H;intro a H;exact fin H iJ rfl
  ·refine Op1 8 65 rfl rfl fun _ a w G1 hG HT H fin=>?_;refine s_extract H wn rfl rfl rfl ?_;clear H;intro a H;exact fin H iJ rfl
  ·exact Op1 9 74 rfl rfl fun _ _ _ _ _ _ H fin=>kH H (Ra rfl fun _ H=>fin H iJ rfl)
  exact opB rfl
 clear H;intro a w G hGm12 H hv;obtain ⟨u75,hu75,hp75⟩:=hv 10 75 (by decide) rfl;obtain rfl:u75=.bool (findName (l.take k) x.kind x.name).isSome:=hp75;have H:=H.addS hu75;clear hv;refine kH H (Ra rfl ?_);clear H;intro a H;refine wl_nil ⟨rfl,?_⟩;refine K24 _ _ ?_;clear K24;refine c_seqR (fun _ K25=>?_);refine kH H (Rm rfl ?_);clear H;intro a H;refine K25 _ _ ?_;clear K25;refine c_cond H rfl ?_ ?_
 ·intro h76
  try have p76:=of_decide_eq_true h76
  refine c_seq (fun _ K26=>?_)
  have e7:ownS l k x=7:=by rw [ownS,ownE,if_neg (by omega),if_neg q1',if_neg q2',if_neg q3,if_neg q4,if_pos h76]
  refine c_region ?_;refine kH H (Ra rfl ?_);clear H;intro a H;refine wl_nil ?_;refine K26 _ _ ?_;clear K26;refine c_ret ?_;refine lv H Tryz.results103 rfl ?_
  first
   | exact H.hp.ret (congrArg vi e0.symm)
   | exact H.hp.ret (congrArg vi e4.symm)
   | exact H.hp.ret (congrArg vi e7.symm)
   | exact H.hp.ret (congrArg vi e13.symm)
   | exact H.hp.ret (congrArg vi e3.symm)
   | exact H.hp.ret (congrArg vi e6.symm)
   | exact H.hp.ret (congrArg vi (by rw [ownS,ownE,if_pos (by omega)]))
 intro h76
 try have p76:=of_decide_eq_false h76
 refine c_skip ?_;refine K23 _ _ ?_;clear K23;refine c_seq (fun _ K27=>?_);refine c_seq (fun _ K28=>?_)
 have q5:¬ (findName (l.take k) x.kind x.name).isSome=true:=by simpa using h76
 have hp15:=hp12.mono hGm12;refine c_region ?_;refine kH H (Rf fd100_5stz rfl (Ro ty25run 0 rfl rfl (Rl un25run rfl (Rm rfl ?_))));clear H;intro a H;refine wl_nil ?_;refine K28 _ _ ?_;clear K28;refine c_block ?_;skip;refine c_loopS (ι:=Nat) (Tc:=[(5,_),(78,_),(79,_)]) (Lc:=[(_,_)]) (fun (gh:Nat)=>[(80,vi gh)]) (fun (gh:Nat)=>[]) (fun (gh:Nat)=>G) (fun (gh:Nat)=>gh≤x.props.length∧(x.props.take gh).any (fun p=>badK p.key)=false) (fun (gh:Nat)=>x.props.length - gh) (0) (by exact (H).sub ⟨rfl,rfl,rfl,rfl,trivial⟩) ?_ ?_
 ·exact ⟨Nat.zero_le _,rfl⟩
 clear H;intro gh a w hI H;obtain ⟨n,hgh⟩:∃ x,x=gh:=⟨_,rfl⟩;subst hgh;obtain ⟨hn,hno⟩:=hI;dsimp only [List.cons_append,List.nil_append,List.append_nil] at H;refine c_seqR (fun _ K29=>?_);refine kH H (Rc rfl ?_);clear H;intro a H;refine K29 _ _ ?_;clear K29;refine c_seq (fun _ K30=>?_);refine c_cond H rfl ?_ ?_
 ·intro h81
  try have p81:=of_decide_eq_true h81
  have hn2:n < x.props.length:=by omega
  obtain ⟨pb,po,rfl,hrow2⟩:=prop_at hp15 hn2;have hrow:=hrow2;refine c_skip ?_;refine K30 _ _ ?_;clear K30;refine c_seq (fun _ K31=>?_);refine c_block ?_;refine c_seqR (fun _ K32=>?_);refine s_index un25run ty40run _ H wn rfl rfl rfl (by first|assumption|omega) rfl ?_;clear H;intro a H;refine s_loada ty40run (cs:=[_,_]) H wn rfl rfl (fun j v hj=>H.hp.gcell (hrow j v hj)) rfl ?_;clear H;intro a H;refine s_alloc ty40run H wn rfl ?_;clear H;intro b9 a w hb9 H;refine s_store ty40run 0 (vs:=[_,_]) _ H wn rfl rfl rfl rfl rfl rfl rfl rfl ?_;clear H;intro w H;dsimp only [List.set,setRow] at H;refine K32 _ _ ?_;clear K32;refine c_seqR (fun _ K33=>?_);refine kH H (Rf fd40_0prp rfl (Ro ty3run 0 rfl rfl (Rc rfl (Rm rfl ?_))));clear H;intro a H;refine s_split H 87 rfl ?_ ?_
  ·intro h87
   try have p87:=of_decide_eq_true h87
   (iterate 3 refine s_skip H rfl rfl h87 rfl ?_;clear H;intro a H);refine s_pick_t H wn rfl h87 rfl rfl ?_;clear H;intro a H;refine K33 _ _ ?_;clear K33;refine c_cond_t H rfl rfl ?_;refine c_seq (fun _ K34=>?_)
   have e4:ownS l k x=4:=by
    rw [ownS,ownE,if_neg (by omega),if_neg q1',if_neg q2',if_neg q3,if_neg q4,if_neg q5,if_pos];rw [List.any_eq_true];exact ⟨x.props[n],List.getElem_mem hn2,by simp [badK];omega⟩
   refine c_region ?_;refine kH H (Ra rfl ?_);clear H;intro a H;refine wl_nil ?_;refine K34 _ _ ?_;clear K34;refine c_ret ?_;refine lv H Tryz.results103 rfl ?_
   first
    | exact H.hp.ret (congrArg vi e0.symm)
    | exact H.hp.ret (congrArg vi e4.symm)
    | exact H.hp.ret (congrArg vi e7.symm)
    | exact H.hp.ret (congrArg vi e13.symm)
    | exact H.hp.ret (congrArg vi e3.symm)
    | exact H.hp.ret (congrArg vi e6.symm)
    | exact H.hp.ret (congrArg vi (by rw [ownS,ownE,if_pos (by omega)]))
  intro h87
  try have p87:=of_decide_eq_false h87
  refine s_field fd40_0prp H (wg H rfl rfl h87) rfl rfl ?_;clear H;intro a H;refine s_load ty3run H (wg H rfl rfl h87) rfl (H.hp.ocell 0 rfl rfl) rfl ?_;clear H;intro a H;refine s_cmp H (wg H rfl rfl h87) rfl rfl rfl rfl ?_;clear H;intro a H;refine s_pick_f H wn rfl h87 rfl rfl ?_;clear H;intro a H;refine K33 _ _ ?_;clear K33;refine c_cond H rfl ?_ ?_
  ·intro h91
   try have p91:=of_decide_eq_true h91
   refine c_seq (fun _ K35=>?_)
   have e4:ownS l k x=4:=by
    rw [ownS,ownE,if_neg (by omega),if_neg q1',if_neg q2',if_neg q3,if_neg q4,if_neg q5,if_pos];rw [List.any_eq_true];exact ⟨x.props[n],List.getElem_mem hn2,by simp [badK];omega⟩
   refine c_region ?_;refine kH H (Ra rfl ?_);clear H;intro a H;refine wl_nil ?_;refine K35 _ _ ?_;clear K35;refine c_ret ?_;refine lv H Tryz.results103 rfl ?_
   first
    | exact H.hp.ret (congrArg vi e0.symm)
    | exact H.hp.ret (congrArg vi e4.symm)
    | exact H.hp.ret (congrArg vi e7.symm)
    | exact H.hp.ret (congrArg vi e13.symm)
    | exact H.hp.ret (congrArg vi e3.symm)
    | exact H.hp.ret (congrArg vi e6.symm)
    | exact H.hp.ret (congrArg vi (by rw [ownS,ownE,if_pos (by omega)]))
  intro h91
  try have p91:=of_decide_eq_false h91
  refine c_skip ?_;refine K31 _ _ ?_;clear K31;refine c_region ?_;refine s_add _ H wn rfl rfl rfl (by omega) (by omega) rfl ?_;clear H;intro a H;refine kH H (Rm rfl ?_);clear H;intro a H;refine wl_nil ?_;refine loop_end ((n+1)) (by exact (H.pickT (Pl:=[_,_]) (Pl':=[_]) [1] (by decide) rfl).sub ⟨rfl,rfl,rfl,rfl,trivial⟩) ?_ ?_
  ·exact ⟨by omega,by rw [List.take_succ_eq_append_getElem hn2,List.any_append,hno];simp [badK];omega⟩
  first|omega|(dsimp only;omega)
 intro h81
 try have p81:=of_decide_eq_false h81
 refine c_exit ?_;refine K27 _ _ ?_;clear K27;refine c_seq (fun _ K36=>?_)
 have q6:¬ x.props.any (fun p=>badK p.key)=true:=by
  rw [show x.props.take n=x.props from List.take_of_length_le (by omega)] at hno;rw [hno];decide
 have e0:ownS l k x=chkPS (if x.kind=1 then 2 else 1) x.props:=by rw [ownS,ownE,if_neg (by omega),if_neg q1',if_neg q2',if_neg q3,if_neg q4,if_neg q5,if_neg q6]
 refine c_drawI (hmx) [[],[0],[0,1],[],[3],[0,1,2,3,4],[0,1,2,3,4,5]] [5,6] (by kernel_rfl) (by kernel_rfl) (fun (ix_:Nat) (v:Value) (G:GH)=>match ix_ with|0=>v=.pointer (some ⟨b5,1,none⟩)|1=>v=vi x.kind|2=>v=vi (if x.kind=1 then 2 else 1)|3=>v=.pointer (some ⟨b5,5,none⟩)|4=>v=.slice pA x.props.length pc|_=>True) (fun _ _ _ _ _ h=>h) H ?_ ?_
 ·clear H;refine al4 ?_ ?_ ?_ ?_ (allI_cons ?_ (allI_cons ?_ (allI_cons ?_ allI_nil)))
  ·exact Op0 rfl fun _ _ _ _ _ _ H fin=>kH H (Rf fd100_1sty rfl fun _ H=>fin H iJ rfl)
  ·exact Op1 0 93 rfl rfl fun _ _ _ _ _ _ H fin=>kH H (Ro ty3run 0 rfl rfl fun _ H=>fin H iJ rfl)
  ·refine Op1 1 94 rfl rfl fun _ a w G1 hG HT H fin=>?_;refine s_call en179stz H wn rfl (element_spec _ _ H.hp.ro x.kind) rfl ?_;clear H;rintro v95 G95 a w rfl hGm95 H;exact fin H hGm95 (rfl)
  ·exact Op0 rfl fun _ _ _ _ _ _ H fin=>kH H (Rf fd100_5stz rfl fun _ H=>fin H iJ rfl)
  ·exact Op1 3 96 rfl rfl fun _ _ _ _ _ _ H fin=>kH H (Ro ty25run 0 rfl rfl fun _ H=>fin H iJ rfl)
  ·exact opB rfl
  exact opB rfl
 clear H;intro a w G hGm21 H hv;obtain ⟨u95,hu95,hp95⟩:=hv 2 95 (by decide) rfl;obtain rfl:u95=vi (if x.kind=1 then 2 else 1):=hp95;have H:=H.addS hu95;obtain ⟨u97,hu97,hp97⟩:=hv 4 97 (by decide) rfl;obtain rfl:u97=.slice pA x.props.length pc:=hp97;have H:=H.addS hu97;clear hv;refine s_call en44stz H wn rfl (propCheck_spec _ _ H.hp.ro _ x.props _ (hp15.mono hGm21)) rfl ?_;clear H;rintro v98 G98 a w rfl hm98 H;refine kH H (Ra rfl ?_);clear H;intro a H;refine wl_nil ⟨rfl,?_⟩;refine K36 _ _ ?_;clear K36;refine c_ret ?_;refine lv H Tryz.results103 rfl ?_
 first
  | exact H.hp.ret (congrArg vi e0.symm)
  | exact H.hp.ret (congrArg vi e4.symm)
  | exact H.hp.ret (congrArg vi e7.symm)
  | exact H.hp.ret (congrArg vi e13.symm)
  | exact H.hp.ret (congrArg vi e3.symm)
  | exact H.hp.ret (congrArg vi e6.symm)
  | exact H.hp.ret (congrArg vi (by rw [ownS,ownE,if_pos (by omega)]))
end
section
open Go.RowKit
theorem ty43dsc:Ty Tryz.prog 43 1 24 [.slice none 0 0] false:=⟨by kernel_rfl,by kernel_rfl⟩
theorem un43dsc:Tryz.prog.underlying 43=some (.slice 107):=by kernel_rfl
theorem ty107dsc:Ty Tryz.prog 107 6 64 [.int .i64 0,.int .i64 0,.string ⟨#[]⟩,.int .i64 0,.string ⟨#[]⟩,.bool false] true:=⟨by kernel_rfl,by kernel_rfl⟩
theorem fd107_0dsc:Fld Tryz.prog 107 0 0:=⟨by kernel_rfl⟩
theorem fd107_1dsc:Fld Tryz.prog 107 1 1:=⟨by kernel_rfl⟩
theorem en191dsc:∀ args w,(callFunc 191 args).run Tryz.prog w=.ok (.enter 191 args) w:=enters Tryz.func191 rfl (by kernel_rfl)
theorem en124dsc:∀ args w,(callFunc 124 args).run Tryz.prog w=.ok (.enter 124 args) w:=enters Tryz.func124 rfl (by kernel_rfl)
theorem fd107_2dsc:Fld Tryz.prog 107 2 2:=⟨by kernel_rfl⟩
theorem en127dsc:∀ args w,(callFunc 127 args).run Tryz.prog w=.ok (.enter 127 args) w:=enters Tryz.func127 rfl (by kernel_rfl)
theorem fd107_3dsc:Fld Tryz.prog 107 3 3:=⟨by kernel_rfl⟩
theorem fd107_4dsc:Fld Tryz.prog 107 4 4:=⟨by kernel_rfl⟩
theorem en129dsc:∀ args w,(callFunc 129 args).run Tryz.prog w=.ok (.enter 129 args) w:=enters Tryz.func129 rfl (by kernel_rfl)
theorem en126dsc:∀ args w,(callFunc 126 args).run Tryz.prog w=.ok (.enter 126 args) w:=enters Tryz.func126 rfl (by kernel_rfl)
theorem en125dsc:∀ args w,(callFunc 125 args).run Tryz.prog w=.ok (.enter 125 args) w:=enters Tryz.func125 rfl (by kernel_rfl)
theorem en123dsc:∀ args w,(callFunc 123 args).run Tryz.prog w=.ok (.enter 123 args) w:=enters Tryz.func123 rfl (by kernel_rfl)
theorem ints_rep {G:GH} {b:Nat} (l:List Int) (h:G b=some (.cells (l.map vi).toArray 22 (0,0))) (hl:l.length≤maxLen):RepV G (.sl 1 (l.map fun k=>[li k])) (.slice (some ⟨b,0,none⟩) l.length l.length) :=
 RepV.of_row h (by simp) (Nat.le_refl _) hl (List.take_of_length_le (by simp)) (ints_cat G l)
theorem cm_at {G:GH} {l:List CmD} {A:Option Addr} {n c k:Nat} (hv:RepV G (.sl 6 (l.map CmD.dat)) (.slice A n c)) (hk:k < l.length):∃ b o,A=some ⟨b,o,none⟩∧(∀ j u,l[k].cells[j]?=some u→gcell G b (o+k*6+j)=some u)∧RepRow G l[k].dat l[k].cells:=by
 obtain ⟨A',c',he,_,_,hg⟩:=hv.slice
 injection he with e1 e2 e3
 subst e1;obtain ⟨b,o,cs,h1,h2,h3,h4⟩:=hg k l[k].dat (by simp [hk]);have:=cm_of h4;subst this;exact ⟨b,o,h1,h3,h4⟩
theorem cmid_cb {G:GH} {bl:Nat} {l:List CmD} {A:Option Addr} {n c:Nat} (hb:gcell G bl 0=some (.slice A n c)) (hv:RepV G (.sl 6 (l.map CmD.dat)) (.slice A n c)):IxCb (.func (.func 126) #[] #[.pointer (some ⟨bl,0,none⟩)]) G l.length fun k=>(l[k]?.map CmD.id).getD 0:=by
 intro k hk G1 w0 hm hG;refine callV_func (caps:=[.pointer (some ⟨bl,0,none⟩)]) en126dsc ?_;replace hb:=gcell_mono hm hb
 obtain rfl:n=l.length:=by have:=hv.len;simpa using this
 obtain ⟨b,o,rfl,hrow,-⟩:=cm_at (hv.mono hm) hk;have hq:=hrow 0 _ rfl;refine eN [(0,_),(1,_)] Tryz.func126 rfl Tryz.ntmps126 rfl rfl hG ?_;intro a H;refine c_seqR (fun _ K1=>?_);refine kH H (Ra rfl ?_);clear H;intro a H;refine K1 _ _ ?_;clear K1;refine c_seqR (fun _ K2=>?_);refine s_load ty43dsc H wn rfl (H.hp.gcell (by assumption)) rfl ?_;clear H;intro a H;refine kH H (Rm rfl ?_);clear H;intro a H;refine s_index un43dsc ty107dsc _ H wn rfl rfl rfl (by first|assumption|omega) rfl ?_;clear H;intro a H;refine kH H (Rf fd107_0dsc rfl ?_);clear H;intro a H;refine s_load ty3run H wn rfl (H.hp.gcell (by assumption)) rfl ?_;clear H;intro a H;refine kH H (Ra rfl ?_);clear H;intro a H;refine K2 _ _ ?_;clear K2;refine c_ret ?_;refine lv H Tryz.results126 rfl ?_;exact H.hp.ret (by dsimp only;rw [List.getElem?_eq_getElem hk];rfl)
theorem cmp_test {G:GH} {bc:Nat} {x:CmD} (hb:gcell G bc 1=some (vi x.parent)) (y:CmD):Tester (.func (.func 125) #[] #[.pointer (some ⟨bc,0,none⟩)]) G y.dat (decide (y.id=x.parent)):=by
 intro G1 w0 cs hm hG hr;refine callV_func (caps:=[.pointer (some ⟨bc,0,none⟩)]) en125dsc ?_;obtain rfl:=cm_of hr;replace hb:=gcell_mono hm hb;refine eN [(0,_),(1,_)] Tryz.func125 rfl Tryz.ntmps125 rfl rfl hG ?_;intro a H;refine c_seqR (fun _ K1=>?_);refine s_box (cs:=[_,_,_,_,_,_]) H wn rfl rfl rfl ?_;clear H;intro b2 a w hb2 H;refine kH H (Ra rfl ?_);clear H;intro a H;refine K1 _ _ ?_;clear K1;refine c_seqR (fun _ K2=>?_);refine kH H (Rf fd107_0dsc rfl (Ro ty3run 0 rfl rfl (Rf fd107_1dsc rfl ?_)));clear H;intro a H;refine s_load ty3run H wn rfl (H.hp.gcell (by assumption)) rfl ?_;clear H;intro a H;refine kH H (Rc rfl (Ra rfl ?_));clear H;intro a H;refine K2 _ _ ?_;clear K2;refine c_ret ?_;refine lv H Tryz.results125 rfl ?_;exact H.hp.ret rfl
theorem indexCm_spec (G:GH) (w0:World) (hG:Hold G w0) (l:List CmD) (p:CmD→Bool) (v fv:Value) (hv:RepV G (.sl 6 (l.map CmD.dat)) v) (hf:∀ x∈l,Tester fv G x.dat (p x)) :
  Calls Tryz.prog 191 #[v,fv] w0 (Ret w0 G fun u G'=>u=vi (ixI (l.findIdx? p))):=by
 obtain ⟨A,c,rfl,hc1,hc2,hg⟩:=hv.slice;have hml:maxLen=9223372036854775807:=rfl;rw [List.length_map] at *;refine eN [(0,_),(1,_)] Tryz.func191 rfl Tryz.ntmps191 rfl rfl hG ?_;intro a H;refine c_seqR (fun _ K1=>?_);refine kH H (Ra rfl ?_);clear H;intro a H;refine K1 _ _ ?_;clear K1;refine c_seq (fun _ K2=>?_);refine c_seqR (fun _ K3=>?_);refine kH H (Rm rfl (Rl un43dsc rfl (Rm rfl ?_)));clear H;intro a H;refine K3 _ _ ?_;clear K3;refine c_block ?_;skip;refine c_loopS (ι:=Nat × GH) (Tc:=[(0,_),(1,_),(7,_)]) (Lc:=[]) (fun (gh:Nat × GH)=>[(8,vi gh.1)]) (fun (gh:Nat × GH)=>[]) (fun (gh:Nat × GH)=>gh.2) (fun (gh:Nat × GH)=>gh.1≤l.length∧(l.take gh.1).findIdx? p=none∧(∀ b o,G b=some o→gh.2 b=some o)) (fun (gh:Nat × GH)=>l.length - gh.1) ((0,G)) (by exact (H).sub ⟨rfl,rfl,rfl,rfl,trivial⟩) ?_ ?_
 ·exact ⟨by omega,rfl,fun _ _ h=>h⟩
 clear H;intro gh a w hI H;obtain ⟨k,g⟩:=gh;dsimp only at hI H;obtain ⟨hk,hno,hgm⟩:=hI;dsimp only [List.cons_append,List.nil_append,List.append_nil] at H;refine c_seqR (fun _ K4=>?_);refine kH H (Rc rfl ?_);clear H;intro a H;refine K4 _ _ ?_;clear K4;refine c_seq (fun _ K5=>?_);refine c_cond H rfl ?_ ?_
 ·intro h9
  try have p9:=of_decide_eq_true h9
  have hk2:k < l.length:=by omega
  obtain ⟨b,o,rfl,hrow,hrep⟩:=cm_at hv hk2;refine c_skip ?_;refine K5 _ _ ?_;clear K5;refine c_seq (fun _ K6=>?_);refine c_block ?_;refine c_seqR (fun _ K7=>?_);refine kH H (Rm rfl (Ra rfl ?_));clear H;intro a H;refine K7 _ _ ?_;clear K7;refine c_seqR (fun _ K8=>?_);refine kH H (Rm rfl (Rm rfl (Rm rfl ?_)));clear H;intro a H;refine s_index un43dsc ty107dsc _ H wn rfl rfl rfl (by first|assumption|omega) rfl ?_;clear H;intro a H;refine s_loada ty107dsc (cs:=l[k].cells) H wn rfl rfl (fun j v hj=>H.hp.gcell (gcell_mono hgm (hrow j v hj))) rfl ?_;clear H;intro a H;refine s_callv0 H wn rfl rfl (hf _ (List.getElem_mem hk2) _ _ _ hgm H.hp.ro (hrep.mono hgm)) rfl ?_;clear H;rintro v16 G16 a w rfl hm16 H;refine K8 _ _ ?_;clear K8;refine c_cond H rfl ?_ ?_
  ·intro h16
   try have p16:=of_decide_eq_true h16
   refine c_seqR (fun _ K9=>?_);refine kH H (Rm rfl (Ra rfl ?_));clear H;intro a H;refine K9 _ _ ?_;clear K9;refine c_ret ?_;refine lv H Tryz.results191 rfl ?_
   first
    | exact H.hp.ret (by rw [idx_stop hk2 hno h16];rfl)
    | exact H.hp.ret (by rw [show l.take k=l from List.take_of_length_le (by omega)] at hno;rw [hno];rfl)
  intro h16
  try have p16:=of_decide_eq_false h16
  refine c_skip ?_;refine K6 _ _ ?_;clear K6;refine c_region ?_;refine s_add _ H wn rfl rfl rfl (by omega) (by omega) rfl ?_;clear H;intro a H;refine kH H (Rm rfl ?_);clear H;intro a H;refine wl_nil ?_;refine loop_end ((k+1,G16)) (by exact (H).sub ⟨rfl,rfl,rfl,rfl,trivial⟩) ?_ ?_
  ·(try dsimp only);exact ⟨by omega,idx_next hk2 hno h16,fun b o h=>hm16 b o (hgm b o h)⟩
  first|omega|(dsimp only;omega)
 intro h9
 try have p9:=of_decide_eq_false h9
 refine c_exit ?_;refine K2 _ _ ?_;clear K2;refine c_seqR (fun _ K10=>?_);refine kH H (Ra rfl ?_);clear H;intro a H;refine K10 _ _ ?_;clear K10;refine c_ret ?_;refine lv H Tryz.results191 rfl ?_
 first
  | exact H.hp.ret (by rw [idx_stop hk2 hno h16];rfl)
  | exact H.hp.ret (by rw [show l.take k=l from List.take_of_length_le (by omega)] at hno;rw [hno];rfl)
theorem containsCm_spec (G:GH) (w0:World) (hG:Hold G w0) (l:List CmD) (p:CmD→Bool) (v fv:Value) (hv:RepV G (.sl 6 (l.map CmD.dat)) v) (hf:∀ x∈l,Tester fv G x.dat (p x)) :
  Calls Tryz.prog 124 #[v,fv] w0 (Ret w0 G fun u G'=>u=.bool (l.findIdx? p).isSome):=by
 obtain ⟨A,c,rfl,hc1,hc2,-⟩:=hv.slice;rw [List.length_map] at *;refine eN [(0,_),(1,_)] Tryz.func124 rfl Tryz.ntmps124 rfl rfl hG ?_;intro a H;refine c_seqR (fun _ K1=>?_);refine kH H (Ra rfl ?_);clear H;intro a H;refine K1 _ _ ?_;clear K1;refine c_seqR (fun _ K2=>?_);refine kH H (Rm rfl (Rm rfl ?_));clear H;intro a H;refine s_call en191dsc H wn rfl (indexCm_spec _ _ H.hp.ro l p _ _ hv hf) rfl ?_;clear H;rintro v7 G7 a w rfl hm7 H;refine kH H (Rc rfl (Ra rfl ?_));clear H;intro a H;refine K2 _ _ ?_;clear K2;refine c_ret ?_;refine lv H Tryz.results124 rfl ?_;exact H.hp.ret (congrArg Value.bool (ixI_some _))
/-- Whether what a comment answers stands before it. -/
def befB (l:List CmD) (i:Nat) (x:CmD):Bool:=decide (x.parent=0) || ((l.take i).findIdx? fun y=>decide (y.id=x.parent)).isSome
def cmE0 (l:List CmD) (i:Nat) (x:CmD):Int:=firstE [incE (fun k=>(l[k]?.map CmD.id).getD 0) i,whenE (!befB l i x) 8,whenE (!autS x.author) 39,whenE (!decide (0≤x.time∧x.time≤1099511627776)) 40,txE x.text]
def cmE (l:List CmD) (i:Nat):Int:=match l[i]? with|some x=>cmE0 l i x|none=>0
theorem cm_cb {G:GH} {bl:Nat} {l:List CmD} {A:Option Addr} {n c:Nat} (hb:gcell G bl 0=some (.slice A n c)) (hv:RepV G (.sl 6 (l.map CmD.dat)) (.slice A n c)) (hl:l.length≤4294967296) (ht:∀ x∈l,x.author.size < 4611686018427387904∧x.text.size < 4611686018427387904):IxCb (.func (.func 123) #[] #[.pointer (some ⟨bl,0,none⟩)]) G l.length (cmE l):=by
 intro k hk G1 w0 hm hG;refine callV_func (caps:=[.pointer (some ⟨bl,0,none⟩)]) en123dsc ?_;replace hb:=gcell_mono hm hb;replace hv:=hv.mono hm;have hcb:=cmid_cb hb hv;obtain ⟨_,_,hee,hvc,-,-⟩:=hv.slice
 injection hee with _ _ hcc
 subst hcc;rw [List.length_map] at hvc
 obtain rfl:n=l.length:=by have:=hv.len;simpa using this
 obtain ⟨b,o,rfl,hrow,hrep⟩:=cm_at hv hk;have hte:=ht _ (List.getElem_mem hk);obtain ⟨x,hx⟩:∃ x,x=l[k]:=⟨_,rfl⟩;rw [← hx] at hrow hte
 have he:cmE l k=cmE0 l k x:=by unfold cmE;rw [List.getElem?_eq_getElem hk,hx]
 refine eN [(0,_),(1,_)] Tryz.func123 rfl Tryz.ntmps123 rfl rfl hG ?_;intro a H;refine c_seqR (fun _ K1=>?_);refine kH H (Ra rfl ?_);clear H;intro a H;refine K1 _ _ ?_;clear K1;refine c_seqR (fun _ K2=>?_);refine s_load ty43dsc H wn rfl (H.hp.gcell (by assumption)) rfl ?_;clear H;intro a H;refine kH H (Rm rfl ?_);clear H;intro a H;refine s_index un43dsc ty107dsc _ H wn rfl rfl rfl (by first|assumption|omega) rfl ?_;clear H;intro a H;refine s_loada ty107dsc (cs:=x.cells) H wn rfl rfl (fun j v hj=>H.hp.gcell (hrow j v hj)) rfl ?_;clear H;intro a H;refine s_alloc ty107dsc H wn rfl ?_;clear H;intro b4 a w hb4 H;refine s_store ty107dsc 0 (vs:=[_,_,_,_,_,_]) _ H wn rfl rfl rfl rfl rfl rfl rfl rfl ?_;clear H;intro w H;dsimp only [List.set,setRow] at H;obtain ⟨Ga,hma,hb4',H⟩:=H.giveBox
 have hcell:∀ (j:Nat) (u:Value),x.cells[j]?=some u→gcell Ga b4 j=some u:=fun j u hj=>by unfold gcell;rw [hb4'];simpa using hj
 have q1:=hcell 1 _ rfl;have hbA:=gcell_mono hma hb;have hv18:=(hv.mono hma).pre k (by rw [List.length_map];omega);rw [← List.map_take] at hv18;refine K2 _ _ ?_;clear K2;refine c_seqJ (ι:=Bool × GH) (Tc:=[(0,_),(1,_),(4,_)]) (Lc:=[]) (fun (gh:Bool × GH)=>[(5,.bool gh.1)]) (fun (gh:Bool × GH)=>[]) (fun (gh:Bool × GH)=>gh.2) (fun (gh:Bool × GH)=>gh.1=befB l k x∧(∀ b o,Ga b=some o→gh.2 b=some o)) (by exact (H).sub ⟨rfl,rfl,rfl,trivial⟩) ?_ ?_
 ·skip;refine c_region ?_;refine kH H (Rf fd107_1dsc rfl ?_);clear H;intro a H;refine s_load ty3run H wn rfl (H.hp.gcell (by assumption)) rfl ?_;clear H;intro a H;refine kH H (Rc rfl (Rm rfl ?_));clear H;intro a H;refine s_split H 13 rfl ?_ ?_
  ·intro h13
   try have p13:=of_decide_eq_true h13
   (iterate 5 refine s_skip H rfl rfl h13 rfl ?_;clear H;intro a H);refine s_pick_t H wn rfl h13 rfl rfl ?_;clear H;intro a H;refine kH H (Ra rfl ?_);clear H;intro a H;refine wl_nil ?_;refine ⟨(_,_),by exact (H).sub ⟨rfl,rfl,rfl,rfl,trivial⟩,?_⟩;(try dsimp only)
   first
   | exact ⟨by unfold befB;rw [decide_eq_true (by assumption)];rfl,fun _ _ h=>h⟩
   | exact ⟨by unfold befB;rw [decide_eq_false (by assumption)];rfl,hm18⟩
  intro h13
  try have p13:=of_decide_eq_false h13
  refine s_load ty43dsc H (wg H rfl rfl h13) rfl (H.hp.gcell (by assumption)) rfl ?_;clear H;intro a H;refine s_move H (wg H rfl rfl h13) rfl rfl ?_;clear H;intro a H;refine s_sliceTo un43dsc ty107dsc k H (wg H rfl rfl h13) rfl rfl rfl (by omega) rfl ?_;clear H;intro a H;refine s_makeFunc H (wg H rfl rfl h13) rfl rfl ?_;clear H;intro a H;refine s_call en124dsc H (wg H rfl rfl h13) rfl (containsCm_spec _ _ H.hp.ro (l.take k) (fun y=>decide (y.id=x.parent)) _ _ hv18 (fun y _=>cmp_test q1 y)) rfl ?_;clear H;rintro v18 G18 a w rfl hm18 H;refine s_pick_f H wn rfl h13 rfl rfl ?_;clear H;intro a H;refine kH H (Ra rfl ?_);clear H;intro a H;refine wl_nil ?_;refine ⟨(_,_),by exact (H).sub ⟨rfl,rfl,rfl,rfl,trivial⟩,?_⟩;(try dsimp only)
  first
  | exact ⟨by unfold befB;rw [decide_eq_true (by assumption)];rfl,fun _ _ h=>h⟩
  | exact ⟨by unfold befB;rw [decide_eq_false (by assumption)];rfl,hm18⟩
 clear H;intro gh a w hI H;obtain ⟨bf,g⟩:=gh;dsimp only at hI H;obtain ⟨hbf,hgm⟩:=hI;replace hcell:=fun j u hj=>gcell_mono hgm (hcell j u hj);replace hcb:=(hcb.mono hma).mono hgm;dsimp only [List.cons_append,List.nil_append,List.append_nil] at H;refine c_seq (fun _ K3=>?_);have H:=H.sub (T':=[(0,_),(1,_),(4,_),(5,_)]) ⟨rfl,rfl,rfl,rfl,trivial⟩;refine c_drawI (hmx) [[],[],[0,1],[],[3],[0,1,2,3,4],[],[6],(List.range 8),(List.range 9),(List.range 10),[],[11],(List.range 13),(List.range 14),(List.range 15),[],[16],(List.range 18),(List.range 19),(List.range 20),(List.range 21)] [19,20,21] (by kernel_rfl) (by kernel_rfl) (fun (ix_:Nat) (v:Value) (G:GH)=>match ix_ with|0=>v=vi k|1=>v=.func (.func 126) #[] #[.pointer (some ⟨bl,0,none⟩)]|2=>v=vi (incE (fun k=>(l[k]?.map CmD.id).getD 0) k)|3=>v=.bool bf|4=>v=.bool (!bf)|5=>v=vi (whenE (!bf) 8)|6=>v=.pointer (some ⟨b4,2,none⟩)|7=>v=.string x.author|8=>v=.bool (autS x.author)|9=>v=.bool (!autS x.author)|10=>v=vi (whenE (!autS x.author) 39)|11=>v=.pointer (some ⟨b4,3,none⟩)|12=>v=vi x.time|13=>v=.bool (decide (0≤x.time∧x.time≤1099511627776))|14=>v=.bool (!decide (0≤x.time∧x.time≤1099511627776))|15=>v=vi (whenE (!decide (0≤x.time∧x.time≤1099511627776)) 40)|16=>v=.pointer (some ⟨b4,4,none⟩)|17=>v=.string x.text|18=>v=vi (txE x.text)|_=>True) (fun _ _ _ _ _ h=>h) H ?_ ?_
 ·clear H;refine al4 ?_ ?_ ?_ ?_ (al4 ?_ ?_ ?_ ?_ (al4 ?_ ?_ ?_ ?_ (al4 ?_ ?_ ?_ ?_ (al4 ?_ ?_ ?_ ?_ (allI_cons ?_ (allI_cons ?_ allI_nil))))))
  ·exact Op0 rfl fun _ _ _ _ _ _ H fin=>kH H (Rm rfl fun _ H=>fin H iJ rfl)
  ·refine Op0 rfl fun _ a w G1 hG HT H fin=>?_;refine s_makeFunc H wn rfl rfl ?_;clear H;intro a H;exact fin H iJ rfl
  ·refine Op2 0 20 1 21 rfl rfl fun _ a w G1 hG HT H fin=>?_;refine s_call en121dst H wn rfl (increasing_spec _ _ H.hp.ro k _ _ (by omega) (fun i hi=>(hcb.mono hG) i (by omega))) rfl ?_;clear H;rintro v22 G22 a w rfl hGm22 H;exact fin H hGm22 (rfl)
  ·exact Op0 rfl fun _ _ _ _ _ _ H fin=>kH H (Rm rfl fun _ H=>fin H iJ rfl)
  ·exact Op1 3 23 rfl rfl fun _ _ _ _ _ _ H fin=>kH H (Rn rfl fun _ H=>fin H iJ rfl)
  ·refine Op1 4 24 rfl rfl fun _ a w G1 hG HT H fin=>?_;refine s_call en65nam H wn rfl (when_spec _ _ H.hp.ro _ 8) rfl ?_;clear H;rintro v25 G25 a w ⟨rfl,-⟩ hGm25 H;exact fin H hGm25 (rfl)
  ·exact Op0 rfl fun _ _ _ _ _ _ H fin=>kH H (Rf fd107_2dsc rfl fun _ H=>fin H iJ rfl)
  ·refine Op1 6 26 rfl rfl fun _ a w G1 hG HT H fin=>?_;refine s_load ty9run H wn rfl (H.hp.gcell (gcell_mono hG (hcell 2 _ rfl))) rfl ?_;clear H;intro a H;exact fin H iJ rfl
  ·refine Op1 7 27 rfl rfl fun _ a w G1 hG HT H fin=>?_;refine s_call en127dsc H wn rfl (author_spec _ _ H.hp.ro x.author hte.1) rfl ?_;clear H;rintro v28 G28 a w ⟨rfl,-⟩ hGm28 H;exact fin H hGm28 (rfl)
  ·exact Op1 8 28 rfl rfl fun _ _ _ _ _ _ H fin=>kH H (Rn rfl fun _ H=>fin H iJ rfl)
  ·refine Op1 9 29 rfl rfl fun _ a w G1 hG HT H fin=>?_;refine s_call en65nam H wn rfl (when_spec _ _ H.hp.ro _ 39) rfl ?_;clear H;rintro v30 G30 a w ⟨rfl,-⟩ hGm30 H;exact fin H hGm30 (rfl)
  ·exact Op0 rfl fun _ _ _ _ _ _ H fin=>kH H (Rf fd107_3dsc rfl fun _ H=>fin H iJ rfl)
  ·refine Op1 11 31 rfl rfl fun _ a w G1 hG HT H fin=>?_;refine s_load ty3run H wn rfl (H.hp.gcell (gcell_mono hG (hcell 3 _ rfl))) rfl ?_;clear H;intro a H;exact fin H iJ rfl
  ·refine Op1 12 32 rfl rfl fun _ a w G1 hG HT H fin=>?_;refine s_call en128fst H wn rfl (in_spec _ _ H.hp.ro x.time 0 1099511627776) rfl ?_;clear H;rintro v33 G33 a w ⟨rfl,-⟩ hGm33 H;exact fin H hGm33 (rfl)
  ·exact Op1 13 33 rfl rfl fun _ _ _ _ _ _ H fin=>kH H (Rn rfl fun _ H=>fin H iJ rfl)
  ·refine Op1 14 34 rfl rfl fun _ a w G1 hG HT H fin=>?_;refine s_call en65nam H wn rfl (when_spec _ _ H.hp.ro _ 40) rfl ?_;clear H;rintro v35 G35 a w ⟨rfl,-⟩ hGm35 H;exact fin H hGm35 (rfl)
  ·exact Op0 rfl fun _ _ _ _ _ _ H fin=>kH H (Rf fd107_4dsc rfl fun _ H=>fin H iJ rfl)
  ·refine Op1 16 36 rfl rfl fun _ a w G1 hG HT H fin=>?_;refine s_load ty9run H wn rfl (H.hp.gcell (gcell_mono hG (hcell 4 _ rfl))) rfl ?_;clear H;intro a H;exact fin H iJ rfl
  ·refine Op1 17 37 rfl rfl fun _ a w G1 hG HT H fin=>?_;refine s_call en129dsc H wn rfl (text_spec1 _ _ H.hp.ro x.text hte.2) rfl ?_;clear H;rintro v38 G38 a w rfl hGm38 H;exact fin H hGm38 (rfl)
  ·exact opB rfl
  ·exact opB rfl
  exact opB rfl
 clear H;intro a w G hGm3 H hv;obtain ⟨u22,hu22,hp22⟩:=hv 2 22 (by decide) rfl;obtain rfl:u22=vi (incE (fun k=>(l[k]?.map CmD.id).getD 0) k):=hp22;have H:=H.addS hu22;obtain ⟨u25,hu25,hp25⟩:=hv 5 25 (by decide) rfl;obtain rfl:u25=vi (whenE (!bf) 8):=hp25;have H:=H.addS hu25;obtain ⟨u30,hu30,hp30⟩:=hv 10 30 (by decide) rfl;obtain rfl:u30=vi (whenE (!autS x.author) 39):=hp30;have H:=H.addS hu30;obtain ⟨u35,hu35,hp35⟩:=hv 15 35 (by decide) rfl;obtain rfl:u35=vi (whenE (!decide (0≤x.time∧x.time≤1099511627776)) 40):=hp35;have H:=H.addS hu35;obtain ⟨u38,hu38,hp38⟩:=hv 18 38 (by decide) rfl;obtain rfl:u38=vi (txE x.text):=hp38;have H:=H.addS hu38;clear hv;refine s_buildSlice un221fst ty22fst [_,_,_,_,_] [_,_,_,_,_] H wn rfl rfl rfl rfl rfl (by intro i q h;match i,h with|0,h=>exact h|1,h=>exact h|2,h=>exact h|3,h=>exact h|4,h=>exact h|n+5,h=>simp at h) rfl rfl ?_;clear H;intro b39 a w hb39 H;obtain ⟨G39,hm39,hb39',H⟩:=H.giveBox;refine s_call en52nam H wn rfl (first_spec1 _ _ H.hp.ro _ _ (ints_rep [incE (fun k=>(l[k]?.map CmD.id).getD 0) k,whenE (!bf) 8,whenE (!autS x.author) 39,whenE (!decide (0≤x.time∧x.time≤1099511627776)) 40,txE x.text] hb39' (show 5≤maxLen by decide))) rfl ?_;clear H;rintro v40 _ a w ⟨rfl,rfl⟩ - H;refine kH H (Ra rfl ?_);clear H;intro a H;refine wl_nil ⟨rfl,?_⟩;refine K3 _ _ ?_;clear K3;refine c_ret ?_;refine lv H Tryz.results123 rfl ?_;exact H.hp.ret (by rw [he,cmE0,← hbf])
def chkCms (l:List CmD):Int:=firstE [whenE (decide (1024 < (l.length:Int))) 9,allE (cmE l) (min l.length 1024)]
theorem checkComments_spec (G:GH) (w0:World) (hG:Hold G w0) (l:List CmD) (v:Value) (hv:RepV G (.sl 6 (l.map CmD.dat)) v) (hl:l.length≤4294967296) (ht:∀ x∈l,x.author.size < 4611686018427387904∧x.text.size < 4611686018427387904) :
  Calls Tryz.prog 54 #[v] w0 (Ret w0 G fun u G'=>u=vi (chkCms l)):=by
 obtain ⟨A,c,rfl,hc1,hc2,-⟩:=hv.slice;rw [List.length_map] at *;refine eN [(0,_)] Tryz.func54 rfl Tryz.ntmps54 rfl rfl hG ?_;intro a H;refine c_seqR (fun _ K1=>?_);refine s_box (cs:=[_]) H wn rfl rfl rfl ?_;clear H;intro b1 a w hb1 H;refine kH H (Ra rfl ?_);clear H;intro a H;refine K1 _ _ ?_;clear K1;refine c_seq (fun _ K2=>?_);have H:=H.sub (T':=[(1,_)]) ⟨rfl,trivial⟩;obtain ⟨Ga,hma,hb1',H⟩:=H.giveBox
 have hbl:gcell Ga b1 0=some (.slice A l.length c):=by unfold gcell;rw [hb1'];rfl
 have hcb:=cm_cb hbl (hv.mono hma) hl ht;refine c_drawI (hmx) [[],[0],[0,1],[0,1,2],[],[4],[4,5],[],(List.range 8),(List.range 9),(List.range 10),(List.range 11)] [9,10,11] (by kernel_rfl) (by kernel_rfl) (fun (ix_:Nat) (v:Value) (G:GH)=>match ix_ with|0=>v=.slice A l.length c|1=>v=vi l.length|2=>v=.bool (decide (1024 < (l.length:Int)))|3=>v=vi (whenE (decide (1024 < (l.length:Int))) 9)|4=>v=.slice A l.length c|5=>v=vi l.length|6=>v=vi ((min l.length 1024:Nat):Int)|7=>v=.func (.func 123) #[] #[.pointer (some ⟨b1,0,none⟩)]|8=>v=vi (allE (cmE l) (min l.length 1024))|_=>True) (fun _ _ _ _ _ h=>h) H ?_ ?_
 ·clear H;refine al4 ?_ ?_ ?_ ?_ (al4 ?_ ?_ ?_ ?_ (al4 ?_ ?_ ?_ ?_ allI_nil))
  ·refine Op0 rfl fun _ a w G1 hG HT H fin=>?_;refine s_load ty43dsc H wn rfl (H.hp.gcell (gcell_mono hG hbl)) rfl ?_;clear H;intro a H;exact fin H iJ rfl
  ·exact Op1 0 3 rfl rfl fun _ _ _ _ _ _ H fin=>kH H (Rl un43dsc rfl fun _ H=>fin H iJ rfl)
  ·exact Op1 1 4 rfl rfl fun _ _ _ _ _ _ H fin=>kH H (Rc rfl fun _ H=>fin H iJ rfl)
  ·refine Op1 2 5 rfl rfl fun _ a w G1 hG HT H fin=>?_;refine s_call en65nam H wn rfl (when_spec _ _ H.hp.ro _ 9) rfl ?_;clear H;rintro v6 G6 a w ⟨rfl,-⟩ hGm6 H;exact fin H hGm6 (rfl)
  ·refine Op0 rfl fun _ a w G1 hG HT H fin=>?_;refine s_load ty43dsc H wn rfl (H.hp.gcell (gcell_mono hG hbl)) rfl ?_;clear H;intro a H;exact fin H iJ rfl
  ·exact Op1 4 7 rfl rfl fun _ _ _ _ _ _ H fin=>kH H (Rl un43dsc rfl fun _ H=>fin H iJ rfl)
  ·refine Op1 5 8 rfl rfl fun _ a w G1 hG HT H fin=>?_;refine s_min H wn rfl rfl rfl ?_;clear H;intro a H;exact fin H iJ (congrArg vi (by omega))
  ·refine Op0 rfl fun _ a w G1 hG HT H fin=>?_;refine s_makeFunc H wn rfl rfl ?_;clear H;intro a H;exact fin H iJ rfl
  ·refine Op2 6 9 7 10 rfl rfl fun _ a w G1 hG HT H fin=>?_;refine s_call en119dst H wn rfl (all_spec _ _ H.hp.ro (min l.length 1024) (cmE l) _ (by omega) ((hcb.mono hG).le (Nat.min_le_left _ _))) rfl ?_;clear H;rintro v11 G11 a w rfl hGm11 H;exact fin H hGm11 (rfl)
  ·exact opB rfl
  ·exact opB rfl
  exact opB rfl
 clear H;intro a w G hGm1 H hv;obtain ⟨u6,hu6,hp6⟩:=hv 3 6 (by decide) rfl;obtain rfl:u6=vi (whenE (decide (1024 < (l.length:Int))) 9):=hp6;have H:=H.addS hu6;obtain ⟨u11,hu11,hp11⟩:=hv 8 11 (by decide) rfl;obtain rfl:u11=vi (allE (cmE l) (min l.length 1024)):=hp11;have H:=H.addS hu11;clear hv;refine s_buildSlice un221fst ty22fst [_,_] [_,_] H wn rfl rfl rfl rfl rfl (by intro i q h;match i,h with|0,h=>exact h|1,h=>exact h|n+2,h=>simp at h) rfl rfl ?_;clear H;intro b12 a w hb12 H;obtain ⟨G12,hm12,hb12',H⟩:=H.giveBox;refine s_call en52nam H wn rfl (first_spec1 _ _ H.hp.ro _ _ (two_rep hb12')) rfl ?_;clear H;rintro v13 _ a w ⟨rfl,rfl⟩ - H;refine kH H (Ra rfl ?_);clear H;intro a H;refine wl_nil ⟨rfl,?_⟩;refine K2 _ _ ?_;clear K2;refine c_ret ?_;refine lv H Tryz.results54 rfl ?_;exact H.hp.ret rfl
end
section
open Go.RowKit
/-- The map that tells the place of each number of a list. -/
def mapI:Nat→List Int→List MapEntry
 | _,[]=>[]
 | i,k :: r=>⟨.int .i64 k,.int .i64 (i:Int),i⟩ :: mapI (i+1) r
theorem mapI_snoc (x:Int):∀ (i:Nat) (l:List Int),mapI i (l++[x])=mapI i l++[⟨.int .i64 x,.int .i64 ((i+l.length:Nat):Int),i+l.length⟩]
 | _,[]=>rfl
 | i,k :: r=>by
  rw [List.cons_append,mapI,mapI_snoc x (i+1) r,mapI,List.cons_append,List.length_cons,show i+1+r.length=i+(r.length+1) by omega]
def idxI (x:Int):Nat→List Int→Option Nat
 | _,[]=>none
 | i,k :: r=>if k=x then some i else idxI x (i+1) r
theorem idxI_ge {x:Int}:∀ {l:List Int} {i n:Nat},idxI x i l=some n→i≤n
 | [],_,_,h=>by cases h
 | k :: r,i,n,h=>by
  rw [idxI] at h;split at h
  ·cases h;exact Nat.le_refl _
  ·have:=idxI_ge h;omega
theorem idxI_none {x:Int}:∀ {l:List Int} {i:Nat},x∉l→idxI x i l=none
 | [],_,_=>rfl
 | k :: r,i,h=>by
  rw [idxI,if_neg (fun e=>h (by simp [e])),idxI_none (fun hm=>h (List.mem_cons_of_mem _ hm))]
theorem findNow_mapI (x:Int):∀ (i j:Nat) (l:List Int),Instr.findNow (.int .i64) (.int .i64 x) (mapI i l) j=some ((idxI x i l).map fun n=>(j+(n - i),.int .i64 (n:Int)))
 | _,_,[]=>rfl
 | i,j,k :: r=>by
  have ih:=findNow_mapI x (i+1) (j+1) r
  by_cases e:k=x
  ·subst e
   simp only [mapI,Instr.findNow,Instr.sameNow,if_pos,idxI,beq_self_eq_true]
   simp
  ·have hb:(x == k)=false:=by simp;exact fun h=>e h.symm
   simp only [mapI,Instr.findNow,Instr.sameNow,if_pos,hb,idxI,if_neg e,ih]
   cases h:idxI x (i+1) r with
   | none=>rfl
   | some n =>
    have:=idxI_ge h
    simp only [Option.map_some,Option.some.injEq,Prod.mk.injEq,and_true]
    omega
abbrev bMapI (b:Nat) (l:List Int):Nat × Obj:=(b,.map (mapI 0 l).toArray l.length)
theorem mapI_push (l:List Int) (x:Int):(mapI 0 l).toArray.push ⟨.int .i64 x,.int .i64 (l.length:Int),l.length⟩=(mapI 0 (l++[x])).toArray:=by
 rw [mapI_snoc,List.push_toArray,Nat.zero_add]
end
section
open Go.RowKit
section
variable {P:Program} {N:Nat} {D:List Deferred} {w0 w w':World} {F:Nat→Prop} {G0 G G':GH} {L L' Li Lo:OL} {T:List (Nat × Value)} {a a':Act} {Q:Exit→Act→World→Prop}
variable {r:Option Nat} {ops:Array Oper} {rest:List Oper}
/-- gv, that owns the blocks B, calls what it is handed at each of xs in turn, till it says no. -/
def IterO (P:Program) (Gi:GH) (B:OL) (gv:Value) (xs:List AP):Prop :=
 ∀ (J:Nat→GH→OL→Prop) (Jx:GH→OL→Prop) (fv:Value) (G:GH) (L:OL) (w:World),fv.cells=#[fv]→(∀ b o,Gi b=some o→G b=some o)→JMono J→XMono Jx→J 0 G L→Owns G (B++L) w→Cback P fv G xs J Jx →
  CallV P gv [fv] w (RetL w G (B++L) fun _ G' L'=>J xs.length G' L'∨Jx G' L')
theorem IterO.mono {Gi Gi':GH} {B:OL} {gv:Value} {xs:List AP} (h:IterO P Gi B gv xs) (hm:∀ b o,Gi b=some o→Gi' b=some o):IterO P Gi' B gv xs :=
 fun J Jx fv G L w h0 h1=>h J Jx fv G L w h0 fun b o hb=>h1 b o (hm b o hb)
end
end
section
open Go.RowKit
section
variable {P:Program} {N:Nat} {D:List Deferred} {w0 w w':World} {F:Nat→Prop} {G0 G G':GH} {L L' Li Lo:OL} {T:List (Nat × Value)} {a a':Act} {Q:Exit→Act→World→Prop}
variable {r:Option Nat} {ops:Array Oper} {rest:List Oper}
/-- gv, that owns the blocks B, calls what it is handed at each of xs in turn, till it says no; where fin is false, it is only said what it does where it is stopped by then. -/
def IterI (P:Program) (Gi:GH) (B:OL) (gv:Value) (xs:List AP) (fin:Bool):Prop :=
 ∀ (J:Nat→GH→OL→Prop) (Jx:GH→OL→Prop) (fv:Value) (G:GH) (L:OL) (w:World),fv.cells=#[fv]→(∀ b o,Gi b=some o→G b=some o)→JMono J→XMono Jx→J 0 G L→Owns G (B++L) w→Cback P fv G xs J Jx→(fin=false→∀ g l,¬ J xs.length g l) →
  CallV P gv [fv] w (RetL w G (B++L) fun _ G' L'=>J xs.length G' L'∨Jx G' L')
theorem IterI.mono {Gi Gi':GH} {B:OL} {gv:Value} {xs:List AP} {fin:Bool} (h:IterI P Gi B gv xs fin) (hm:∀ b o,Gi b=some o→Gi' b=some o):IterI P Gi' B gv xs fin :=
 fun J Jx fv G L w h0 h1=>h J Jx fv G L w h0 fun b o hb=>h1 b o (hm b o hb)
theorem c_rangeI {fin:Bool} {B:OL} {gop:Operand} {ps:List Nat} {assign body:Code} {gf:FuncId} {caps:List Value} {xs:List AP} {Gi:GH}
  (H:St N D w0 F G0 G (B++L) T a w) (hg:ev T gop=some (.func (.func gf) #[] caps.toArray)) (en:∀ args w,(callFunc gf args).run P w=.ok (.enter gf args) w) (hit:IterI P Gi B (.func (.func gf) #[] caps.toArray) xs fin) (hGi:∀ b o,Gi b=some o→G b=some o)
  (hps:ps.all (Nat.blt · N)=true) (hlen:∀ k args g,AtAP xs k args g→args.length=ps.length)
  (J:Nat→GH→OL→Prop) (Jx:Code→GH→OL→Prop) (hno:fin=false→∀ g l,¬ J xs.length g l) (hJm:JMono J) (hJx:∀ c,XMono (Jx c)) (h0:J 0 G L) (hround:RoundOk P N ps assign body T G J Jx xs)
  (hdone:∀ Dk G1 L1 a1 w1,(∀ b o,G b=some o→G1 b=some o)→J xs.length G1 L1→St N ({ target:=.collected Dk,args:=#[] } :: D) w0 F G0 G1 ((Dk,.deferred (some [])) :: L1) T a1 w1→Q .normal a1 w1)
  (hstop:∀ Dk c G1 L1 a1 w1,(∀ b o,G b=some o→G1 b=some o)→Jx c G1 L1→St N ({ target:=.collected Dk,args:=#[] } :: D) w0 F G0 G1 ((Dk,.deferred (some [])) :: L1) T a1 w1→WP none P c Q a1 w1) :
  WP none P (.rangeFunc gop ps.toArray assign body) Q a w:=by
 refine wpIn_rangeFunc ?_
 intro fn _
 have hev:=H.ev hg
 let q:Rec:=⟨fn,a.tmps,ps.toArray,assign,body,w.heap.size⟩
 obtain ⟨W1,hW1⟩:∃ W1,W1=(w.alloc (.deferred (some []))).alloc (q.at .ready none):=⟨_,rfl⟩
 have H1:Hp w0 F G0 G (B++((w.heap.size+1,q.at .ready none) :: (w.heap.size,.deferred (some [])) :: L)) W1:=by
  have:=(H.hp.alloc (.deferred (some []))).alloc (q.at .ready none)
  rw [World.size_alloc] at this
  rw [hW1]
  refine this.perm ?_
  have e:=List.perm_append_comm (l₁:=[(w.heap.size+1,q.at .ready none),(w.heap.size,Obj.deferred (some []))]) (l₂:=B)
  have e2:=List.Perm.append_right L e
  rw [List.append_assoc,List.append_assoc] at e2
  exact e2
 refine ⟨w.heap.size+1,[{ target:=.collected w.heap.size,args:=#[] }],W1,{ target:=.fn (.func gf) caps.toArray,args:=#[.func (.yield (w.heap.size+1)) #[] #[]] },W1,gf,
  #[.func (.yield (w.heap.size+1)) #[] #[]]++caps.toArray,W1,by rw [hW1];exact run_enterLoop_outer fn a.tmps ps.toArray assign body,?_,fun _ _=>trivial,?_,FW_depth none,?_⟩
 ·simp only [resolve,rangeCall,hev]
  simp [Deferred.ofValue,Act.eval]
 ·simp [invoke,en]
 ·have hcv:=hit (fun k=>Jr (w.heap.size+1) q [(w.heap.size,.deferred (some []))] (J k)) (Jrx (w.heap.size+1) q [(w.heap.size,.deferred (some []))] Jx) (.func (.yield (w.heap.size+1)) #[] #[]) G
   ((w.heap.size+1,q.at .ready none) :: (w.heap.size,.deferred (some [])) :: L) W1 rfl hGi (fun k G G' L hm ⟨Lu,e,h⟩=>⟨Lu,e,hJm k G G' Lu hm h⟩) (fun G G' L hm ⟨c,Lu,e,h⟩=>⟨c,Lu,e,hJx c G G' Lu hm h⟩) ⟨L,rfl,h0⟩ (Hp.owns (Li:=[]) H1) (cback_yield H.asz H.get hps hlen hround) (fun e g l ⟨Lu,_,h⟩=>hno e g Lu h)
  replace hcv:=hcv.go
  have e:(do let d ← Deferred.ofValue (.func (.func gf) #[] caps.toArray) [Value.func (.yield (w.heap.size+1)) #[] #[]].toArray;invoke d.target d.args:Sem Next).run P W1=.ok (.enter gf (#[.func (.yield (w.heap.size+1)) #[] #[]]++caps.toArray)) W1:=by
   simp [Deferred.ofValue,invoke,en]
  rw [e] at hcv
  refine (callsIn_of_calls hcv).mono ?_
  rintro e w2 ⟨v,G2,L2,rfl,hch,hJ⟩
  have H2:=Hp.change (Li:=[]) H1 hch
  rcases hJ with ⟨Lu,rfl,hJ⟩|⟨c,Lu,rfl,hJ⟩
  ·have hl:=H2.own _ (List.mem_cons_self)
   have H3:=(H2.upd (i:=0) rfl (upd_putObj (q.at .exhausted none) hl)).drop (List.sublist_cons_self _ _)
   exact ⟨none,_,run_endLoop hl (by simp),hdone _ G2 Lu _ _ hch.gm hJ ⟨H.asz,H.get,by simp [H.dfr],H3⟩⟩
  ·have hl:=H2.own _ (List.mem_cons_self)
   have H3:=(H2.upd (i:=0) rfl (upd_putObj (q.at .exhausted (some c)) hl)).drop (List.sublist_cons_self _ _)
   exact ⟨some c,_,run_endLoop hl (by simp),hstop _ c G2 Lu _ _ hch.gm hJ ⟨H.asz,H.get,by simp [H.dfr],H3⟩⟩
/-- A range over a function whose state is told by ghosts. -/
theorem c_rangeJI {fin:Bool} {B:OL} {ι κ:Type} {Lc:OL} {gop:Operand} {ps:List Nat} {assign body:Code} {gf:FuncId} {caps:List Value} {xs:List AP} {Gi:GH}
  (Lv:Nat→ι→OL) (Lt:Nat→ι→OL) (inv:Nat→ι→GH→Prop) (cx:κ→Code) (Lx Lxt:κ→OL) (invx:κ→GH→Prop) (i0:ι)
  (H:St N D w0 F G0 G (B++(Lc++Lv 0 i0++Lt 0 i0)) T a w) (hg:ev T gop=some (.func (.func gf) #[] caps.toArray)) (en:∀ args w,(callFunc gf args).run P w=.ok (.enter gf args) w) (hit:IterI P Gi B (.func (.func gf) #[] caps.toArray) xs fin) (hGi:∀ b o,Gi b=some o→G b=some o)
  (hno:fin=false→∀ i g,¬ inv xs.length i g) (hps:ps.all (Nat.blt · N)=true) (hlen:∀ k args g,AtAP xs k args g→args.length=ps.length) (hinv:∀ k i (G G':GH),(∀ b o,G b=some o→G' b=some o)→inv k i G→inv k i G') (hinvx:∀ x (G G':GH),(∀ b o,G b=some o→G' b=some o)→invx x G→invx x G') (h0:inv 0 i0 G)
  (round:∀ (l:Nat) (rdy bsy:Obj) (bk:OL) (k:Nat) (args:List Value) (i:ι) (G1:GH) (w1:World) (F1:Nat→Prop) (B1:Code→Exit→Act→World→Prop) (a1:Act),AtAP xs k args G1→(∀ b o,G b=some o→G1 b=some o)→inv k i G1 →
   (∀ T' G2 L2 a2 w2 c,St N [] w1 F1 G1 G2 ((l,rdy) :: L2) T' a2 w2→(∀ w3,St N [] w1 F1 G1 G2 ((l,bsy) :: L2) T' a2 w3→WP (some l) P c (B1 c) a2 w3)→Exit.then (fun a2 w2=>∃ w3,(Instr.beginRound l).run P w2=.ok () w3∧c.wpIn (FW (some l)) 0 P (B1 c) a2 w3) (fun _ _ _=>False) .normal a2 w2) →
   (∀ i' T' G2 a2 w2 c,St N [] w1 F1 G1 G2 ((l,bsy) :: (Lc++Lv (k+1) i'++(bk++Lt (k+1) i'))) T' a2 w2→inv (k+1) i' G2→B1 c .normal a2 w2) →
   (∀ x T' G2 a2 w2 c,St N [] w1 F1 G1 G2 ((l,bsy) :: (Lc++Lx x++(bk++Lxt x))) T' a2 w2→invx x G2→(cx x=.ret→B1 c .ret a2 w2)∧∀ n,cx x=.exit n→B1 c (.exit n) a2 w2) →
   St N [] w1 F1 G1 G1 ((l,rdy) :: (Lc++Lv k i++(bk++Lt k i))) (asg ps args T) a1 w1 →
   WP (some l) P assign (Exit.then (fun a2 w2=>∃ w3,(Instr.beginRound l).run P w2=.ok () w3∧body.wpIn (FW (some l)) 0 P (B1 body) a2 w3) (fun _ _ _=>False)) a1 w1)
  (hdone:∀ Dk i G1 a1 w1,(∀ b o,G b=some o→G1 b=some o)→inv xs.length i G1→St N ({ target:=.collected Dk,args:=#[] } :: D) w0 F G0 G1 ((Dk,.deferred (some [])) :: (Lc++Lv xs.length i++Lt xs.length i)) T a1 w1→Q .normal a1 w1)
  (hstop:∀ Dk x G1 a1 w1,(∀ b o,G b=some o→G1 b=some o)→invx x G1→St N ({ target:=.collected Dk,args:=#[] } :: D) w0 F G0 G1 ((Dk,.deferred (some [])) :: (Lc++Lx x++Lxt x)) T a1 w1→WP none P (cx x) Q a1 w1) :
  WP none P (.rangeFunc gop ps.toArray assign body) Q a w:=by
 refine c_rangeI (J:=fun k g L=>∃ i,L=Lc++Lv k i++Lt k i∧inv k i g) (Jx:=fun c g L=>∃ x,c=cx x∧L=Lc++Lx x++Lxt x∧invx x g) H hg en hit hGi hps hlen (hno:=fun e g l ⟨i,_,h⟩=>hno e i g h) (fun k G G' L hm ⟨i,e,h⟩=>⟨i,e,hinv k i G G' hm h⟩) (fun c G G' L hm ⟨x,e1,e2,h⟩=>⟨x,e1,e2,hinvx x G G' hm h⟩) ⟨i0,rfl,h0⟩ ?_ ?_ ?_
 ·rintro l q bk k args G1 L1 w1 a1 hk hm ⟨i,rfl,hi⟩ H1
  have pm:∀ A B:OL,(bk++(A++B)).Perm (A++(bk++B)):=fun A B=>by
   rw [← List.append_assoc,← List.append_assoc]
   exact List.Perm.append_right B List.perm_append_comm
  refine round l (q.at .ready none) (q.at .busy none) bk k args i G1 w1 _ (fun _=>roundPost P l _) a1 hk hm hi ?_ ?_ ?_ (H1.perm (List.Perm.cons _ (pm _ _)))
  ·intro T' G2 L2 a2 w2 c H2 h
   exact c_begin H2 h
  ·intro i' T' G2 a2 w2 c H2 h2
   exact round_end none (H2.perm (List.Perm.cons _ (pm _ _).symm)) ⟨_,rfl,i',rfl,h2⟩
  ·intro x T' G2 a2 w2 c H2 h2
   have H3:=H2.perm (List.Perm.cons _ (pm _ _).symm)
   refine ⟨fun e=>?_,fun n e=>?_⟩
   ·exact round_end (some .ret) H3 ⟨_,_,rfl,x,e.symm,rfl,h2⟩
   ·exact round_end (some (.exit n)) H3 ⟨_,_,rfl,x,e.symm,rfl,h2⟩
 ·rintro Dk G1 L1 a1 w1 hm ⟨i,rfl,hi⟩ H1
  exact hdone Dk i G1 a1 w1 hm hi H1
 ·rintro Dk c G1 L1 a1 w1 hm ⟨x,rfl,rfl,hx⟩ H1
  exact hstop Dk x G1 a1 w1 hm hx H1
end
end
section
open Go.RowKit
theorem un137chn:Tryz.prog.underlying 137=some (.map 3 3):=by kernel_rfl
theorem ty41chn:Ty Tryz.prog 41 1 24 [.slice none 0 0] false:=⟨by kernel_rfl,by kernel_rfl⟩
theorem fd100_3chn:Fld Tryz.prog 100 3 3:=⟨by kernel_rfl⟩
theorem en181chn:∀ args w,(callFunc 181 args).run Tryz.prog w=.ok (.enter 181 args) w:=enters Tryz.func181 rfl (by kernel_rfl)
theorem idxI_lt {x:Int}:∀ {l:List Int} {i n:Nat},idxI x i l=some n→n < i+l.length
 | [],_,_,h=>by cases h
 | k :: r,i,n,h=>by
  rw [idxI] at h;split at h
  ·cases h;simp
  have:=idxI_lt h;simp only [List.length_cons];omega
/-- The chain of a style: at most so many of its styles. -/
def chF (l:List StyleD):Nat→Int→List StyleD
 | 0,_=>[]
 | f+1,id=>if id=0 then [] else match idxI id 0 (l.map StyleD.id) with|none=>[]|some i=>match l[i]? with|none=>[]|some s=>s :: chF l f s.base
def chL (l:List StyleD) (id:Int):List StyleD:=chF l (l.length+1) id
theorem chF_zero {l:List StyleD} {f:Nat} {id:Int} (h:id=0):chF l f id=[]:=by
 cases f with
 | zero=>rfl
 | succ f=>rw [chF,if_pos h]
theorem chF_none {l:List StyleD} {f:Nat} {id:Int} (h0:¬ id=0) (h:idxI id 0 (l.map StyleD.id)=none):chF l f id=[]:=by
 cases f with
 | zero=>rfl
 | succ f=>rw [chF,if_neg h0,h]
theorem chF_some {l:List StyleD} {f i:Nat} {id:Int} (h0:¬ id=0) (h:idxI id 0 (l.map StyleD.id)=some i) (hi:i < l.length):chF l (f+1) id=l[i] :: chF l f l[i].base:=by
 rw [chF,if_neg h0,h];dsimp only;rw [List.getElem?_eq_getElem hi]
def stP (x:StyleD):AP:=fun args g=>∃ cs,args=[.agg cs.toArray]∧RepRow g x.dat cs
theorem st_at {A:List StyleD} {k:Nat} {args:List Value} {g:GH} (h:AtAP (A.map stP) k args g):∃ (hk:k < A.length) (cs:List Value),args=[.agg cs.toArray]∧RepRow g A[k].dat cs:=by
 obtain ⟨p,hp,hargs⟩:=h;rw [List.getElem?_map] at hp;obtain ⟨q,hq,rfl⟩:=Option.map_eq_some_iff.1 hp;obtain ⟨hk,rfl⟩:=List.getElem?_eq_some_iff.1 hq;obtain ⟨cs,h1,h2⟩:=hargs;exact ⟨hk,cs,h1,h2⟩
abbrev bI (b:Nat) (n:Int):Nat × Obj:=(b,.cells #[vi n] 3 (0,0))
set_option maxHeartbeats 1000000 in
theorem chain1_iter {G:GH} {bl bi:Nat} {l:List StyleD} {id:Int} {v:Value} (hb:gcell G bl 0=some v) (hv:RepV G (.sl 6 (l.map StyleD.dat)) v) (hnd:∀ (k:Nat) (h:k < l.length),l[k].id∉(l.take k).map StyleD.id) :
  IterI Tryz.prog G [bI bi id] (.func (.func 181) #[] #[.pointer (some ⟨bl,0,none⟩),.pointer (some ⟨bi,0,none⟩)]) ((chL l id).map stP) (decide ((chL l id).length≤l.length)):=by
 intro J Jx fv G1 L w0 hfv hGi hJm hJx hJ hO hcb hfin;refine callV_func (caps:=[.pointer (some ⟨bl,0,none⟩),.pointer (some ⟨bi,0,none⟩)]) en181chn ?_;obtain ⟨A,c,rfl,hc1,hc2,-⟩:=hv.slice;have hml:maxLen=9223372036854775807:=rfl;rw [List.length_map] at *;replace hb:=gcell_mono hGi hb;replace hv:=hv.mono hGi;refine enterL (N:=46) (T:=[(0,_),(1,_),(2,_)]) Tryz.func181 rfl Tryz.ntmps181 rfl rfl hO ?_;intro a H;refine c_seqR (fun _ K1=>?_);refine s_makeMap H wn rfl ?_;clear H;intro bm a w hbm H;refine kH H (Ra rfl ?_);clear H;intro a H;refine K1 _ _ ?_;clear K1;refine c_seq (fun _ K2=>?_);refine c_seqR (fun _ K3=>?_);refine s_load ty41chn H wn rfl (H.hp.gcell (by assumption)) rfl ?_;clear H;intro a H;refine kH H (Rl un41sty rfl (Rm rfl ?_));clear H;intro a H;refine K3 _ _ ?_;clear K3;refine c_block ?_;skip;refine c_loopS (ι:=Nat) (Tc:=[(0,_),(1,_),(2,_),(4,_),(10,_),(11,_)]) (Lc:=[(_,_)]) (fun (gh:Nat)=>[(12,vi gh)]) (fun (gh:Nat)=>[bMapI bm ((l.take gh).map StyleD.id)]++L) (fun (gh:Nat)=>G1) (fun (gh:Nat)=>gh≤l.length) (fun (gh:Nat)=>l.length - gh) (0) (by exact (H.pickT (Pl:=[_,_]) (Pl':=[_,_]) [1,0] (by decide) rfl).sub ⟨rfl,rfl,rfl,rfl,rfl,rfl,rfl,trivial⟩) ?_ ?_
 ·exact Nat.zero_le _
 clear H;intro gh a w hI H;obtain ⟨k,hgh⟩:∃ x,x=gh:=⟨_,rfl⟩;subst hgh;have hk:=hI;dsimp only [List.cons_append,List.nil_append,List.append_nil] at H;refine c_seqR (fun _ K4=>?_);refine kH H (Rc rfl ?_);clear H;intro a H;refine K4 _ _ ?_;clear K4;refine c_seq (fun _ K5=>?_);refine c_cond H rfl ?_ ?_
 ·intro h13
  try have p13:=of_decide_eq_true h13
  have hk2:k < l.length:=by omega
  obtain ⟨b,o,pA,pc,rfl,hrow,hp,hrep⟩:=style_at hv hk2;have hnin:=hnd k hk2
  have hlk:((l.take k).map StyleD.id).length=k:=by rw [List.length_map,List.length_take];omega
  have hnx:(l.take k).map StyleD.id++[l[k].id]=(l.take (k+1)).map StyleD.id:=by rw [List.take_succ_eq_append_getElem hk2,List.map_append];rfl
  refine c_skip ?_;refine K5 _ _ ?_;clear K5;refine c_seq (fun _ K6=>?_);refine c_block ?_;refine c_seqR (fun _ K7=>?_);refine kH H (Rm rfl ?_);clear H;intro a H;refine s_index un41sty ty100sty _ H wn rfl rfl rfl (by first|assumption|omega) rfl ?_;clear H;intro a H;refine s_loada ty100sty (cs:=[_,_,_,_,_,_]) H wn rfl rfl (fun j v hj=>H.hp.gcell (hrow j v hj)) rfl ?_;clear H;intro a H;refine s_alloc ty100sty H wn rfl ?_;clear H;intro b6 a w hb6 H;refine kH H (Ra rfl ?_);clear H;intro a H;refine s_store ty100sty 0 (vs:=[_,_,_,_,_,_]) _ H wn rfl rfl rfl rfl rfl rfl rfl rfl ?_;clear H;intro w H;dsimp only [List.set,setRow] at H;refine K7 _ _ ?_;clear K7;refine c_region ?_;refine kH H (Rm rfl (Rf fd100_0sty rfl (Ro ty3run 0 rfl rfl (Rm rfl ?_))));clear H;intro a H;refine s_mapNew (i:=2) (ky:=vi l[k].id) (v:=vi k) un137chn un3cp H wn rfl rfl rfl rfl (by trivial) (by rw [List.toList_toArray,findNow_mapI,idxI_none hnin];rfl) ?_;clear H;intro w H
  have hpush:((mapI 0 ((l.take k).map StyleD.id)).toArray.push ⟨vi l[k].id,vi k,((l.take k).map StyleD.id).length⟩)=(mapI 0 ((l.take (k+1)).map StyleD.id)).toArray:=by rw [← hnx,← mapI_push,hlk]
  rw [hpush,show ((l.take k).map StyleD.id).length+1=((l.take (k+1)).map StyleD.id).length by rw [← hnx];simp] at H;refine wl_nil ?_;refine K6 _ _ ?_;clear K6;refine c_region ?_;refine s_add _ H wn rfl rfl rfl (by omega) (by omega) rfl ?_;clear H;intro a H;refine kH H (Rm rfl ?_);clear H;intro a H;refine wl_nil ?_;refine loop_end ((k+1)) (by exact (H.pickT (Pl:=[_,_,_]) (Pl':=[_,_]) [1,2] (by decide) rfl).sub ⟨rfl,rfl,rfl,rfl,rfl,rfl,rfl,trivial⟩) ?_ ?_
  ·exact by omega
  first|omega|(dsimp only;omega)
 intro h13
 try have p13:=of_decide_eq_false h13
 obtain rfl:k=l.length:=by omega
 rw [List.take_length] at H;refine c_exit ?_;refine K2 _ _ ?_;clear K2;refine c_block ?_;skip;refine c_loopS (ι:=Int × Nat × Nat × OL × GH) (Tc:=[(0,_),(1,_),(2,_),(4,_)]) (Lc:=[(_,_)]) (fun (gh:Int × Nat × Nat × OL × GH)=>[]) (fun (gh:Int × Nat × Nat × OL × GH)=>[bI bi gh.1]++gh.2.2.2.1) (fun (gh:Int × Nat × Nat × OL × GH)=>gh.2.2.2.2) (fun (gh:Int × Nat × Nat × OL × GH)=>(∀ b o,G1 b=some o→gh.2.2.2.2 b=some o)∧Now ((chL l id).map stP) stP J (chL l id).length gh.2.2.1 (chF l gh.2.1 gh.1) gh.2.2.2.2 gh.2.2.2.1∧gh.2.2.1+gh.2.1=l.length+1) (fun (gh:Int × Nat × Nat × OL × GH)=>gh.2.1) ((id,l.length+1,0,L,G1)) (by exact (H.pickT (Pl:=[_,_]) (Pl':=[_,_]) [1,0] (by decide) rfl).sub ⟨rfl,rfl,rfl,rfl,trivial⟩) ?_ ?_
 ·exact ⟨fun _ _ h=>h,⟨hJ,fun i a h=>by rw [Nat.zero_add,List.getElem?_map];rw [show chF l (l.length+1) id=chL l id from rfl] at h;rw [h];rfl,Nat.zero_add _⟩,Nat.zero_add _⟩
 clear H;intro gh a w hI H;obtain ⟨i,f,j1,Lt,g⟩:=gh;dsimp only at hI H;obtain ⟨hgm,hnow,hjf⟩:=hI;have hbg:=gcell_mono hgm hb;dsimp only [List.cons_append,List.nil_append,List.append_nil] at H;refine c_seq (fun _ K8=>?_);refine c_seqR (fun _ K9=>?_);refine kH H (Ro ty3run 1 rfl rfl (Rc rfl ?_));clear H;intro a H;refine K9 _ _ ?_;clear K9;refine c_cond H rfl ?_ ?_
 ·intro h23
  try have p23:=of_decide_eq_true h23
  have h0:¬ i=0:=by simpa using h23
  obtain ⟨an,han⟩:∃ an,an=idxI i 0 (l.map StyleD.id):=⟨_,rfl⟩;have hfn:=findNow_mapI i 0 0 (l.map StyleD.id);rw [← han] at hfn;refine c_skip ?_;refine K8 _ _ ?_;clear K8;refine c_block ?_;refine c_seqR (fun _ K10=>?_);refine kH H (Rm rfl (Ro ty3run 1 rfl rfl ?_));clear H;intro a H;refine s_lookup (i:=0) (zv:=vi 0) _ un137chn un3cp (by kernel_rfl) H wn rfl rfl rfl (by trivial) (by simpa using hfn) rfl ?_;clear H;intro a H;refine kH H (Rm rfl ?_);clear H;intro a H;(iterate 2 refine s_extract H wn rfl rfl rfl ?_;clear H;intro a H);refine kH H (Ra rfl (Ra rfl ?_));clear H;intro a H;refine K10 _ _ ?_;clear K10;refine c_seq (fun _ K11=>?_);refine c_seqR (fun _ K12=>?_);refine kH H (Rm rfl (Rn rfl (Rm rfl ?_)));clear H;intro a H;refine s_split H 32 rfl ?_ ?_
  ·intro h32
   try have p32:=of_decide_eq_true h32
   obtain rfl:an=none:=by
    cases an with
    | none=>rfl
    | some n=>simp [mapV] at h32
   rw [chF_none h0 han.symm] at hnow;(iterate 7 refine s_skip H rfl rfl h32 rfl ?_;clear H;intro a H);refine s_pick_t H wn rfl h32 rfl rfl ?_;clear H;intro a H;refine K12 _ _ ?_;clear K12;refine c_cond_t H rfl rfl ?_;refine c_ret ?_;refine (leave0 H Tryz.results181 ?_).1;refine H.hp.retD (L':=Lt) (by repeat (first|exact List.Sublist.refl _|apply List.Sublist.cons)) (.inl ?_);have h:=hnow.len
   simp only [List.length_nil,Nat.add_zero] at h
   rw [← h];exact hnow.now
  intro h32
  try have p32:=of_decide_eq_false h32
  obtain ⟨n,rfl⟩:∃ n,an=some n:=by
   cases an with
   | none=>simp [mapV] at h32
   | some n=>exact ⟨n,rfl⟩
  have hnl:n < l.length:=by have:=idxI_lt han.symm;simpa using this
  obtain ⟨f',rfl⟩:∃ f',f=f'+1:=by
   cases f with
   | succ f'=>exact ⟨f',rfl⟩
   | zero =>
    exfalso
    have hl:=hnow.len
    simp only [chF,List.length_nil,Nat.add_zero] at hl
    refine hfin (decide_eq_false (by omega)) g Lt ?_;rw [← hl];exact hnow.now
  rw [chF_some h0 han.symm hnl] at hnow;dsimp only [mapV,Option.map_some] at H;obtain ⟨b,o,pA,pc,rfl,hrow,hp,hrep⟩:=style_at (hv.mono hgm) hnl;refine s_move H (wg H rfl rfl h32) rfl rfl ?_;clear H;intro a H;refine s_load ty41chn H (wg H rfl rfl h32) rfl (H.hp.gcell (by assumption)) rfl ?_;clear H;intro a H;refine s_move H (wg H rfl rfl h32) rfl rfl ?_;clear H;intro a H;refine s_index un41sty ty100sty _ H (wg H rfl rfl h32) rfl rfl rfl (by first|assumption|omega) rfl ?_;clear H;intro a H;refine s_loada ty100sty (cs:=[_,_,_,_,_,_]) H (wg H rfl rfl h32) rfl rfl (fun j v hj=>H.hp.gcell (hrow j v hj)) rfl ?_;clear H;intro a H;refine s_callv (Li:=[_,_]) (L:=Lt) H (wg H rfl rfl h32) rfl rfl (hcb j1 _ _ _ _ ⟨_,hnow.head,_,rfl,hrep⟩ hgm hnow.now (Hp.owns (Li:=[_,_]) H.hp)) rfl ?_;clear H;rintro v38 G38 Lt38 a w ⟨b38,rfl,hb1,hb2⟩ hm38 H;have hbg:=gcell_mono hm38 hbg;have r3:=gcell_mono hm38 (hrow 3 _ rfl);refine s_not H (wg H rfl rfl h32) rfl rfl ?_;clear H;intro a H;refine s_pick_f H wn rfl h32 rfl rfl ?_;clear H;intro a H;refine K12 _ _ ?_;clear K12;refine c_cond H rfl ?_ ?_
  ·intro h40
   try have p40:=of_decide_eq_true h40
   refine c_ret ?_;refine (leave0 H Tryz.results181 ?_).1;exact H.hp.retD (L':=Lt38) (by repeat (first|exact List.Sublist.refl _|apply List.Sublist.cons)) (.inr (hb2 (by simpa using h40)))
  intro h40
  try have p40:=of_decide_eq_false h40
  refine c_skip ?_;refine K11 _ _ ?_;clear K11;refine c_region ?_;refine s_load ty41chn H wn rfl (H.hp.gcell (by assumption)) rfl ?_;clear H;intro a H;refine kH H (Rm rfl ?_);clear H;intro a H;refine s_index un41sty ty100sty _ H wn rfl rfl rfl (by first|assumption|omega) rfl ?_;clear H;intro a H;refine kH H (Rf fd100_3chn rfl ?_);clear H;intro a H;refine s_load ty3run H wn rfl (H.hp.gcell (by assumption)) rfl ?_;clear H;intro a H;refine s_store ty3run 1 (vs:=[_]) _ H wn rfl rfl rfl rfl rfl rfl rfl rfl ?_;clear H;intro w H;dsimp only [List.set,setRow] at H;refine wl_nil ?_;refine loop_end ((l[n].base,f',j1+1,Lt38,G38)) (by exact (H).sub ⟨rfl,rfl,rfl,rfl,trivial⟩) ?_ ?_
  ·(try dsimp only);exact ⟨fun b o h=>hm38 b o (hgm b o h),hnow.step (hb1 (by simpa using h40)),by omega⟩
  first|omega|(dsimp only;omega)
 intro h23
 try have p23:=of_decide_eq_false h23
 refine c_exit ?_;refine (leave0 H Tryz.results181 ?_).2;rw [chF_zero (by simpa using h23)] at hnow;refine H.hp.retD (L':=Lt) (by repeat (first|exact List.Sublist.refl _|apply List.Sublist.cons)) (.inl ?_);have h:=hnow.len
 simp only [List.length_nil,Nat.add_zero] at h
 rw [← h];exact hnow.now
end
section
open Go.RowKit
theorem en105chk:∀ args w,(callFunc 105 args).run Tryz.prog w=.ok (.enter 105 args) w:=enters Tryz.func105 rfl (by kernel_rfl)
theorem en103chk:∀ args w,(callFunc 103 args).run Tryz.prog w=.ok (.enter 103 args) w:=enters Tryz.func103 rfl (by kernel_rfl)
theorem en104chk:∀ args w,(callFunc 104 args).run Tryz.prog w=.ok (.enter 104 args) w:=enters Tryz.func104 rfl (by kernel_rfl)
theorem fd100_4chk:Fld Tryz.prog 100 4 4:=⟨by kernel_rfl⟩
theorem chain_spec {G:GH} {w0:World} (hO:Owns G [] w0) (l:List StyleD) (id:Int) (v:Value) (hv:RepV G (.sl 6 (l.map StyleD.dat)) v) :
  Calls Tryz.prog 105 #[v,vi id] w0 (RetL w0 G [] fun u G' L'=>∃ bl bi,u=.func (.func 181) #[] #[.pointer (some ⟨bl,0,none⟩),.pointer (some ⟨bi,0,none⟩)]∧L'=[bI bi id]∧gcell G' bl 0=some v):=by
 obtain ⟨A,c,rfl,hc1,hc2,-⟩:=hv.slice;refine enterL (N:=6) (T:=[(0,_),(1,_)]) Tryz.func105 rfl Tryz.ntmps105 rfl rfl hO ?_;intro a H;refine c_seqR (fun _ K1=>?_);refine s_box (cs:=[_]) H wn rfl rfl rfl ?_;clear H;intro b2 a w hb2 H;refine s_box (cs:=[_]) H wn rfl rfl rfl ?_;clear H;intro b3 a w hb3 H;refine kH H (Ra rfl ?_);clear H;intro a H;refine K1 _ _ ?_;clear K1;refine c_seqR (fun _ K2=>?_);refine s_makeFunc H wn rfl rfl ?_;clear H;intro a H;refine kH H (Ra rfl ?_);clear H;intro a H;refine K2 _ _ ?_;clear K2;refine c_ret ?_;refine lv H Tryz.results105 rfl ?_;have H:=H.pickT (Pl:=[_,_]) (Pl':=[_,_]) [1,0] (by decide) rfl;obtain ⟨Ga,hma,hb2',H⟩:=H.giveBox;exact H.hp.retL ⟨b2,b3,rfl,rfl,by unfold gcell;rw [hb2'];rfl⟩
/-- The first of some errors. -/
def errF (p:Nat→Int):Nat→Nat→Int
 | _,0=>0
 | k,n+1=>if p k=0 then errF p (k+1) n else p k
theorem errF_step {p:Nat→Int} {k m:Nat} (h:k < m):errF p k (m - k)=if p k=0 then errF p (k+1) (m - (k+1)) else p k:=by
 obtain ⟨n,hn⟩:∃ n,m - k=n+1:=⟨m - k - 1,by omega⟩;rw [hn,errF,show m - (k+1)=n by omega]
theorem errF_end {p:Nat→Int} {k m:Nat} (h:m≤k):errF p k (m - k)=0:=by rw [show m - k=0 by omega];rfl
theorem errF_zero {p:Nat→Int}:∀ {n k:Nat},errF p k n=0→∀ j,k≤j→j < k+n→p j=0
 | 0,k,_,j,h1,h2=>by omega
 | n+1,k,h,j,h1,h2=>by
  rw [errF] at h;split at h
  ·rename_i hp
   by_cases e:j=k
   ·rw [e];exact hp
   exact errF_zero h j (by omega) (by omega)
  rename_i hp;exact absurd h hp
def ownAt (l:List StyleD) (k:Nat):Int:=match l[k]? with|some s=>ownS l k s|none=>0
theorem ownAt_in {l:List StyleD} {k:Nat} (h:k < l.length):ownAt l k=ownS l k l[k]:=by unfold ownAt;rw [List.getElem?_eq_getElem h]
def badRef (l:List StyleD) (s:StyleD):Bool:=(decide (s.base≠0) && !isS l s.kind s.base) || (decide (s.next≠0) && (decide (s.kind=2) || !isS l 1 s.next))
def cyc (l:List StyleD) (s:StyleD):Bool:=decide (l.length < (chL l s.id).length)
/-- The first error of a list of styles. -/
def checkS (l:List StyleD):Int:=if 128 < l.length then 9 else if errF (ownAt l) 0 l.length≠0 then errF (ownAt l) 0 l.length else if l.any (badRef l)=true then 25 else if l.any (cyc l)=true then 16 else 0
theorem own_inc {l:List StyleD} (h:errF (ownAt l) 0 l.length=0) {k:Nat} (hk:k+1 < l.length):l[k].id < l[k+1].id:=by
 have h1:=errF_zero h (k+1) (Nat.zero_le _) (by omega);rw [ownAt_in hk,ownS,ownE] at h1
 have hp:prevS l (k+1)=some l[k].id:=by rw [prevS,if_neg (by omega),Nat.add_sub_cancel,List.getElem?_eq_getElem (by omega)];rfl
 rw [hp] at h1
 split at h1
 ·cases h1
 split at h1
 ·cases h1
 split at h1
 ·cases h1
 rename_i _ h2 h3
 have h2':¬ l[k].id=l[k+1].id:=fun e=>h2 (by rw [e]);have h3':¬ l[k+1].id < l[k].id:=fun e=>h3 (decide_eq_true e)
 omega
theorem own_mono {l:List StyleD} (h:errF (ownAt l) 0 l.length=0):∀ {k j:Nat} (hk:k < l.length) (hj:j < k),l[j].id < l[k].id
 | k+1,j,hk,hj=>by
  have h1:=own_inc h hk
  by_cases e:j=k
  ·subst e;exact h1
  have:=own_mono h (k:=k) (j:=j) (by omega) (by omega)
  omega
theorem own_nodup {l:List StyleD} (h:errF (ownAt l) 0 l.length=0) (k:Nat) (hk:k < l.length):l[k].id∉(l.take k).map StyleD.id:=by
 intro hm;obtain ⟨x,hx1,hx2⟩:=List.mem_map.1 hm;obtain ⟨j,hj,rfl⟩:=List.getElem_of_mem hx1;rw [List.getElem_take] at hx2;rw [List.length_take] at hj;have:=own_mono h hk (j:=j) (by omega)
 omega
theorem any_next {α:Type} {p:α→Bool} {l:List α} {k:Nat} (hk:k < l.length) (h:(l.take k).any p=false) (hp:p l[k]=false):(l.take (k+1)).any p=false:=by
 rw [List.take_succ_eq_append_getElem hk,List.any_append,h];simp [hp]
theorem any_stop {α:Type} {p:α→Bool} {l:List α} {k:Nat} (hk:k < l.length) (hp:p l[k]=true):l.any p=true:=List.any_eq_true.2 ⟨_,List.getElem_mem hk,hp⟩
theorem any_done {α:Type} {p:α→Bool} {l:List α} {k:Nat} (hk:l.length≤k) (h:(l.take k).any p=false):¬ l.any p=true:=by
 rw [List.take_of_length_le hk] at h;rw [h];decide
set_option maxHeartbeats 1000000 in
theorem check_styles (G:GH) (w0:World) (hG:Hold G w0) (l:List StyleD) (v:Value) (hv:RepV G (.sl 6 (l.map StyleD.dat)) v) (hN:∀ s∈l,s.name.size≤4611686018427387904) :
  Calls Tryz.prog 43 #[v] w0 (Ret w0 G fun u G'=>u=vi (checkS l)):=by
 obtain ⟨A,c,rfl,hc1,hc2,-⟩:=hv.slice;have hml:maxLen=9223372036854775807:=rfl;rw [List.length_map] at *;refine eN [(0,_)] Tryz.func43 rfl Tryz.ntmps43 rfl rfl hG ?_;intro a H;refine c_seqR (fun _ K1=>?_);refine s_box (cs:=[_]) H wn rfl rfl rfl ?_;clear H;intro b1 a w hb1 H;refine s_alloc ty22fst H wn rfl ?_;clear H;intro b2 a w hb2 H;refine K1 _ _ ?_;clear K1;refine c_seq (fun _ K2=>?_);refine c_seqR (fun _ K3=>?_);refine kH H (Ro ty41chn 1 rfl rfl (Rl un41sty rfl (Rc rfl ?_)));clear H;intro a H;refine K3 _ _ ?_;clear K3;refine c_cond H rfl ?_ ?_
 ·intro h12
  try have p12:=of_decide_eq_true h12
  refine c_seqR (fun _ K4=>?_);refine s_store ty22fst 0 (vs:=[_]) _ H wn rfl rfl rfl rfl rfl rfl rfl rfl ?_;clear H;intro w H;dsimp only [List.set,setRow] at H;refine K4 _ _ ?_;clear K4;refine c_ret ?_;refine (leave1 H Tryz.results43 (.cons (rv_cell ty22fst H rfl (H.hp.ocell 0 rfl rfl)) .nil) ?_).1
  first
   | exact H.hp.ret (congrArg vi (by rw [checkS,if_pos (by omega)]))
   | exact H.hp.ret (congrArg vi (by rw [if_neg (by simpa using p22)] at heq;rw [checkS,if_neg (by omega),← heq,if_pos (by simpa using p22)]))
   | exact H.hp.ret (congrArg vi (by rw [checkS,if_neg (by omega),if_neg (by rw [hok];decide),if_pos hbad]))
   | exact H.hp.ret (congrArg vi (by rw [checkS,if_neg (by omega),if_neg (by rw [hok];decide),if_neg hbad,if_pos (any_stop hj2 hI)]))
   | exact H.hp.ret (congrArg vi (by rw [checkS,if_neg (by omega),if_neg (by rw [hok];decide),if_neg hbad,if_neg (any_done (by omega) hnc)]))
 intro h12
 try have p12:=of_decide_eq_false h12
 refine c_skip ?_;refine K2 _ _ ?_;clear K2;refine c_seq (fun _ K5=>?_);refine c_seqR (fun _ K6=>?_);refine kH H (Ro ty41chn 1 rfl rfl (Rl un41sty rfl (Rm rfl ?_)));clear H;intro a H;refine K6 _ _ ?_;clear K6;refine c_block ?_;skip;refine c_loopS (ι:=Nat × GH) (Tc:=[(1,_),(2,_),(14,_)]) (Lc:=[(_,_),(_,_)]) (fun (gh:Nat × GH)=>[(15,vi gh.1)]) (fun (gh:Nat × GH)=>[]) (fun (gh:Nat × GH)=>gh.2) (fun (gh:Nat × GH)=>gh.1≤l.length∧errF (ownAt l) gh.1 (l.length - gh.1)=errF (ownAt l) 0 l.length∧(∀ b o,G b=some o→gh.2 b=some o)) (fun (gh:Nat × GH)=>l.length - gh.1) ((0,G)) (by exact (H).sub ⟨rfl,rfl,rfl,rfl,trivial⟩) ?_ ?_
 ·exact ⟨Nat.zero_le _,rfl,fun _ _ h=>h⟩
 clear H;intro gh a w hI H;obtain ⟨k,g⟩:=gh;dsimp only at hI H;obtain ⟨hk,heq,hgm⟩:=hI;dsimp only [List.cons_append,List.nil_append,List.append_nil] at H;refine c_seqR (fun _ K7=>?_);refine kH H (Rc rfl ?_);clear H;intro a H;refine K7 _ _ ?_;clear K7;refine c_seq (fun _ K8=>?_);refine c_cond H rfl ?_ ?_
 ·intro h16
  try have p16:=of_decide_eq_true h16
  have hk2:k < l.length:=by omega
  rw [errF_step hk2,ownAt_in hk2] at heq;refine c_skip ?_;refine K8 _ _ ?_;clear K8;refine c_seq (fun _ K9=>?_);refine c_block ?_;refine c_seqR (fun _ K10=>?_);refine kH H (Rm rfl (Ra rfl ?_));clear H;intro a H;refine K10 _ _ ?_;clear K10;refine c_seqR (fun _ K11=>?_);refine kH H (Ro ty41chn 1 rfl rfl (Rm rfl ?_));clear H;intro a H;refine s_call en103chk H wn rfl (own_spec _ _ H.hp.ro l k _ (hv.mono hgm) hk2 (hN _ (List.getElem_mem hk2))) rfl ?_;clear H;rintro v20 G20 a w rfl hm20 H;refine kH H (Ra rfl ?_);clear H;intro a H;refine K11 _ _ ?_;clear K11;refine c_seqR (fun _ K12=>?_);refine kH H (Rm rfl (Rc rfl ?_));clear H;intro a H;refine K12 _ _ ?_;clear K12;refine c_cond H rfl ?_ ?_
  ·intro h22
   try have p22:=of_decide_eq_true h22
   refine c_seqR (fun _ K13=>?_);refine kH H (Rm rfl ?_);clear H;intro a H;refine s_store ty22fst 0 (vs:=[_]) _ H wn rfl rfl rfl rfl rfl rfl rfl rfl ?_;clear H;intro w H;dsimp only [List.set,setRow] at H;refine K13 _ _ ?_;clear K13;refine c_ret ?_;refine (leave1 H Tryz.results43 (.cons (rv_cell ty22fst H rfl (H.hp.ocell 0 rfl rfl)) .nil) ?_).1
   first
    | exact H.hp.ret (congrArg vi (by rw [checkS,if_pos (by omega)]))
    | exact H.hp.ret (congrArg vi (by rw [if_neg (by simpa using p22)] at heq;rw [checkS,if_neg (by omega),← heq,if_pos (by simpa using p22)]))
    | exact H.hp.ret (congrArg vi (by rw [checkS,if_neg (by omega),if_neg (by rw [hok];decide),if_pos hbad]))
    | exact H.hp.ret (congrArg vi (by rw [checkS,if_neg (by omega),if_neg (by rw [hok];decide),if_neg hbad,if_pos (any_stop hj2 hI)]))
    | exact H.hp.ret (congrArg vi (by rw [checkS,if_neg (by omega),if_neg (by rw [hok];decide),if_neg hbad,if_neg (any_done (by omega) hnc)]))
  intro h22
  try have p22:=of_decide_eq_false h22
  refine c_skip ?_;refine K9 _ _ ?_;clear K9;refine c_region ?_;refine s_add _ H wn rfl rfl rfl (by omega) (by omega) rfl ?_;clear H;intro a H;refine kH H (Rm rfl ?_);clear H;intro a H;refine wl_nil ?_;refine loop_end ((k+1,G20)) (by exact (H).sub ⟨rfl,rfl,rfl,rfl,trivial⟩) ?_ ?_
  ·(try dsimp only);exact ⟨by omega,by rw [if_pos (by simpa using p22)] at heq;exact heq,fun b o h=>hm20 b o (hgm b o h)⟩
  first|omega|(dsimp only;omega)
 intro h16
 try have p16:=of_decide_eq_false h16
 have hok:errF (ownAt l) 0 l.length=0:=by rw [← heq];exact errF_end (by omega)
 clear heq;have hvg:=hv.mono hgm;refine c_exit ?_;refine K5 _ _ ?_;clear K5;refine c_seq (fun _ K14=>?_);refine c_seqR (fun _ K15=>?_);refine kH H (Ro ty41chn 1 rfl rfl (Rl un41sty rfl (Rm rfl ?_)));clear H;intro a H;refine K15 _ _ ?_;clear K15;refine c_block ?_;skip;refine c_loopS (ι:=Nat × GH) (Tc:=[(1,_),(2,_),(25,_),(26,_)]) (Lc:=[(_,_),(_,_)]) (fun (gh:Nat × GH)=>[(27,vi gh.1)]) (fun (gh:Nat × GH)=>[]) (fun (gh:Nat × GH)=>gh.2) (fun (gh:Nat × GH)=>gh.1≤l.length∧(l.take gh.1).any (badRef l)=false∧(∀ b o,g b=some o→gh.2 b=some o)) (fun (gh:Nat × GH)=>l.length - gh.1) ((0,g)) (by exact (H).sub ⟨rfl,rfl,rfl,rfl,rfl,trivial⟩) ?_ ?_
 ·exact ⟨Nat.zero_le _,rfl,fun _ _ h=>h⟩
 clear H;intro gh a w hI H;obtain ⟨k,g2⟩:=gh;dsimp only at hI H;obtain ⟨hk3,hno,hgm2⟩:=hI;have hvg2:=hvg.mono hgm2;dsimp only [List.cons_append,List.nil_append,List.append_nil] at H;refine c_seqR (fun _ K16=>?_);refine kH H (Rc rfl ?_);clear H;intro a H;refine K16 _ _ ?_;clear K16;refine c_seq (fun _ K17=>?_);refine c_cond H rfl ?_ ?_
 ·intro h28
  try have p28:=of_decide_eq_true h28
  have hk4:k < l.length:=by omega
  obtain ⟨b,o,pA,pc,rfl,hrow,hp,hrep⟩:=style_at hvg2 hk4;refine c_skip ?_;refine K17 _ _ ?_;clear K17;refine c_seq (fun _ K18=>?_);refine c_block ?_;refine c_seqR (fun _ K19=>?_);refine s_index un41sty ty100sty _ H wn rfl rfl rfl (by first|assumption|omega) rfl ?_;clear H;intro a H;refine s_loada ty100sty (cs:=[_,_,_,_,_,_]) H wn rfl rfl (fun j v hj=>H.hp.gcell (hrow j v hj)) rfl ?_;clear H;intro a H;refine s_alloc ty100sty H wn rfl ?_;clear H;intro b6 a w hb6 H;refine s_store ty100sty 0 (vs:=[_,_,_,_,_,_]) _ H wn rfl rfl rfl rfl rfl rfl rfl rfl ?_;clear H;intro w H;dsimp only [List.set,setRow] at H;refine K19 _ _ ?_;clear K19;refine c_seqR (fun _ K20=>?_);refine kH H (Rf fd100_3chn rfl (Ro ty3run 0 rfl rfl (Rc rfl (Rm rfl ?_))));clear H;intro a H;refine s_split H 34 rfl ?_ ?_
  ·intro h34
   try have p34:=of_decide_eq_true h34
   refine s_load ty41chn H (wg H rfl rfl h34) rfl (H.hp.ocell 2 rfl rfl) rfl ?_;clear H;intro a H;refine s_field fd100_1sty H (wg H rfl rfl h34) rfl rfl ?_;clear H;intro a H;refine s_load ty3run H (wg H rfl rfl h34) rfl (H.hp.ocell 0 rfl rfl) rfl ?_;clear H;intro a H;refine s_field fd100_3chn H (wg H rfl rfl h34) rfl rfl ?_;clear H;intro a H;refine s_load ty3run H (wg H rfl rfl h34) rfl (H.hp.ocell 0 rfl rfl) rfl ?_;clear H;intro a H;refine s_call en104chk H (wg H rfl rfl h34) rfl (is_spec _ _ H.hp.ro l l[k].kind l[k].base _ hvg2) rfl ?_;clear H;rintro v40 g2 a w rfl hm40 H;replace hgm2:=fun b o (h:g b=some o)=>hm40 b o (hgm2 b o h);replace hvg2:=hvg2.mono hm40;refine s_not H (wg H rfl rfl h34) rfl rfl ?_;clear H;intro a H;refine s_pick_t H wn rfl h34 rfl rfl ?_;clear H;intro a H;refine kH H (Rm rfl ?_);clear H;intro a H;refine s_split H 43 rfl ?_ ?_
   ·intro h43
    try have p43:=of_decide_eq_true h43
    (iterate 4 refine s_skip H rfl rfl h43 rfl ?_;clear H;intro a H);(iterate 10 refine s_skipU H rfl rfl rfl ?_;clear H;intro a H);refine s_skip H rfl rfl h43 rfl ?_;clear H;intro a H;refine s_pick_t H wn rfl h43 rfl rfl ?_;clear H;intro a H;refine K20 _ _ ?_;clear K20;refine c_cond_t H rfl rfl ?_;refine c_seq (fun _ K21=>?_);have hbad:l.any (badRef l)=true:=any_stop hk4 (by unfold badRef;simp_all);refine c_region ?_;refine s_store ty22fst 1 (vs:=[_]) _ H wn rfl rfl rfl rfl rfl rfl rfl rfl ?_;clear H;intro w H;dsimp only [List.set,setRow] at H;refine wl_nil ?_;refine K21 _ _ ?_;clear K21;refine c_ret ?_;refine (leave1 H Tryz.results43 (.cons (rv_cell ty22fst H rfl (H.hp.ocell 1 rfl rfl)) .nil) ?_).1
    first
     | exact H.hp.ret (congrArg vi (by rw [checkS,if_pos (by omega)]))
     | exact H.hp.ret (congrArg vi (by rw [if_neg (by simpa using p22)] at heq;rw [checkS,if_neg (by omega),← heq,if_pos (by simpa using p22)]))
     | exact H.hp.ret (congrArg vi (by rw [checkS,if_neg (by omega),if_neg (by rw [hok];decide),if_pos hbad]))
     | exact H.hp.ret (congrArg vi (by rw [checkS,if_neg (by omega),if_neg (by rw [hok];decide),if_neg hbad,if_pos (any_stop hj2 hI)]))
     | exact H.hp.ret (congrArg vi (by rw [checkS,if_neg (by omega),if_neg (by rw [hok];decide),if_neg hbad,if_neg (any_done (by omega) hnc)]))
   intro h43
   try have p43:=of_decide_eq_false h43
   refine s_field fd100_4chk H (wg H rfl rfl h43) rfl rfl ?_;clear H;intro a H;refine s_load ty3run H (wg H rfl rfl h43) rfl (H.hp.ocell 0 rfl rfl) rfl ?_;clear H;intro a H;refine s_cmp H (wg H rfl rfl h43) rfl rfl rfl rfl ?_;clear H;intro a H;refine s_move H (wg H rfl rfl h43) rfl rfl ?_;clear H;intro a H;refine s_split H 47 rfl ?_ ?_
   ·intro h47
    try have p47:=of_decide_eq_true h47
    refine s_field fd100_1sty H (wg H rfl rfl h47) rfl rfl ?_;clear H;intro a H;refine s_load ty3run H (wg H rfl rfl h47) rfl (H.hp.ocell 0 rfl rfl) rfl ?_;clear H;intro a H;refine s_cmp H (wg H rfl rfl h47) rfl rfl rfl rfl ?_;clear H;intro a H;refine s_move H (wg H rfl rfl h47) rfl rfl ?_;clear H;intro a H;refine s_split H 51 rfl ?_ ?_
    ·intro h51
     try have p51:=of_decide_eq_true h51
     (iterate 5 refine s_skip H rfl rfl h51 rfl ?_;clear H;intro a H);refine s_pick_t H (wg H rfl rfl h47) rfl h51 rfl rfl ?_;clear H;intro a H;refine s_pick_t H (wg H rfl rfl h43) rfl h47 rfl rfl ?_;clear H;intro a H;refine s_pick_f H wn rfl h43 rfl rfl ?_;clear H;intro a H;refine K20 _ _ ?_;clear K20;refine c_cond_t H rfl rfl ?_;refine c_seq (fun _ K22=>?_);have hbad:l.any (badRef l)=true:=any_stop hk4 (by unfold badRef;simp_all);refine c_region ?_;refine s_store ty22fst 1 (vs:=[_]) _ H wn rfl rfl rfl rfl rfl rfl rfl rfl ?_;clear H;intro w H;dsimp only [List.set,setRow] at H;refine wl_nil ?_;refine K22 _ _ ?_;clear K22;refine c_ret ?_;refine (leave1 H Tryz.results43 (.cons (rv_cell ty22fst H rfl (H.hp.ocell 1 rfl rfl)) .nil) ?_).1
     first
      | exact H.hp.ret (congrArg vi (by rw [checkS,if_pos (by omega)]))
      | exact H.hp.ret (congrArg vi (by rw [if_neg (by simpa using p22)] at heq;rw [checkS,if_neg (by omega),← heq,if_pos (by simpa using p22)]))
      | exact H.hp.ret (congrArg vi (by rw [checkS,if_neg (by omega),if_neg (by rw [hok];decide),if_pos hbad]))
      | exact H.hp.ret (congrArg vi (by rw [checkS,if_neg (by omega),if_neg (by rw [hok];decide),if_neg hbad,if_pos (any_stop hj2 hI)]))
      | exact H.hp.ret (congrArg vi (by rw [checkS,if_neg (by omega),if_neg (by rw [hok];decide),if_neg hbad,if_neg (any_done (by omega) hnc)]))
    intro h51
    try have p51:=of_decide_eq_false h51
    refine s_load ty41chn H (wg H rfl rfl h51) rfl (H.hp.ocell 2 rfl rfl) rfl ?_;clear H;intro a H;refine s_field fd100_4chk H (wg H rfl rfl h51) rfl rfl ?_;clear H;intro a H;refine s_load ty3run H (wg H rfl rfl h51) rfl (H.hp.ocell 0 rfl rfl) rfl ?_;clear H;intro a H;refine s_call en104chk H (wg H rfl rfl h51) rfl (is_spec _ _ H.hp.ro l 1 l[k].next _ hvg2) rfl ?_;clear H;rintro v55 g2 a w rfl hm55 H;replace hgm2:=fun b o (h:g b=some o)=>hm55 b o (hgm2 b o h);replace hvg2:=hvg2.mono hm55;refine s_not H (wg H rfl rfl h51) rfl rfl ?_;clear H;intro a H;refine s_pick_f H (wg H rfl rfl h47) rfl h51 rfl rfl ?_;clear H;intro a H;refine s_pick_t H (wg H rfl rfl h43) rfl h47 rfl rfl ?_;clear H;intro a H;refine s_pick_f H wn rfl h43 rfl rfl ?_;clear H;intro a H;refine K20 _ _ ?_;clear K20;refine c_cond H rfl ?_ ?_
    ·intro h59
     try have p59:=of_decide_eq_true h59
     refine c_seq (fun _ K23=>?_);have hbad:l.any (badRef l)=true:=any_stop hk4 (by unfold badRef;simp_all);refine c_region ?_;refine s_store ty22fst 1 (vs:=[_]) _ H wn rfl rfl rfl rfl rfl rfl rfl rfl ?_;clear H;intro w H;dsimp only [List.set,setRow] at H;refine wl_nil ?_;refine K23 _ _ ?_;clear K23;refine c_ret ?_;refine (leave1 H Tryz.results43 (.cons (rv_cell ty22fst H rfl (H.hp.ocell 1 rfl rfl)) .nil) ?_).1
     first
      | exact H.hp.ret (congrArg vi (by rw [checkS,if_pos (by omega)]))
      | exact H.hp.ret (congrArg vi (by rw [if_neg (by simpa using p22)] at heq;rw [checkS,if_neg (by omega),← heq,if_pos (by simpa using p22)]))
      | exact H.hp.ret (congrArg vi (by rw [checkS,if_neg (by omega),if_neg (by rw [hok];decide),if_pos hbad]))
      | exact H.hp.ret (congrArg vi (by rw [checkS,if_neg (by omega),if_neg (by rw [hok];decide),if_neg hbad,if_pos (any_stop hj2 hI)]))
      | exact H.hp.ret (congrArg vi (by rw [checkS,if_neg (by omega),if_neg (by rw [hok];decide),if_neg hbad,if_neg (any_done (by omega) hnc)]))
    intro h59
    try have p59:=of_decide_eq_false h59
    refine c_skip ?_;refine K18 _ _ ?_;clear K18;refine c_region ?_;refine s_add _ H wn rfl rfl rfl (by omega) (by omega) rfl ?_;clear H;intro a H;refine kH H (Rm rfl ?_);clear H;intro a H;refine wl_nil ?_;refine loop_end ((k+1,g2)) (by exact (H.pickT (Pl:=[_,_,_]) (Pl':=[_,_]) [1,2] (by decide) rfl).sub ⟨rfl,rfl,rfl,rfl,rfl,trivial⟩) ?_ ?_
    ·(try dsimp only);exact ⟨by omega,any_next hk4 hno (by unfold badRef;simp_all),hgm2⟩
    first|omega|(dsimp only;omega)
   intro h47
   try have p47:=of_decide_eq_false h47
   (iterate 4 refine s_skip H rfl rfl h47 rfl ?_;clear H;intro a H);(iterate 5 refine s_skipU H rfl rfl rfl ?_;clear H;intro a H);refine s_skip H rfl rfl h47 rfl ?_;clear H;intro a H;refine s_pick_f H (wg H rfl rfl h43) rfl h47 rfl rfl ?_;clear H;intro a H;refine s_pick_f H wn rfl h43 rfl rfl ?_;clear H;intro a H;refine K20 _ _ ?_;clear K20;refine c_cond_f H rfl rfl ?_;refine c_skip ?_;refine K18 _ _ ?_;clear K18;refine c_region ?_;refine s_add _ H wn rfl rfl rfl (by omega) (by omega) rfl ?_;clear H;intro a H;refine kH H (Rm rfl ?_);clear H;intro a H;refine wl_nil ?_;refine loop_end ((k+1,g2)) (by exact (H.pickT (Pl:=[_,_,_]) (Pl':=[_,_]) [1,2] (by decide) rfl).sub ⟨rfl,rfl,rfl,rfl,rfl,trivial⟩) ?_ ?_
   ·(try dsimp only);exact ⟨by omega,any_next hk4 hno (by unfold badRef;simp_all),hgm2⟩
   first|omega|(dsimp only;omega)
  intro h34
  try have p34:=of_decide_eq_false h34
  (iterate 7 refine s_skip H rfl rfl h34 rfl ?_;clear H;intro a H);refine s_pick_f H wn rfl h34 rfl rfl ?_;clear H;intro a H;refine kH H (Rm rfl ?_);clear H;intro a H;refine s_field fd100_4chk H (wg H rfl rfl rfl) rfl rfl ?_;clear H;intro a H;refine s_load ty3run H (wg H rfl rfl rfl) rfl (H.hp.ocell 0 rfl rfl) rfl ?_;clear H;intro a H;refine s_cmp H (wg H rfl rfl rfl) rfl rfl rfl rfl ?_;clear H;intro a H;refine s_move H (wg H rfl rfl rfl) rfl rfl ?_;clear H;intro a H;refine s_split H 47 rfl ?_ ?_
  ·intro h47
   try have p47:=of_decide_eq_true h47
   refine s_field fd100_1sty H (wg H rfl rfl h47) rfl rfl ?_;clear H;intro a H;refine s_load ty3run H (wg H rfl rfl h47) rfl (H.hp.ocell 0 rfl rfl) rfl ?_;clear H;intro a H;refine s_cmp H (wg H rfl rfl h47) rfl rfl rfl rfl ?_;clear H;intro a H;refine s_move H (wg H rfl rfl h47) rfl rfl ?_;clear H;intro a H;refine s_split H 51 rfl ?_ ?_
   ·intro h51
    try have p51:=of_decide_eq_true h51
    (iterate 5 refine s_skip H rfl rfl h51 rfl ?_;clear H;intro a H);refine s_pick_t H (wg H rfl rfl h47) rfl h51 rfl rfl ?_;clear H;intro a H;refine s_pick_t H (wg H rfl rfl rfl) rfl h47 rfl rfl ?_;clear H;intro a H;refine s_pick_f H wn rfl rfl rfl rfl ?_;clear H;intro a H;refine K20 _ _ ?_;clear K20;refine c_cond_t H rfl rfl ?_;refine c_seq (fun _ K24=>?_);have hbad:l.any (badRef l)=true:=any_stop hk4 (by unfold badRef;simp_all);refine c_region ?_;refine s_store ty22fst 1 (vs:=[_]) _ H wn rfl rfl rfl rfl rfl rfl rfl rfl ?_;clear H;intro w H;dsimp only [List.set,setRow] at H;refine wl_nil ?_;refine K24 _ _ ?_;clear K24;refine c_ret ?_;refine (leave1 H Tryz.results43 (.cons (rv_cell ty22fst H rfl (H.hp.ocell 1 rfl rfl)) .nil) ?_).1
    first
     | exact H.hp.ret (congrArg vi (by rw [checkS,if_pos (by omega)]))
     | exact H.hp.ret (congrArg vi (by rw [if_neg (by simpa using p22)] at heq;rw [checkS,if_neg (by omega),← heq,if_pos (by simpa using p22)]))
     | exact H.hp.ret (congrArg vi (by rw [checkS,if_neg (by omega),if_neg (by rw [hok];decide),if_pos hbad]))
     | exact H.hp.ret (congrArg vi (by rw [checkS,if_neg (by omega),if_neg (by rw [hok];decide),if_neg hbad,if_pos (any_stop hj2 hI)]))
     | exact H.hp.ret (congrArg vi (by rw [checkS,if_neg (by omega),if_neg (by rw [hok];decide),if_neg hbad,if_neg (any_done (by omega) hnc)]))
   intro h51
   try have p51:=of_decide_eq_false h51
   refine s_load ty41chn H (wg H rfl rfl h51) rfl (H.hp.ocell 2 rfl rfl) rfl ?_;clear H;intro a H;refine s_field fd100_4chk H (wg H rfl rfl h51) rfl rfl ?_;clear H;intro a H;refine s_load ty3run H (wg H rfl rfl h51) rfl (H.hp.ocell 0 rfl rfl) rfl ?_;clear H;intro a H;refine s_call en104chk H (wg H rfl rfl h51) rfl (is_spec _ _ H.hp.ro l 1 l[k].next _ hvg2) rfl ?_;clear H;rintro v55 g2 a w rfl hm55 H;replace hgm2:=fun b o (h:g b=some o)=>hm55 b o (hgm2 b o h);replace hvg2:=hvg2.mono hm55;refine s_not H (wg H rfl rfl h51) rfl rfl ?_;clear H;intro a H;refine s_pick_f H (wg H rfl rfl h47) rfl h51 rfl rfl ?_;clear H;intro a H;refine s_pick_t H (wg H rfl rfl rfl) rfl h47 rfl rfl ?_;clear H;intro a H;refine s_pick_f H wn rfl rfl rfl rfl ?_;clear H;intro a H;refine K20 _ _ ?_;clear K20;refine c_cond H rfl ?_ ?_
   ·intro h59
    try have p59:=of_decide_eq_true h59
    refine c_seq (fun _ K25=>?_);have hbad:l.any (badRef l)=true:=any_stop hk4 (by unfold badRef;simp_all);refine c_region ?_;refine s_store ty22fst 1 (vs:=[_]) _ H wn rfl rfl rfl rfl rfl rfl rfl rfl ?_;clear H;intro w H;dsimp only [List.set,setRow] at H;refine wl_nil ?_;refine K25 _ _ ?_;clear K25;refine c_ret ?_;refine (leave1 H Tryz.results43 (.cons (rv_cell ty22fst H rfl (H.hp.ocell 1 rfl rfl)) .nil) ?_).1
    first
     | exact H.hp.ret (congrArg vi (by rw [checkS,if_pos (by omega)]))
     | exact H.hp.ret (congrArg vi (by rw [if_neg (by simpa using p22)] at heq;rw [checkS,if_neg (by omega),← heq,if_pos (by simpa using p22)]))
     | exact H.hp.ret (congrArg vi (by rw [checkS,if_neg (by omega),if_neg (by rw [hok];decide),if_pos hbad]))
     | exact H.hp.ret (congrArg vi (by rw [checkS,if_neg (by omega),if_neg (by rw [hok];decide),if_neg hbad,if_pos (any_stop hj2 hI)]))
     | exact H.hp.ret (congrArg vi (by rw [checkS,if_neg (by omega),if_neg (by rw [hok];decide),if_neg hbad,if_neg (any_done (by omega) hnc)]))
   intro h59
   try have p59:=of_decide_eq_false h59
   refine c_skip ?_;refine K18 _ _ ?_;clear K18;refine c_region ?_;refine s_add _ H wn rfl rfl rfl (by omega) (by omega) rfl ?_;clear H;intro a H;refine kH H (Rm rfl ?_);clear H;intro a H;refine wl_nil ?_;refine loop_end ((k+1,g2)) (by exact (H.pickT (Pl:=[_,_,_]) (Pl':=[_,_]) [1,2] (by decide) rfl).sub ⟨rfl,rfl,rfl,rfl,rfl,trivial⟩) ?_ ?_
   ·(try dsimp only);exact ⟨by omega,any_next hk4 hno (by unfold badRef;simp_all),hgm2⟩
   first|omega|(dsimp only;omega)
  intro h47
  try have p47:=of_decide_eq_false h47
  (iterate 4 refine s_skip H rfl rfl h47 rfl ?_;clear H;intro a H);(iterate 5 refine s_skipU H rfl rfl rfl ?_;clear H;intro a H);refine s_skip H rfl rfl h47 rfl ?_;clear H;intro a H;refine s_pick_f H (wg H rfl rfl rfl) rfl h47 rfl rfl ?_;clear H;intro a H;refine s_pick_f H wn rfl rfl rfl rfl ?_;clear H;intro a H;refine K20 _ _ ?_;clear K20;refine c_cond_f H rfl rfl ?_;refine c_skip ?_;refine K18 _ _ ?_;clear K18;refine c_region ?_;refine s_add _ H wn rfl rfl rfl (by omega) (by omega) rfl ?_;clear H;intro a H;refine kH H (Rm rfl ?_);clear H;intro a H;refine wl_nil ?_;refine loop_end ((k+1,g2)) (by exact (H.pickT (Pl:=[_,_,_]) (Pl':=[_,_]) [1,2] (by decide) rfl).sub ⟨rfl,rfl,rfl,rfl,rfl,trivial⟩) ?_ ?_
  ·(try dsimp only);exact ⟨by omega,any_next hk4 hno (by unfold badRef;simp_all),hgm2⟩
  first|omega|(dsimp only;omega)
 intro h28
 try have p28:=of_decide_eq_false h28
 have hbad:=any_done (by omega) hno;refine c_exit ?_;refine K14 _ _ ?_;clear K14;refine c_seq (fun _ K26=>?_);refine c_seqR (fun _ K27=>?_);refine kH H (Ro ty41chn 1 rfl rfl (Rl un41sty rfl (Rm rfl ?_)));clear H;intro a H;refine K27 _ _ ?_;clear K27;refine c_block ?_;skip;refine c_loopD (ι:=Nat × GH × List Nat) (Tc:=[(1,_),(2,_),(61,_),(62,_)]) (Lc:=[(_,_),(_,_)]) (fun (gh:Nat × GH × List Nat)=>mkD gh.2.2) (fun (gh:Nat × GH × List Nat)=>[(63,vi gh.1)]) (fun (gh:Nat × GH × List Nat)=>[]++(mkL gh.2.2++[])) (fun (gh:Nat × GH × List Nat)=>gh.2.1) (fun (gh:Nat × GH × List Nat)=>gh.1≤l.length∧(l.take gh.1).any (cyc l)=false∧(∀ b o,g2 b=some o→gh.2.1 b=some o)) (fun (gh:Nat × GH × List Nat)=>l.length - gh.1) ((0,g2,[])) (by exact (H).sub ⟨rfl,rfl,rfl,rfl,rfl,trivial⟩) ?_ ?_
 ·exact ⟨Nat.zero_le _,rfl,fun _ _ h=>h⟩
 clear H;intro gh a w hI H;obtain ⟨j,g3,ds⟩:=gh;dsimp only at hI H;obtain ⟨hj,hnc,hgm3⟩:=hI;have hvg3:=hvg2.mono hgm3;dsimp only [List.cons_append,List.nil_append,List.append_nil] at H;refine c_seqR (fun _ K28=>?_);refine kH H (Rc rfl ?_);clear H;intro a H;refine K28 _ _ ?_;clear K28;refine c_seq (fun _ K29=>?_);refine c_cond H rfl ?_ ?_
 ·intro h64
  try have p64:=of_decide_eq_true h64
  have hj2:j < l.length:=by omega
  obtain ⟨b,o,pA,pc,rfl,hrow,hp,hrep⟩:=style_at hvg3 hj2;refine c_skip ?_;refine K29 _ _ ?_;clear K29;refine c_seq (fun _ K30=>?_);refine c_block ?_;refine c_seqR (fun _ K31=>?_);refine s_index un41sty ty100sty _ H wn rfl rfl rfl (by first|assumption|omega) rfl ?_;clear H;intro a H;refine s_loada ty100sty (cs:=[_,_,_,_,_,_]) H wn rfl rfl (fun j v hj=>H.hp.gcell (hrow j v hj)) rfl ?_;clear H;intro a H;refine s_alloc ty100sty H wn rfl ?_;clear H;intro b8 a w hb8 H;refine s_store ty100sty 0 (vs:=[_,_,_,_,_,_]) _ H wn rfl rfl rfl rfl rfl rfl rfl rfl ?_;clear H;intro w H;dsimp only [List.set,setRow] at H;refine K31 _ _ ?_;clear K31;refine c_seqR (fun _ K32=>?_);refine s_alloc ty3run H wn rfl ?_;clear H;intro b9 a w hb9 H;refine s_store ty3run 0 (vs:=[_]) _ H wn rfl rfl rfl rfl rfl rfl rfl rfl ?_;clear H;intro w H;dsimp only [List.set,setRow] at H;refine K32 _ _ ?_;clear K32;refine c_seqR (fun _ K33=>?_);refine kH H (Ro ty41chn 3 rfl rfl (Rf fd100_0sty rfl (Ro ty3run 1 rfl rfl ?_)));clear H;intro a H;refine s_callL en105chk (Li:=[_,_,_,_]++mkL ds) (L:=[]) (St.un (A:=[_,_,_,_]) H) wn rfl (chain_spec (Hp.owns (Li:=[_,_,_,_]++mkL ds) (St.un (A:=[_,_,_,_]) H).hp) l l[j].id _ hvg3) rfl ?_;clear H;rintro v70 g4 L70 a w ⟨bl,bi,rfl,rfl,hbl⟩ hm70 H;have H:=(St.nilT (A:=[_,_,_,_,_]) (B:=mkL ds) (H.perm List.perm_append_comm));dsimp only [List.cons_append,List.nil_append] at H;have hit:=chain1_iter (l:=l) (id:=l[j].id) (bi:=bi) hbl (hvg3.mono hm70) (own_nodup hok);refine K33 _ _ ?_;clear K33;refine c_block ?_;skip;refine c_rangeJI (B:=[(_,_)]) (ι:=Unit) (κ:=Int) (Lc:=[(_,_),(_,_)]) (fun (k:Nat) (gh:Unit)=>[(b9,.cells #[vi k] 3 (0,0)),(b2,.cells #[vi 0] 22 (0,0))]) (fun (k:Nat) (gh:Unit)=>(mkL ds++[])) (fun (k:Nat) (gh:Unit) (g:GH)=>k≤l.length) (fun (gx:Int)=>Code.ret) (fun (gx:Int)=>[(b9,.cells #[vi gx] 3 (0,0)),(b2,.cells #[vi 16] 22 (0,0))]) (fun (gx:Int)=>(mkL ds++[])) (fun (gx:Int) (g:GH)=>cyc l l[j]=true) (()) (by exact H.pickT (Pl:=[_,_,_,_,_]) (Pl':=[_,_,_,_,_]) [0,2,4,1,3] (by decide) rfl) rfl en181chn (hit) (fun _ _ h=>h) (fun e i g h=>absurd (of_decide_eq_false e) (by rw [List.length_map] at h;omega)) rfl (fun k args g h=>by obtain ⟨_,_,rfl,_⟩:=st_at h;rfl) (fun _ _ _ _ _ h=>h) (fun _ _ _ _ h=>h) (Nat.zero_le _) ?_ ?_ ?_
  ·clear H;intro l21 rdy bsy bk k args gh G21 w21 F21 B21 a hk21 hm21 hI hbeg21 hnext21 hstop21 H;obtain ⟨hk21,cs21,rfl,hrep21⟩:=st_at hk21;dsimp only [asg,List.cons_append,List.nil_append] at H;refine c_skip ?_;refine hbeg21 _ _ _ _ _ _ (by exact H) ?_;clear H;intro w H;refine c_block ?_;refine c_seqR (fun _ K34=>?_);refine kH H (Ro ty3run 3 rfl rfl ?_);clear H;intro a H;refine s_add _ H wn rfl rfl rfl (by omega) (by omega) rfl ?_;clear H;intro a H;refine s_store ty3run 3 (vs:=[_]) _ H wn rfl rfl rfl rfl rfl rfl rfl rfl ?_;clear H;intro w H;dsimp only [List.set,setRow] at H;refine K34 _ _ ?_;clear K34;refine c_seqR (fun _ K35=>?_);refine kH H (Ro ty3run 3 rfl rfl (Ro ty41chn 2 rfl rfl (Rl un41sty rfl (Rc rfl ?_))));clear H;intro a H;refine K35 _ _ ?_;clear K35;refine c_cond H rfl ?_ ?_
   ·intro h77
    try have p77:=of_decide_eq_true h77
    refine c_seqR (fun _ K36=>?_);refine s_store ty22fst 4 (vs:=[_]) _ H wn rfl rfl rfl rfl rfl rfl rfl rfl ?_;clear H;intro w H;dsimp only [List.set,setRow] at H;refine K36 _ _ ?_;clear K36;refine c_ret ?_;refine (hstop21 ((k:Int)+1) _ _ _ _ _ (by exact H) ?_).1 rfl;exact decide_eq_true (by omega)
   intro h77
   try have p77:=of_decide_eq_false h77
   refine c_skip ?_;refine hnext21 (()) _ _ _ _ _ (by exact H) ?_
   omega
  ·clear H;intro Dk21 gh Gd21 a w hm21 hI H;dsimp only [List.cons_append,List.nil_append,List.append_nil] at H;refine K30 _ _ ?_;clear K30;refine c_region ?_;refine s_add _ H wn rfl rfl rfl (by omega) (by omega) rfl ?_;clear H;intro a H;refine kH H (Rm rfl ?_);clear H;intro a H;refine wl_nil ?_;refine loopD_end ((j+1,Gd21,Dk21 :: ds)) (by exact (H.pickT (Pl:=[_,_,_,_,_]) (Pl':=[_,_,_]) [4,2,0] (by decide) rfl).sub ⟨rfl,rfl,rfl,rfl,rfl,trivial⟩) ?_ ?_
   ·(try dsimp only);exact ⟨by omega,any_next hj2 hnc (decide_eq_false (by rw [List.length_map] at hI;omega)),fun b o h=>hm21 b o (hm70 b o (hgm3 b o h))⟩
   first|omega|(dsimp only;omega)
  clear H;intro Dk21 gx Gd21 a w hm21 hI H;obtain ⟨x,hgh⟩:∃ x,x=gx:=⟨_,rfl⟩;subst hgh;dsimp only [List.cons_append,List.nil_append,List.append_nil] at H;refine c_ret ?_;refine (leaveM H 0 rfl ?_).1;clear H;intro a w H;dsimp only [List.eraseIdx_cons_succ,List.eraseIdx_cons_zero] at H;refine (leaveMs (Lh:=[_,_,_,_]) _ H ?_).1;clear H;intro a w H;dsimp only [List.cons_append,List.nil_append] at H;refine (leave1 H Tryz.results43 (.cons (rv_cell ty22fst H rfl (H.hp.ocell 3 rfl rfl)) .nil) ?_).1
  first
   | exact H.hp.ret (congrArg vi (by rw [checkS,if_pos (by omega)]))
   | exact H.hp.ret (congrArg vi (by rw [if_neg (by simpa using p22)] at heq;rw [checkS,if_neg (by omega),← heq,if_pos (by simpa using p22)]))
   | exact H.hp.ret (congrArg vi (by rw [checkS,if_neg (by omega),if_neg (by rw [hok];decide),if_pos hbad]))
   | exact H.hp.ret (congrArg vi (by rw [checkS,if_neg (by omega),if_neg (by rw [hok];decide),if_neg hbad,if_pos (any_stop hj2 hI)]))
   | exact H.hp.ret (congrArg vi (by rw [checkS,if_neg (by omega),if_neg (by rw [hok];decide),if_neg hbad,if_neg (any_done (by omega) hnc)]))
 intro h64
 try have p64:=of_decide_eq_false h64
 refine c_exit ?_;refine K26 _ _ ?_;clear K26;refine c_seqR (fun _ K37=>?_);refine s_store ty22fst 0 (vs:=[_]) _ H wn rfl rfl rfl rfl rfl rfl rfl rfl ?_;clear H;intro w H;dsimp only [List.set,setRow] at H;refine K37 _ _ ?_;clear K37;refine c_ret ?_;refine (leaveMs (Lh:=[_,_]) _ H ?_).1;clear H;intro a w H;dsimp only [List.cons_append,List.nil_append] at H;refine (leave1 H Tryz.results43 (.cons (rv_cell ty22fst H rfl (H.hp.ocell 0 rfl rfl)) .nil) ?_).1
 first
  | exact H.hp.ret (congrArg vi (by rw [checkS,if_pos (by omega)]))
  | exact H.hp.ret (congrArg vi (by rw [if_neg (by simpa using p22)] at heq;rw [checkS,if_neg (by omega),← heq,if_pos (by simpa using p22)]))
  | exact H.hp.ret (congrArg vi (by rw [checkS,if_neg (by omega),if_neg (by rw [hok];decide),if_pos hbad]))
  | exact H.hp.ret (congrArg vi (by rw [checkS,if_neg (by omega),if_neg (by rw [hok];decide),if_neg hbad,if_pos (any_stop hj2 hI)]))
  | exact H.hp.ret (congrArg vi (by rw [checkS,if_neg (by omega),if_neg (by rw [hok];decide),if_neg hbad,if_neg (any_done (by omega) hnc)]))
end
section
open Go.RowKit
theorem ty44dsv:Ty Tryz.prog 44 1 24 [.slice none 0 0] false:=⟨by kernel_rfl,by kernel_rfl⟩
theorem un44dsv:Tryz.prog.underlying 44=some (.slice 109):=by kernel_rfl
theorem ty109dsv:Ty Tryz.prog 109 2 32 [.string ⟨#[]⟩,.string ⟨#[]⟩] true:=⟨by kernel_rfl,by kernel_rfl⟩
theorem fd109_0dsv:Fld Tryz.prog 109 0 0:=⟨by kernel_rfl⟩
theorem en60dsv:∀ args w,(callFunc 60 args).run Tryz.prog w=.ok (.enter 60 args) w:=enters Tryz.func60 rfl (by kernel_rfl)
theorem fd109_1dsv:Fld Tryz.prog 109 1 1:=⟨by kernel_rfl⟩
theorem fd46_0dsv:Fld Tryz.prog 46 0 0:=⟨by kernel_rfl⟩
theorem en43dsv:∀ args w,(callFunc 43 args).run Tryz.prog w=.ok (.enter 43 args) w:=enters Tryz.func43 rfl (by kernel_rfl)
theorem fd46_1dsv:Fld Tryz.prog 46 1 1:=⟨by kernel_rfl⟩
theorem en53dsv:∀ args w,(callFunc 53 args).run Tryz.prog w=.ok (.enter 53 args) w:=enters Tryz.func53 rfl (by kernel_rfl)
theorem fd46_2dsv:Fld Tryz.prog 46 2 2:=⟨by kernel_rfl⟩
theorem en54dsv:∀ args w,(callFunc 54 args).run Tryz.prog w=.ok (.enter 54 args) w:=enters Tryz.func54 rfl (by kernel_rfl)
theorem fd46_3dsv:Fld Tryz.prog 46 3 3:=⟨by kernel_rfl⟩
theorem en55dsv:∀ args w,(callFunc 55 args).run Tryz.prog w=.ok (.enter 55 args) w:=enters Tryz.func55 rfl (by kernel_rfl)
theorem en130dsv:∀ args w,(callFunc 130 args).run Tryz.prog w=.ok (.enter 130 args) w:=enters Tryz.func130 rfl (by kernel_rfl)
theorem va_at {G:GH} {l:List VaD} {A:Option Addr} {n c k:Nat} (hv:RepV G (.sl 2 (l.map VaD.dat)) (.slice A n c)) (hk:k < l.length):∃ b o,A=some ⟨b,o,none⟩∧(∀ j u,l[k].cells[j]?=some u→gcell G b (o+k*2+j)=some u):=by
 obtain ⟨A',c',he,_,_,hg⟩:=hv.slice
 injection he with e1 e2 e3
 subst e1;obtain ⟨b,o,cs,h1,h2,h3,h4⟩:=hg k l[k].dat (by simp [hk]);have:=va_of h4;subst this;exact ⟨b,o,h1,h3⟩
def vaE0 (k:Nat) (x:VaD) (pn:ByteArray):Int:=firstE [whenE (!cpNm x.name) 13,whenE (decide (0 < (k:Int)) && (x.name.toList == pn.toList)) 7,whenE (decide (0 < (k:Int)) && Op.bytesLess x.name.toList pn.toList) 6,txE x.value]
def vaE (l:List VaD) (k:Nat):Int:=match l[k]? with|some x=>vaE0 k x ((l[k - 1]?.map VaD.name).getD ⟨#[]⟩)|none=>0
set_option maxHeartbeats 2000000 in
theorem va_cb {G:GH} {bl:Nat} {l:List VaD} {A:Option Addr} {n c:Nat} (hb:gcell G bl 0=some (.slice A n c)) (hv:RepV G (.sl 2 (l.map VaD.dat)) (.slice A n c)) (hl:l.length≤4294967296) (ht:∀ x∈l,x.name.size < 4611686018427387904∧x.value.size < 4611686018427387904):IxCb (.func (.func 130) #[] #[.pointer (some ⟨bl,0,none⟩)]) G l.length (vaE l):=by
 intro k hk G1 w0 hm hG;refine callV_func (caps:=[.pointer (some ⟨bl,0,none⟩)]) en130dsv ?_;replace hb:=gcell_mono hm hb;replace hv:=hv.mono hm
 obtain rfl:n=l.length:=by have:=hv.len;simpa using this
 obtain ⟨b,o,rfl,hrow⟩:=va_at hv hk
 have hk1:k - 1 < l.length:=by omega
 obtain ⟨b',o',he',hrow'⟩:=va_at hv hk1
 injection he' with he'
 injection he' with e1 e2
 subst e1;subst e2;have hte:=ht _ (List.getElem_mem hk)
 have he:vaE l k=vaE0 k l[k] l[k - 1].name:=by unfold vaE;rw [List.getElem?_eq_getElem hk,List.getElem?_eq_getElem hk1];rfl
 obtain ⟨x,hx⟩:∃ x,x=l[k]:=⟨_,rfl⟩;obtain ⟨y,hy⟩:∃ y,y=l[k - 1]:=⟨_,rfl⟩;rw [← hx] at hrow hte he;rw [← hy] at hrow' he;refine eN [(0,_),(1,_)] Tryz.func130 rfl Tryz.ntmps130 rfl rfl hG ?_;intro a H;refine c_seqR (fun _ K1=>?_);refine kH H (Ra rfl ?_);clear H;intro a H;refine K1 _ _ ?_;clear K1;refine c_seq (fun _ K2=>?_);have H:=H.sub (T':=[(0,_),(1,_)]) ⟨rfl,rfl,trivial⟩
 by_cases c0:0 < (k:Int)
 ·skip;refine c_drawI (hmx) [[],[],[0,1],[0,1,2],[0,1,2,3],[0,1,2,3,4],[0,1,2,3,4,5],(List.range 7),[],[8],(List.range 10),(List.range 11),(List.range 11),(List.range 13),(List.range 14),(List.range 15),(List.range 11),(List.range 11),(List.range 11++[17]),(List.range 11++[17,18]),(List.range 11++[16,17,18,19]),(List.range 11++[16,17,18,19,20]),(List.range 11++[16,17,18,19,20,21]),(List.range 23),(List.range 24),(List.range 25),[],[26],(List.range 28),(List.range 29),(List.range 29),(List.range 31),(List.range 32),(List.range 33),(List.range 29),(List.range 29),(List.range 29++[35]),(List.range 29++[35,36]),(List.range 29++[34,35,36,37]),(List.range 29++[34,35,36,37,38]),(List.range 29++[34,35,36,37,38,39]),(List.range 41),(List.range 42),(List.range 43),[],[],[44,45],[44,45,46],[44,45,46,47],(List.range 49),(List.range 50),(List.range 51),(List.range 52)] [50,51,52] (by kernel_rfl) (by kernel_rfl) (fun (ix_:Nat) (v:Value) (G:GH)=>match ix_ with|0=>v=.slice (some ⟨b,o,none⟩) l.length c|1=>v=vi k|2=>v=.pointer (some ⟨b,o+k*2,none⟩)|3=>v=.pointer (some ⟨b,o+k*2+0,none⟩)|4=>v=.string x.name|5=>v=.bool (cpNm x.name)|6=>v=.bool (!cpNm x.name)|7=>v=vi (whenE (!cpNm x.name) 13)|8=>v=vi k|9=>v=.bool (decide (0 < (k:Int)))|10=>v=.bool (decide (0 < (k:Int)))|11=>v=.slice (some ⟨b,o,none⟩) l.length c|12=>v=vi k|13=>v=.pointer (some ⟨b,o+k*2,none⟩)|14=>v=.pointer (some ⟨b,o+k*2+0,none⟩)|15=>v=.string x.name|16=>v=.slice (some ⟨b,o,none⟩) l.length c|17=>v=vi k|18=>v=vi ((max k 1:Nat):Int)|19=>v=vi ((k - 1:Nat):Int)|20=>v=.pointer (some ⟨b,o+(k - 1)*2,none⟩)|21=>v=.pointer (some ⟨b,o+(k - 1)*2+0,none⟩)|22=>v=.string y.name|23=>v=.bool (x.name.toList == y.name.toList)|24=>v=.bool (decide (0 < (k:Int)) && (x.name.toList == y.name.toList))|25=>v=vi (whenE (decide (0 < (k:Int)) && (x.name.toList == y.name.toList)) 7)|26=>v=vi k|27=>v=.bool (decide (0 < (k:Int)))|28=>v=.bool (decide (0 < (k:Int)))|29=>v=.slice (some ⟨b,o,none⟩) l.length c|30=>v=vi k|31=>v=.pointer (some ⟨b,o+k*2,none⟩)|32=>v=.pointer (some ⟨b,o+k*2+0,none⟩)|33=>v=.string x.name|34=>v=.slice (some ⟨b,o,none⟩) l.length c|35=>v=vi k|36=>v=vi ((max k 1:Nat):Int)|37=>v=vi ((k - 1:Nat):Int)|38=>v=.pointer (some ⟨b,o+(k - 1)*2,none⟩)|39=>v=.pointer (some ⟨b,o+(k - 1)*2+0,none⟩)|40=>v=.string y.name|41=>v=.bool (Op.bytesLess x.name.toList y.name.toList)|42=>v=.bool (decide (0 < (k:Int)) && Op.bytesLess x.name.toList y.name.toList)|43=>v=vi (whenE (decide (0 < (k:Int)) && Op.bytesLess x.name.toList y.name.toList) 6)|44=>v=.slice (some ⟨b,o,none⟩) l.length c|45=>v=vi k|46=>v=.pointer (some ⟨b,o+k*2,none⟩)|47=>v=.pointer (some ⟨b,o+k*2+1,none⟩)|48=>v=.string x.value|49=>v=vi (txE x.value)|_=>True) (fun _ _ _ _ _ h=>h) H ?_ ?_
  ·clear H;refine al4 ?_ ?_ ?_ ?_ (al4 ?_ ?_ ?_ ?_ (al4 ?_ ?_ ?_ ?_ (al4 ?_ ?_ ?_ ?_ (al4 ?_ ?_ ?_ ?_ (al4 ?_ ?_ ?_ ?_ (al4 ?_ ?_ ?_ ?_ (al4 ?_ ?_ ?_ ?_ (al4 ?_ ?_ ?_ ?_ (al4 ?_ ?_ ?_ ?_ (al4 ?_ ?_ ?_ ?_ (al4 ?_ ?_ ?_ ?_ (al4 ?_ ?_ ?_ ?_ (allI_cons ?_ allI_nil)))))))))))))
   ·refine Op0 rfl fun _ a w G1 hG HT H fin=>?_;refine s_load ty44dsv H wn rfl (H.hp.gcell (gcell_mono hG hb)) rfl ?_;clear H;intro a H;exact fin H iJ rfl
   ·exact Op0 rfl fun _ _ _ _ _ _ H fin=>kH H (Rm rfl fun _ H=>fin H iJ rfl)
   ·refine Op2 0 4 1 5 rfl rfl fun _ a w G1 hG HT H fin=>?_;refine s_index un44dsv ty109dsv _ H wn rfl rfl rfl (by first|assumption|omega) rfl ?_;clear H;intro a H;exact fin H iJ rfl
   ·exact Op1 2 6 rfl rfl fun _ _ _ _ _ _ H fin=>kH H (Rf fd109_0dsv rfl fun _ H=>fin H iJ rfl)
   ·refine Op1 3 7 rfl rfl fun _ a w G1 hG HT H fin=>?_;refine s_load ty9run H wn rfl (H.hp.gcell (gcell_mono hG (hrow 0 _ rfl))) rfl ?_;clear H;intro a H;exact fin H iJ rfl
   ·refine Op1 4 8 rfl rfl fun _ a w G1 hG HT H fin=>?_;refine s_call en60dsv H wn rfl (cpNm_spec _ _ H.hp.ro x.name hte.1) rfl ?_;clear H;rintro v9 G9 a w ⟨rfl,-⟩ hGm9 H;exact fin H hGm9 (rfl)
   ·exact Op1 5 9 rfl rfl fun _ _ _ _ _ _ H fin=>kH H (Rn rfl fun _ H=>fin H iJ rfl)
   ·refine Op1 6 10 rfl rfl fun _ a w G1 hG HT H fin=>?_;refine s_call en65nam H wn rfl (when_spec _ _ H.hp.ro _ 13) rfl ?_;clear H;rintro v11 G11 a w ⟨rfl,-⟩ hGm11 H;exact fin H hGm11 (rfl)
   ·exact Op0 rfl fun _ _ _ _ _ _ H fin=>kH H (Rm rfl fun _ H=>fin H iJ rfl)
   ·exact Op1 8 12 rfl rfl fun _ _ _ _ _ _ H fin=>kH H (Rc rfl fun _ H=>fin H iJ rfl)
   ·exact Op1 9 13 rfl rfl fun _ _ _ _ _ _ H fin=>kH H (Rm rfl fun _ H=>fin H iJ rfl)
   ·refine Op1 10 14 rfl rfl fun _ a w G1 hG HT H fin=>?_;refine s_load ty44dsv H (wg H rfl rfl (decide_eq_true c0)) rfl (H.hp.gcell (gcell_mono hG hb)) rfl ?_;clear H;intro a H;exact fin H iJ rfl
   ·refine Op1 10 14 rfl rfl fun _ a w G1 hG HT H fin=>?_;refine s_move H (wg H rfl rfl (decide_eq_true c0)) rfl rfl ?_;clear H;intro a H;exact fin H iJ rfl
   ·refine Op3 11 15 12 16 10 14 rfl rfl fun _ a w G1 hG HT H fin=>?_;refine s_index un44dsv ty109dsv _ H (wg H rfl rfl (decide_eq_true c0)) rfl rfl rfl (by first|assumption|omega) rfl ?_;clear H;intro a H;exact fin H iJ rfl
   ·refine Op2 13 17 10 14 rfl rfl fun _ a w G1 hG HT H fin=>?_;refine s_field fd109_0dsv H (wg H rfl rfl (decide_eq_true c0)) rfl rfl ?_;clear H;intro a H;exact fin H iJ rfl
   ·refine Op2 14 18 10 14 rfl rfl fun _ a w G1 hG HT H fin=>?_;refine s_load ty9run H (wg H rfl rfl (decide_eq_true c0)) rfl (H.hp.gcell (gcell_mono hG (hrow 0 _ rfl))) rfl ?_;clear H;intro a H;exact fin H iJ rfl
   ·refine Op1 10 14 rfl rfl fun _ a w G1 hG HT H fin=>?_;refine s_load ty44dsv H (wg H rfl rfl (decide_eq_true c0)) rfl (H.hp.gcell (gcell_mono hG hb)) rfl ?_;clear H;intro a H;exact fin H iJ rfl
   ·refine Op1 10 14 rfl rfl fun _ a w G1 hG HT H fin=>?_;refine s_move H (wg H rfl rfl (decide_eq_true c0)) rfl rfl ?_;clear H;intro a H;exact fin H iJ rfl
   ·refine Op2 17 21 10 14 rfl rfl fun _ a w G1 hG HT H fin=>?_;refine s_max H (wg H rfl rfl (decide_eq_true c0)) rfl rfl rfl ?_;clear H;intro a H;exact fin H iJ (by first|rfl|exact congrArg vi (by omega))
   ·refine Op2 18 22 10 14 rfl rfl fun _ a w G1 hG HT H fin=>?_;refine s_sub _ H (wg H rfl rfl (decide_eq_true c0)) rfl rfl rfl (by omega) (by omega) rfl ?_;clear H;intro a H;exact fin H iJ (by first|rfl|exact congrArg vi (by omega))
   ·refine Op3 16 20 19 23 10 14 rfl rfl fun _ a w G1 hG HT H fin=>?_;refine s_index un44dsv ty109dsv _ H (wg H rfl rfl (decide_eq_true c0)) rfl rfl rfl (by first|assumption|omega) rfl ?_;clear H;intro a H;exact fin H iJ rfl
   ·refine Op2 20 24 10 14 rfl rfl fun _ a w G1 hG HT H fin=>?_;refine s_field fd109_0dsv H (wg H rfl rfl (decide_eq_true c0)) rfl rfl ?_;clear H;intro a H;exact fin H iJ rfl
   ·refine Op2 21 25 10 14 rfl rfl fun _ a w G1 hG HT H fin=>?_;refine s_load ty9run H (wg H rfl rfl (decide_eq_true c0)) rfl (H.hp.gcell (gcell_mono hG (hrow' 0 _ rfl))) rfl ?_;clear H;intro a H;exact fin H iJ rfl
   ·refine Op3 15 19 22 26 10 14 rfl rfl fun _ a w G1 hG HT H fin=>?_;refine s_eqstr H (wg H rfl rfl (decide_eq_true c0)) rfl rfl rfl ?_;clear H;intro a H;exact fin H iJ rfl
   ·refine Op2 10 14 23 27 rfl rfl fun _ a w G1 hG HT H fin=>?_;refine s_pick_t H wn rfl (decide_eq_true c0) rfl rfl ?_;clear H;intro a H;exact fin H iJ (congrArg Value.bool (by first|(rw [decide_eq_true c0,Bool.true_and];done)|(rw [decide_eq_false c0,Bool.false_and];done)))
   ·refine Op1 24 28 rfl rfl fun _ a w G1 hG HT H fin=>?_;refine s_call en65nam H wn rfl (when_spec _ _ H.hp.ro _ 7) rfl ?_;clear H;rintro v29 G29 a w ⟨rfl,-⟩ hGm29 H;exact fin H hGm29 (rfl)
   ·exact Op0 rfl fun _ _ _ _ _ _ H fin=>kH H (Rm rfl fun _ H=>fin H iJ rfl)
   ·exact Op1 26 30 rfl rfl fun _ _ _ _ _ _ H fin=>kH H (Rc rfl fun _ H=>fin H iJ rfl)
   ·exact Op1 27 31 rfl rfl fun _ _ _ _ _ _ H fin=>kH H (Rm rfl fun _ H=>fin H iJ rfl)
   ·refine Op1 28 32 rfl rfl fun _ a w G1 hG HT H fin=>?_;refine s_load ty44dsv H (wg H rfl rfl (decide_eq_true c0)) rfl (H.hp.gcell (gcell_mono hG hb)) rfl ?_;clear H;intro a H;exact fin H iJ rfl
   ·refine Op1 28 32 rfl rfl fun _ a w G1 hG HT H fin=>?_;refine s_move H (wg H rfl rfl (decide_eq_true c0)) rfl rfl ?_;clear H;intro a H;exact fin H iJ rfl
   ·refine Op3 29 33 30 34 28 32 rfl rfl fun _ a w G1 hG HT H fin=>?_;refine s_index un44dsv ty109dsv _ H (wg H rfl rfl (decide_eq_true c0)) rfl rfl rfl (by first|assumption|omega) rfl ?_;clear H;intro a H;exact fin H iJ rfl
   ·refine Op2 31 35 28 32 rfl rfl fun _ a w G1 hG HT H fin=>?_;refine s_field fd109_0dsv H (wg H rfl rfl (decide_eq_true c0)) rfl rfl ?_;clear H;intro a H;exact fin H iJ rfl
   ·refine Op2 32 36 28 32 rfl rfl fun _ a w G1 hG HT H fin=>?_;refine s_load ty9run H (wg H rfl rfl (decide_eq_true c0)) rfl (H.hp.gcell (gcell_mono hG (hrow 0 _ rfl))) rfl ?_;clear H;intro a H;exact fin H iJ rfl
   ·refine Op1 28 32 rfl rfl fun _ a w G1 hG HT H fin=>?_;refine s_load ty44dsv H (wg H rfl rfl (decide_eq_true c0)) rfl (H.hp.gcell (gcell_mono hG hb)) rfl ?_;clear H;intro a H;exact fin H iJ rfl
   ·refine Op1 28 32 rfl rfl fun _ a w G1 hG HT H fin=>?_;refine s_move H (wg H rfl rfl (decide_eq_true c0)) rfl rfl ?_;clear H;intro a H;exact fin H iJ rfl
   ·refine Op2 35 39 28 32 rfl rfl fun _ a w G1 hG HT H fin=>?_;refine s_max H (wg H rfl rfl (decide_eq_true c0)) rfl rfl rfl ?_;clear H;intro a H;exact fin H iJ (by first|rfl|exact congrArg vi (by omega))
   ·refine Op2 36 40 28 32 rfl rfl fun _ a w G1 hG HT H fin=>?_;refine s_sub _ H (wg H rfl rfl (decide_eq_true c0)) rfl rfl rfl (by omega) (by omega) rfl ?_;clear H;intro a H;exact fin H iJ (by first|rfl|exact congrArg vi (by omega))
   ·refine Op3 34 38 37 41 28 32 rfl rfl fun _ a w G1 hG HT H fin=>?_;refine s_index un44dsv ty109dsv _ H (wg H rfl rfl (decide_eq_true c0)) rfl rfl rfl (by first|assumption|omega) rfl ?_;clear H;intro a H;exact fin H iJ rfl
   ·refine Op2 38 42 28 32 rfl rfl fun _ a w G1 hG HT H fin=>?_;refine s_field fd109_0dsv H (wg H rfl rfl (decide_eq_true c0)) rfl rfl ?_;clear H;intro a H;exact fin H iJ rfl
   ·refine Op2 39 43 28 32 rfl rfl fun _ a w G1 hG HT H fin=>?_;refine s_load ty9run H (wg H rfl rfl (decide_eq_true c0)) rfl (H.hp.gcell (gcell_mono hG (hrow' 0 _ rfl))) rfl ?_;clear H;intro a H;exact fin H iJ rfl
   ·refine Op3 33 37 40 44 28 32 rfl rfl fun _ a w G1 hG HT H fin=>?_;refine s_lssstr H (wg H rfl rfl (decide_eq_true c0)) rfl rfl rfl ?_;clear H;intro a H;exact fin H iJ rfl
   ·refine Op2 28 32 41 45 rfl rfl fun _ a w G1 hG HT H fin=>?_;refine s_pick_t H wn rfl (decide_eq_true c0) rfl rfl ?_;clear H;intro a H;exact fin H iJ (congrArg Value.bool (by first|(rw [decide_eq_true c0,Bool.true_and];done)|(rw [decide_eq_false c0,Bool.false_and];done)))
   ·refine Op1 42 46 rfl rfl fun _ a w G1 hG HT H fin=>?_;refine s_call en65nam H wn rfl (when_spec _ _ H.hp.ro _ 6) rfl ?_;clear H;rintro v47 G47 a w ⟨rfl,-⟩ hGm47 H;exact fin H hGm47 (rfl)
   ·refine Op0 rfl fun _ a w G1 hG HT H fin=>?_;refine s_load ty44dsv H wn rfl (H.hp.gcell (gcell_mono hG hb)) rfl ?_;clear H;intro a H;exact fin H iJ rfl
   ·exact Op0 rfl fun _ _ _ _ _ _ H fin=>kH H (Rm rfl fun _ H=>fin H iJ rfl)
   ·refine Op2 44 48 45 49 rfl rfl fun _ a w G1 hG HT H fin=>?_;refine s_index un44dsv ty109dsv _ H wn rfl rfl rfl (by first|assumption|omega) rfl ?_;clear H;intro a H;exact fin H iJ rfl
   ·exact Op1 46 50 rfl rfl fun _ _ _ _ _ _ H fin=>kH H (Rf fd109_1dsv rfl fun _ H=>fin H iJ rfl)
   ·refine Op1 47 51 rfl rfl fun _ a w G1 hG HT H fin=>?_;refine s_load ty9run H wn rfl (H.hp.gcell (gcell_mono hG (hrow 1 _ rfl))) rfl ?_;clear H;intro a H;exact fin H iJ rfl
   ·refine Op1 48 52 rfl rfl fun _ a w G1 hG HT H fin=>?_;refine s_call en129dsc H wn rfl (text_spec1 _ _ H.hp.ro x.value hte.2) rfl ?_;clear H;rintro v53 G53 a w rfl hGm53 H;exact fin H hGm53 (rfl)
   ·exact opB rfl
   ·exact opB rfl
   exact opB rfl
  clear H;intro a w G hGm1 H hv;obtain ⟨u11,hu11,hp11⟩:=hv 7 11 (by decide) rfl;obtain rfl:u11=vi (whenE (!cpNm x.name) 13):=hp11;have H:=H.addS hu11;obtain ⟨u29,hu29,hp29⟩:=hv 25 29 (by decide) rfl;obtain rfl:u29=vi (whenE (decide (0 < (k:Int)) && (x.name.toList == y.name.toList)) 7):=hp29;have H:=H.addS hu29;obtain ⟨u47,hu47,hp47⟩:=hv 43 47 (by decide) rfl;obtain rfl:u47=vi (whenE (decide (0 < (k:Int)) && Op.bytesLess x.name.toList y.name.toList) 6):=hp47;have H:=H.addS hu47;obtain ⟨u53,hu53,hp53⟩:=hv 49 53 (by decide) rfl;obtain rfl:u53=vi (txE x.value):=hp53;have H:=H.addS hu53;clear hv;refine s_buildSlice un221fst ty22fst [_,_,_,_] [_,_,_,_] H wn rfl rfl rfl rfl rfl (by intro i q h;match i,h with|0,h=>exact h|1,h=>exact h|2,h=>exact h|3,h=>exact h|n+4,h=>simp at h) rfl rfl ?_;clear H;intro b54 a w hb54 H;obtain ⟨G54,hm54,hb54',H⟩:=H.giveBox;refine s_call en52nam H wn rfl (first_spec1 _ _ H.hp.ro _ _ (ints_rep [whenE (!cpNm x.name) 13,whenE (decide (0 < (k:Int)) && (x.name.toList == y.name.toList)) 7,whenE (decide (0 < (k:Int)) && Op.bytesLess x.name.toList y.name.toList) 6,txE x.value] hb54' (show 4≤maxLen by decide))) rfl ?_;clear H;rintro v55 _ a w ⟨rfl,rfl⟩ - H;refine kH H (Ra rfl ?_);clear H;intro a H;refine wl_nil ⟨rfl,?_⟩;refine K2 _ _ ?_;clear K2;refine c_ret ?_;refine lv H Tryz.results130 rfl ?_;exact H.hp.ret (by rw [he];rfl)
 skip;refine c_drawI (hmx) [[],[],[0,1],[0,1,2],[0,1,2,3],[0,1,2,3,4],[0,1,2,3,4,5],(List.range 7),[],[8],(List.range 10),(List.range 11),(List.range 11),(List.range 13),(List.range 14),(List.range 15),(List.range 11),(List.range 11),(List.range 11++[17]),(List.range 11++[17,18]),(List.range 11++[16,17,18,19]),(List.range 11++[16,17,18,19,20]),(List.range 11++[16,17,18,19,20,21]),(List.range 23),(List.range 24),(List.range 25),[],[26],(List.range 28),(List.range 29),(List.range 29),(List.range 31),(List.range 32),(List.range 33),(List.range 29),(List.range 29),(List.range 29++[35]),(List.range 29++[35,36]),(List.range 29++[34,35,36,37]),(List.range 29++[34,35,36,37,38]),(List.range 29++[34,35,36,37,38,39]),(List.range 41),(List.range 42),(List.range 43),[],[],[44,45],[44,45,46],[44,45,46,47],(List.range 49),(List.range 50),(List.range 51),(List.range 52)] [50,51,52] (by kernel_rfl) (by kernel_rfl) (fun (ix_:Nat) (v:Value) (G:GH)=>match ix_ with|0=>v=.slice (some ⟨b,o,none⟩) l.length c|1=>v=vi k|2=>v=.pointer (some ⟨b,o+k*2,none⟩)|3=>v=.pointer (some ⟨b,o+k*2+0,none⟩)|4=>v=.string x.name|5=>v=.bool (cpNm x.name)|6=>v=.bool (!cpNm x.name)|7=>v=vi (whenE (!cpNm x.name) 13)|8=>v=vi k|9=>v=.bool (decide (0 < (k:Int)))|10=>v=.bool (decide (0 < (k:Int)))|11=>v=undef|12=>v=undef|13=>v=undef|14=>v=undef|15=>v=undef|16=>v=undef|17=>v=undef|18=>v=undef|19=>v=undef|20=>v=undef|21=>v=undef|22=>v=undef|23=>v=undef|24=>v=.bool (decide (0 < (k:Int)) && (x.name.toList == y.name.toList))|25=>v=vi (whenE (decide (0 < (k:Int)) && (x.name.toList == y.name.toList)) 7)|26=>v=vi k|27=>v=.bool (decide (0 < (k:Int)))|28=>v=.bool (decide (0 < (k:Int)))|29=>v=undef|30=>v=undef|31=>v=undef|32=>v=undef|33=>v=undef|34=>v=undef|35=>v=undef|36=>v=undef|37=>v=undef|38=>v=undef|39=>v=undef|40=>v=undef|41=>v=undef|42=>v=.bool (decide (0 < (k:Int)) && Op.bytesLess x.name.toList y.name.toList)|43=>v=vi (whenE (decide (0 < (k:Int)) && Op.bytesLess x.name.toList y.name.toList) 6)|44=>v=.slice (some ⟨b,o,none⟩) l.length c|45=>v=vi k|46=>v=.pointer (some ⟨b,o+k*2,none⟩)|47=>v=.pointer (some ⟨b,o+k*2+1,none⟩)|48=>v=.string x.value|49=>v=vi (txE x.value)|_=>True) (fun _ _ _ _ _ h=>h) H ?_ ?_
 ·clear H;refine al4 ?_ ?_ ?_ ?_ (al4 ?_ ?_ ?_ ?_ (al4 ?_ ?_ ?_ ?_ (al4 ?_ ?_ ?_ ?_ (al4 ?_ ?_ ?_ ?_ (al4 ?_ ?_ ?_ ?_ (al4 ?_ ?_ ?_ ?_ (al4 ?_ ?_ ?_ ?_ (al4 ?_ ?_ ?_ ?_ (al4 ?_ ?_ ?_ ?_ (al4 ?_ ?_ ?_ ?_ (al4 ?_ ?_ ?_ ?_ (al4 ?_ ?_ ?_ ?_ (allI_cons ?_ allI_nil)))))))))))))
  ·refine Op0 rfl fun _ a w G1 hG HT H fin=>?_;refine s_load ty44dsv H wn rfl (H.hp.gcell (gcell_mono hG hb)) rfl ?_;clear H;intro a H;exact fin H iJ rfl
  ·exact Op0 rfl fun _ _ _ _ _ _ H fin=>kH H (Rm rfl fun _ H=>fin H iJ rfl)
  ·refine Op2 0 4 1 5 rfl rfl fun _ a w G1 hG HT H fin=>?_;refine s_index un44dsv ty109dsv _ H wn rfl rfl rfl (by first|assumption|omega) rfl ?_;clear H;intro a H;exact fin H iJ rfl
  ·exact Op1 2 6 rfl rfl fun _ _ _ _ _ _ H fin=>kH H (Rf fd109_0dsv rfl fun _ H=>fin H iJ rfl)
  ·refine Op1 3 7 rfl rfl fun _ a w G1 hG HT H fin=>?_;refine s_load ty9run H wn rfl (H.hp.gcell (gcell_mono hG (hrow 0 _ rfl))) rfl ?_;clear H;intro a H;exact fin H iJ rfl
  ·refine Op1 4 8 rfl rfl fun _ a w G1 hG HT H fin=>?_;refine s_call en60dsv H wn rfl (cpNm_spec _ _ H.hp.ro x.name hte.1) rfl ?_;clear H;rintro v9 G9 a w ⟨rfl,-⟩ hGm9 H;exact fin H hGm9 (rfl)
  ·exact Op1 5 9 rfl rfl fun _ _ _ _ _ _ H fin=>kH H (Rn rfl fun _ H=>fin H iJ rfl)
  ·refine Op1 6 10 rfl rfl fun _ a w G1 hG HT H fin=>?_;refine s_call en65nam H wn rfl (when_spec _ _ H.hp.ro _ 13) rfl ?_;clear H;rintro v11 G11 a w ⟨rfl,-⟩ hGm11 H;exact fin H hGm11 (rfl)
  ·exact Op0 rfl fun _ _ _ _ _ _ H fin=>kH H (Rm rfl fun _ H=>fin H iJ rfl)
  ·exact Op1 8 12 rfl rfl fun _ _ _ _ _ _ H fin=>kH H (Rc rfl fun _ H=>fin H iJ rfl)
  ·exact Op1 9 13 rfl rfl fun _ _ _ _ _ _ H fin=>kH H (Rm rfl fun _ H=>fin H iJ rfl)
  ·exact skI 10 (decide_eq_false c0) rfl rfl
  ·exact skI 10 (decide_eq_false c0) rfl rfl
  ·exact skI 10 (decide_eq_false c0) rfl rfl
  ·exact skI 10 (decide_eq_false c0) rfl rfl
  ·exact skI 10 (decide_eq_false c0) rfl rfl
  ·exact skI 10 (decide_eq_false c0) rfl rfl
  ·exact skI 10 (decide_eq_false c0) rfl rfl
  ·exact skI 10 (decide_eq_false c0) rfl rfl
  ·exact skI 10 (decide_eq_false c0) rfl rfl
  ·exact skI 10 (decide_eq_false c0) rfl rfl
  ·exact skI 10 (decide_eq_false c0) rfl rfl
  ·exact skI 10 (decide_eq_false c0) rfl rfl
  ·exact skI 10 (decide_eq_false c0) rfl rfl
  ·refine Op2 10 14 23 27 rfl rfl fun _ a w G1 hG HT H fin=>?_;refine s_pick_f H wn rfl (decide_eq_false c0) rfl rfl ?_;clear H;intro a H;exact fin H iJ (congrArg Value.bool (by first|(rw [decide_eq_true c0,Bool.true_and];done)|(rw [decide_eq_false c0,Bool.false_and];done)))
  ·refine Op1 24 28 rfl rfl fun _ a w G1 hG HT H fin=>?_;refine s_call en65nam H wn rfl (when_spec _ _ H.hp.ro _ 7) rfl ?_;clear H;rintro v29 G29 a w ⟨rfl,-⟩ hGm29 H;exact fin H hGm29 (rfl)
  ·exact Op0 rfl fun _ _ _ _ _ _ H fin=>kH H (Rm rfl fun _ H=>fin H iJ rfl)
  ·exact Op1 26 30 rfl rfl fun _ _ _ _ _ _ H fin=>kH H (Rc rfl fun _ H=>fin H iJ rfl)
  ·exact Op1 27 31 rfl rfl fun _ _ _ _ _ _ H fin=>kH H (Rm rfl fun _ H=>fin H iJ rfl)
  ·exact skI 28 (decide_eq_false c0) rfl rfl
  ·exact skI 28 (decide_eq_false c0) rfl rfl
  ·exact skI 28 (decide_eq_false c0) rfl rfl
  ·exact skI 28 (decide_eq_false c0) rfl rfl
  ·exact skI 28 (decide_eq_false c0) rfl rfl
  ·exact skI 28 (decide_eq_false c0) rfl rfl
  ·exact skI 28 (decide_eq_false c0) rfl rfl
  ·exact skI 28 (decide_eq_false c0) rfl rfl
  ·exact skI 28 (decide_eq_false c0) rfl rfl
  ·exact skI 28 (decide_eq_false c0) rfl rfl
  ·exact skI 28 (decide_eq_false c0) rfl rfl
  ·exact skI 28 (decide_eq_false c0) rfl rfl
  ·exact skI 28 (decide_eq_false c0) rfl rfl
  ·refine Op2 28 32 41 45 rfl rfl fun _ a w G1 hG HT H fin=>?_;refine s_pick_f H wn rfl (decide_eq_false c0) rfl rfl ?_;clear H;intro a H;exact fin H iJ (congrArg Value.bool (by first|(rw [decide_eq_true c0,Bool.true_and];done)|(rw [decide_eq_false c0,Bool.false_and];done)))
  ·refine Op1 42 46 rfl rfl fun _ a w G1 hG HT H fin=>?_;refine s_call en65nam H wn rfl (when_spec _ _ H.hp.ro _ 6) rfl ?_;clear H;rintro v47 G47 a w ⟨rfl,-⟩ hGm47 H;exact fin H hGm47 (rfl)
  ·refine Op0 rfl fun _ a w G1 hG HT H fin=>?_;refine s_load ty44dsv H wn rfl (H.hp.gcell (gcell_mono hG hb)) rfl ?_;clear H;intro a H;exact fin H iJ rfl
  ·exact Op0 rfl fun _ _ _ _ _ _ H fin=>kH H (Rm rfl fun _ H=>fin H iJ rfl)
  ·refine Op2 44 48 45 49 rfl rfl fun _ a w G1 hG HT H fin=>?_;refine s_index un44dsv ty109dsv _ H wn rfl rfl rfl (by first|assumption|omega) rfl ?_;clear H;intro a H;exact fin H iJ rfl
  ·exact Op1 46 50 rfl rfl fun _ _ _ _ _ _ H fin=>kH H (Rf fd109_1dsv rfl fun _ H=>fin H iJ rfl)
  ·refine Op1 47 51 rfl rfl fun _ a w G1 hG HT H fin=>?_;refine s_load ty9run H wn rfl (H.hp.gcell (gcell_mono hG (hrow 1 _ rfl))) rfl ?_;clear H;intro a H;exact fin H iJ rfl
  ·refine Op1 48 52 rfl rfl fun _ a w G1 hG HT H fin=>?_;refine s_call en129dsc H wn rfl (text_spec1 _ _ H.hp.ro x.value hte.2) rfl ?_;clear H;rintro v53 G53 a w rfl hGm53 H;exact fin H hGm53 (rfl)
  ·exact opB rfl
  ·exact opB rfl
  exact opB rfl
 clear H;intro a w G hGm1 H hv;obtain ⟨u11,hu11,hp11⟩:=hv 7 11 (by decide) rfl;obtain rfl:u11=vi (whenE (!cpNm x.name) 13):=hp11;have H:=H.addS hu11;obtain ⟨u29,hu29,hp29⟩:=hv 25 29 (by decide) rfl;obtain rfl:u29=vi (whenE (decide (0 < (k:Int)) && (x.name.toList == y.name.toList)) 7):=hp29;have H:=H.addS hu29;obtain ⟨u47,hu47,hp47⟩:=hv 43 47 (by decide) rfl;obtain rfl:u47=vi (whenE (decide (0 < (k:Int)) && Op.bytesLess x.name.toList y.name.toList) 6):=hp47;have H:=H.addS hu47;obtain ⟨u53,hu53,hp53⟩:=hv 49 53 (by decide) rfl;obtain rfl:u53=vi (txE x.value):=hp53;have H:=H.addS hu53;clear hv;refine s_buildSlice un221fst ty22fst [_,_,_,_] [_,_,_,_] H wn rfl rfl rfl rfl rfl (by intro i q h;match i,h with|0,h=>exact h|1,h=>exact h|2,h=>exact h|3,h=>exact h|n+4,h=>simp at h) rfl rfl ?_;clear H;intro b54 a w hb54 H;obtain ⟨G54,hm54,hb54',H⟩:=H.giveBox;refine s_call en52nam H wn rfl (first_spec1 _ _ H.hp.ro _ _ (ints_rep [whenE (!cpNm x.name) 13,whenE (decide (0 < (k:Int)) && (x.name.toList == y.name.toList)) 7,whenE (decide (0 < (k:Int)) && Op.bytesLess x.name.toList y.name.toList) 6,txE x.value] hb54' (show 4≤maxLen by decide))) rfl ?_;clear H;rintro v55 _ a w ⟨rfl,rfl⟩ - H;refine kH H (Ra rfl ?_);clear H;intro a H;refine wl_nil ⟨rfl,?_⟩;refine K2 _ _ ?_;clear K2;refine c_ret ?_;refine lv H Tryz.results130 rfl ?_;exact H.hp.ret (by rw [he];rfl)
def chkVas (l:List VaD):Int:=firstE [whenE (decide (128 < (l.length:Int))) 9,allE (vaE l) (min l.length 128)]
theorem checkVars_spec (G:GH) (w0:World) (hG:Hold G w0) (l:List VaD) (v:Value) (hv:RepV G (.sl 2 (l.map VaD.dat)) v) (hl:l.length≤4294967296) (ht:∀ x∈l,x.name.size < 4611686018427387904∧x.value.size < 4611686018427387904) :
  Calls Tryz.prog 55 #[v] w0 (Ret w0 G fun u G'=>u=vi (chkVas l)):=by
 obtain ⟨A,c,rfl,hc1,hc2,-⟩:=hv.slice;rw [List.length_map] at *;refine eN [(0,_)] Tryz.func55 rfl Tryz.ntmps55 rfl rfl hG ?_;intro a H;refine c_seqR (fun _ K1=>?_);refine s_box (cs:=[_]) H wn rfl rfl rfl ?_;clear H;intro b1 a w hb1 H;refine kH H (Ra rfl ?_);clear H;intro a H;refine K1 _ _ ?_;clear K1;refine c_seq (fun _ K2=>?_);have H:=H.sub (T':=[(1,_)]) ⟨rfl,trivial⟩;obtain ⟨Ga,hma,hb1',H⟩:=H.giveBox
 have hbl:gcell Ga b1 0=some (.slice A l.length c):=by unfold gcell;rw [hb1'];rfl
 have hcb:=va_cb hbl (hv.mono hma) hl ht;refine c_drawI (hmx) [[],[0],[0,1],[0,1,2],[],[4],[4,5],[],(List.range 8),(List.range 9),(List.range 10),(List.range 11)] [9,10,11] (by kernel_rfl) (by kernel_rfl) (fun (ix_:Nat) (v:Value) (G:GH)=>match ix_ with|0=>v=.slice A l.length c|1=>v=vi l.length|2=>v=.bool (decide (128 < (l.length:Int)))|3=>v=vi (whenE (decide (128 < (l.length:Int))) 9)|4=>v=.slice A l.length c|5=>v=vi l.length|6=>v=vi ((min l.length 128:Nat):Int)|7=>v=.func (.func 130) #[] #[.pointer (some ⟨b1,0,none⟩)]|8=>v=vi (allE (vaE l) (min l.length 128))|_=>True) (fun _ _ _ _ _ h=>h) H ?_ ?_
 ·clear H;refine al4 ?_ ?_ ?_ ?_ (al4 ?_ ?_ ?_ ?_ (al4 ?_ ?_ ?_ ?_ allI_nil))
  ·refine Op0 rfl fun _ a w G1 hG HT H fin=>?_;refine s_load ty44dsv H wn rfl (H.hp.gcell (gcell_mono hG hbl)) rfl ?_;clear H;intro a H;exact fin H iJ rfl
  ·exact Op1 0 3 rfl rfl fun _ _ _ _ _ _ H fin=>kH H (Rl un44dsv rfl fun _ H=>fin H iJ rfl)
  ·exact Op1 1 4 rfl rfl fun _ _ _ _ _ _ H fin=>kH H (Rc rfl fun _ H=>fin H iJ rfl)
  ·refine Op1 2 5 rfl rfl fun _ a w G1 hG HT H fin=>?_;refine s_call en65nam H wn rfl (when_spec _ _ H.hp.ro _ 9) rfl ?_;clear H;rintro v6 G6 a w ⟨rfl,-⟩ hGm6 H;exact fin H hGm6 (rfl)
  ·refine Op0 rfl fun _ a w G1 hG HT H fin=>?_;refine s_load ty44dsv H wn rfl (H.hp.gcell (gcell_mono hG hbl)) rfl ?_;clear H;intro a H;exact fin H iJ rfl
  ·exact Op1 4 7 rfl rfl fun _ _ _ _ _ _ H fin=>kH H (Rl un44dsv rfl fun _ H=>fin H iJ rfl)
  ·refine Op1 5 8 rfl rfl fun _ a w G1 hG HT H fin=>?_;refine s_min H wn rfl rfl rfl ?_;clear H;intro a H;exact fin H iJ (congrArg vi (by omega))
  ·refine Op0 rfl fun _ a w G1 hG HT H fin=>?_;refine s_makeFunc H wn rfl rfl ?_;clear H;intro a H;exact fin H iJ rfl
  ·refine Op2 6 9 7 10 rfl rfl fun _ a w G1 hG HT H fin=>?_;refine s_call en119dst H wn rfl (all_spec _ _ H.hp.ro (min l.length 128) (vaE l) _ (by omega) ((hcb.mono hG).le (Nat.min_le_left _ _))) rfl ?_;clear H;rintro v11 G11 a w rfl hGm11 H;exact fin H hGm11 (rfl)
  ·exact opB rfl
  ·exact opB rfl
  exact opB rfl
 clear H;intro a w G hGm1 H hv;obtain ⟨u6,hu6,hp6⟩:=hv 3 6 (by decide) rfl;obtain rfl:u6=vi (whenE (decide (128 < (l.length:Int))) 9):=hp6;have H:=H.addS hu6;obtain ⟨u11,hu11,hp11⟩:=hv 8 11 (by decide) rfl;obtain rfl:u11=vi (allE (vaE l) (min l.length 128)):=hp11;have H:=H.addS hu11;clear hv;refine s_buildSlice un221fst ty22fst [_,_] [_,_] H wn rfl rfl rfl rfl rfl (by intro i q h;match i,h with|0,h=>exact h|1,h=>exact h|n+2,h=>simp at h) rfl rfl ?_;clear H;intro b12 a w hb12 H;obtain ⟨G12,hm12,hb12',H⟩:=H.giveBox;refine s_call en52nam H wn rfl (first_spec1 _ _ H.hp.ro _ _ (two_rep hb12')) rfl ?_;clear H;rintro v13 _ a w ⟨rfl,rfl⟩ - H;refine kH H (Ra rfl ?_);clear H;intro a H;refine wl_nil ⟨rfl,?_⟩;refine K2 _ _ ?_;clear K2;refine c_ret ?_;refine lv H Tryz.results55 rfl ?_;exact H.hp.ret rfl
/-- Settings. -/
structure StgD where
 styles:List StyleD
 lists:List LiD
 comments:List CmD
 vars:List VaD
structure StgR (G:GH) (s:StgD) (a b c d:Value):Prop where
 st:RepV G (.sl 6 (s.styles.map StyleD.dat)) a
 li:RepV G (.sl 2 (s.lists.map LiD.dat)) b
 cm:RepV G (.sl 6 (s.comments.map CmD.dat)) c
 va:RepV G (.sl 2 (s.vars.map VaD.dat)) d
/-- Bounds that no machine passes. -/
structure StgZ (s:StgD):Prop where
 sn:∀ x∈s.styles,x.name.size≤4611686018427387904
 ln:s.lists.length≤4294967296
 lt:∀ x∈s.lists,∀ y∈x.levels,y.tmpl.size < 4611686018427387904
 cn:s.comments.length≤4294967296
 ct:∀ x∈s.comments,x.author.size < 4611686018427387904∧x.text.size < 4611686018427387904
 vn:s.vars.length≤4294967296
 vt:∀ x∈s.vars,x.name.size < 4611686018427387904∧x.value.size < 4611686018427387904
def chkStg (s:StgD):Int:=firstE [checkS s.styles,chkLis s.lists,chkCms s.comments,chkVas s.vars]
theorem checkSettings_spec (G:GH) (w0:World) (hG:Hold G w0) (s:StgD) (a b c d:Value) (hR:StgR G s a b c d) (hz:StgZ s) :
  Calls Tryz.prog 17 #[.agg #[a,b,c,d]] w0 (Ret w0 G fun u G'=>u=vi (chkStg s)):=by
 obtain ⟨sA,sn,sc,rfl⟩:=hR.st.form;obtain ⟨lA,ln,lc,rfl⟩:=hR.li.form;obtain ⟨cA,cn,cc,rfl⟩:=hR.cm.form;obtain ⟨vA,vn,vc,rfl⟩:=hR.va.form;refine eN [(0,_)] Tryz.func17 rfl Tryz.ntmps17 rfl rfl hG ?_;intro a H;refine c_seqR (fun _ K1=>?_);refine s_box (cs:=[_,_,_,_]) H wn rfl rfl rfl ?_;clear H;intro b1 a w hb1 H;refine kH H (Ra rfl ?_);clear H;intro a H;refine K1 _ _ ?_;clear K1;refine c_seq (fun _ K2=>?_);have H:=H.sub (T':=[(1,_)]) ⟨rfl,trivial⟩;obtain ⟨Ga,hma,hb1',H⟩:=H.giveBox
 have hc0:gcell Ga b1 0=some (.slice sA sn sc):=by unfold gcell;rw [hb1'];rfl
 have hc1:gcell Ga b1 1=some (.slice lA ln lc):=by unfold gcell;rw [hb1'];rfl
 have hc2:gcell Ga b1 2=some (.slice cA cn cc):=by unfold gcell;rw [hb1'];rfl
 have hc3:gcell Ga b1 3=some (.slice vA vn vc):=by unfold gcell;rw [hb1'];rfl
 refine c_drawI (hmx) [[],[0],[0,1],[],[3],[0,1,2,3,4],[],[6],(List.range 8),[],[9],(List.range 11),(List.range 12),(List.range 13),(List.range 14)] [12,13,14] (by kernel_rfl) (by kernel_rfl) (fun (ix_:Nat) (v:Value) (G:GH)=>match ix_ with|0=>v=.pointer (some ⟨b1,0,none⟩)|1=>v=.slice sA sn sc|2=>v=vi (checkS s.styles)|3=>v=.pointer (some ⟨b1,1,none⟩)|4=>v=.slice lA ln lc|5=>v=vi (chkLis s.lists)|6=>v=.pointer (some ⟨b1,2,none⟩)|7=>v=.slice cA cn cc|8=>v=vi (chkCms s.comments)|9=>v=.pointer (some ⟨b1,3,none⟩)|10=>v=.slice vA vn vc|11=>v=vi (chkVas s.vars)|_=>True) (fun _ _ _ _ _ h=>h) H ?_ ?_
 ·clear H;refine al4 ?_ ?_ ?_ ?_ (al4 ?_ ?_ ?_ ?_ (al4 ?_ ?_ ?_ ?_ (allI_cons ?_ (allI_cons ?_ (allI_cons ?_ allI_nil)))))
  ·exact Op0 rfl fun _ _ _ _ _ _ H fin=>kH H (Rf fd46_0dsv rfl fun _ H=>fin H iJ rfl)
  ·refine Op1 0 3 rfl rfl fun _ a w G1 hG HT H fin=>?_;refine s_load ty41chn H wn rfl (H.hp.gcell (gcell_mono hG hc0)) rfl ?_;clear H;intro a H;exact fin H iJ rfl
  ·refine Op1 1 4 rfl rfl fun _ a w G1 hG HT H fin=>?_;refine s_call en43dsv H wn rfl (check_styles _ _ H.hp.ro s.styles _ ((hR.st.mono hma).mono hG) hz.sn) rfl ?_;clear H;rintro v5 G5 a w rfl hGm5 H;exact fin H hGm5 (rfl)
  ·exact Op0 rfl fun _ _ _ _ _ _ H fin=>kH H (Rf fd46_1dsv rfl fun _ H=>fin H iJ rfl)
  ·refine Op1 3 6 rfl rfl fun _ a w G1 hG HT H fin=>?_;refine s_load ty42dst H wn rfl (H.hp.gcell (gcell_mono hG hc1)) rfl ?_;clear H;intro a H;exact fin H iJ rfl
  ·refine Op1 4 7 rfl rfl fun _ a w G1 hG HT H fin=>?_;refine s_call en53dsv H wn rfl (checkLists_spec _ _ H.hp.ro s.lists _ ((hR.li.mono hma).mono hG) hz.ln hz.lt) rfl ?_;clear H;rintro v8 G8 a w rfl hGm8 H;exact fin H hGm8 (rfl)
  ·exact Op0 rfl fun _ _ _ _ _ _ H fin=>kH H (Rf fd46_2dsv rfl fun _ H=>fin H iJ rfl)
  ·refine Op1 6 9 rfl rfl fun _ a w G1 hG HT H fin=>?_;refine s_load ty43dsc H wn rfl (H.hp.gcell (gcell_mono hG hc2)) rfl ?_;clear H;intro a H;exact fin H iJ rfl
  ·refine Op1 7 10 rfl rfl fun _ a w G1 hG HT H fin=>?_;refine s_call en54dsv H wn rfl (checkComments_spec _ _ H.hp.ro s.comments _ ((hR.cm.mono hma).mono hG) hz.cn hz.ct) rfl ?_;clear H;rintro v11 G11 a w rfl hGm11 H;exact fin H hGm11 (rfl)
  ·exact Op0 rfl fun _ _ _ _ _ _ H fin=>kH H (Rf fd46_3dsv rfl fun _ H=>fin H iJ rfl)
  ·refine Op1 9 12 rfl rfl fun _ a w G1 hG HT H fin=>?_;refine s_load ty44dsv H wn rfl (H.hp.gcell (gcell_mono hG hc3)) rfl ?_;clear H;intro a H;exact fin H iJ rfl
  ·refine Op1 10 13 rfl rfl fun _ a w G1 hG HT H fin=>?_;refine s_call en55dsv H wn rfl (checkVars_spec _ _ H.hp.ro s.vars _ ((hR.va.mono hma).mono hG) hz.vn hz.vt) rfl ?_;clear H;rintro v14 G14 a w rfl hGm14 H;exact fin H hGm14 (rfl)
  ·exact opB rfl
  ·exact opB rfl
  exact opB rfl
 clear H;intro a w G hGm1 H hv;obtain ⟨u5,hu5,hp5⟩:=hv 2 5 (by decide) rfl;obtain rfl:u5=vi (checkS s.styles):=hp5;have H:=H.addS hu5;obtain ⟨u8,hu8,hp8⟩:=hv 5 8 (by decide) rfl;obtain rfl:u8=vi (chkLis s.lists):=hp8;have H:=H.addS hu8;obtain ⟨u11,hu11,hp11⟩:=hv 8 11 (by decide) rfl;obtain rfl:u11=vi (chkCms s.comments):=hp11;have H:=H.addS hu11;obtain ⟨u14,hu14,hp14⟩:=hv 11 14 (by decide) rfl;obtain rfl:u14=vi (chkVas s.vars):=hp14;have H:=H.addS hu14;clear hv;refine s_buildSlice un221fst ty22fst [_,_,_,_] [_,_,_,_] H wn rfl rfl rfl rfl rfl (by intro i q h;match i,h with|0,h=>exact h|1,h=>exact h|2,h=>exact h|3,h=>exact h|n+4,h=>simp at h) rfl rfl ?_;clear H;intro b15 a w hb15 H;obtain ⟨G15,hm15,hb15',H⟩:=H.giveBox;refine s_call en52nam H wn rfl (first_spec1 _ _ H.hp.ro _ _ (ints_rep [checkS s.styles,chkLis s.lists,chkCms s.comments,chkVas s.vars] hb15' (show 4≤maxLen by decide))) rfl ?_;clear H;rintro v16 _ a w ⟨rfl,rfl⟩ - H;refine kH H (Ra rfl ?_);clear H;intro a H;refine wl_nil ⟨rfl,?_⟩;refine K2 _ _ ?_;clear K2;refine c_ret ?_;refine lv H Tryz.results17 rfl ?_;exact H.hp.ret rfl
end
section
open Go.RowKit
theorem en56mst:∀ args w,(callFunc 56 args).run Tryz.prog w=.ok (.enter 56 args) w:=enters Tryz.func56 rfl (by kernel_rfl)
theorem en58mst:∀ args w,(callFunc 58 args).run Tryz.prog w=.ok (.enter 58 args) w:=enters Tryz.func58 rfl (by kernel_rfl)
theorem en59mst:∀ args w,(callFunc 59 args).run Tryz.prog w=.ok (.enter 59 args) w:=enters Tryz.func59 rfl (by kernel_rfl)
theorem stg1 {s:StgD} (h:checkS s.styles≠0):chkStg s=checkS s.styles:=by rw [chkStg,firstE,if_pos h]
theorem stg2 {s:StgD} (h0:checkS s.styles=0) (h:chkLis s.lists≠0):chkStg s=chkLis s.lists:=by rw [chkStg,firstE,if_neg (by rw [h0];decide),firstE,if_pos h]
theorem stg3 {s:StgD} (h0:checkS s.styles=0) (h1:chkLis s.lists=0) (h:chkCms s.comments≠0):chkStg s=chkCms s.comments:=by rw [chkStg,firstE,if_neg (by rw [h0];decide),firstE,if_neg (by rw [h1];decide),firstE,if_pos h]
theorem stg4 {s:StgD} (h0:checkS s.styles=0) (h1:chkLis s.lists=0) (h2:chkCms s.comments=0):chkStg s=chkVas s.vars:=by
 rw [chkStg,firstE,if_neg (by rw [h0];decide),firstE,if_neg (by rw [h1];decide),firstE,if_neg (by rw [h2];decide),firstE,firstE]
 split
 ·rfl
 rename_i h;exact (Decidable.not_not.1 h).symm
theorem lim_yes {E:Nat→Int} {n m:Nat} (h:(m:Int) < n):firstE [whenE (decide ((m:Int) < (n:Int))) 9,allE E (min n m)]=9:=by
 rw [decide_eq_true h];rfl
theorem lim_no {E:Nat→Int} {n m:Nat} (h:¬ (m:Int) < n):firstE [whenE (decide ((m:Int) < (n:Int))) 9,allE E (min n m)]=allE E n:=by
 rw [decide_eq_false h,firstE,if_neg (by decide),firstE,firstE,show min n m=n by omega]
 split
 ·rfl
 rename_i h;exact (Decidable.not_not.1 h).symm
theorem all_stop {E:Nat→Int} {n k:Nat} (hk:k < n) (he:firstE (((List.range n).map E).drop k)=allE E n) (h:E k≠0):allE E n=E k:=by
 rw [← he,allE_at hk,if_pos h]
theorem all_next {E:Nat→Int} {n k:Nat} (hk:k < n) (he:firstE (((List.range n).map E).drop k)=allE E n) (h:E k=0):firstE (((List.range n).map E).drop (k+1))=allE E n:=by
 rw [← he,allE_at hk,if_neg (by rw [h];decide)]
theorem all_done {E:Nat→Int} {n k:Nat} (hk:n≤k) (he:firstE (((List.range n).map E).drop k)=allE E n):allE E n=0:=by
 rw [← he,List.drop_of_length_le (by simpa using hk)];rfl
theorem firstE_ne {l:List Int} {e:Int} (h:e≠0):firstE (e :: l)=e:=by rw [firstE,if_pos h]
theorem firstE_z {l:List Int} {e:Int} (h:e=0):firstE (e :: l)=firstE l:=by rw [firstE,if_neg (by rw [h];decide)]
theorem some_succ {α:Type} {l:List α} {p:α→Bool} {j:Nat} (h:j < l.length):((l.take (j+1)).findIdx? p).isSome=(((l.take j).findIdx? p).isSome || p l[j]):=by
 rw [List.take_succ_eq_append_getElem h,List.findIdx?_append]
 cases (l.take j).findIdx? p <;> simp [List.findIdx?_cons] <;> split <;> simp_all
set_option maxHeartbeats 4000000 in
theorem mset_spec (G:GH) (w0:World) (hG:Hold G w0) (s:StgD) (a b c d:Value) (hR:StgR G s a b c d) (hz:StgZ s) :
  Calls Tryz.prog 18 #[.agg #[a,b,c,d]] w0 (Ret w0 G fun u G'=>u=vi (chkStg s)):=by
 obtain ⟨sA,sc,rfl,-,-,-⟩:=hR.st.slice;obtain ⟨lA,lc,rfl,-,hlc,-⟩:=hR.li.slice;obtain ⟨cA,cc,rfl,-,hcc,-⟩:=hR.cm.slice;obtain ⟨vA,vc,rfl,-,hvc,-⟩:=hR.va.slice;have hml:maxLen=9223372036854775807:=rfl;have hl1:=hz.ln;have hl2:=hz.cn;have hl3:=hz.vn;refine eN [(0,_)] Tryz.func18 rfl Tryz.ntmps18 rfl rfl hG ?_;intro a H;refine c_seqR (fun _ K1=>?_);refine s_box (cs:=[_,_,_,_]) H wn rfl rfl rfl ?_;clear H;intro b1 a w hb1 H;refine kH H (Ra rfl ?_);clear H;intro a H;refine K1 _ _ ?_;clear K1;refine c_seq (fun _ K2=>?_);refine c_seq (fun _ K3=>?_);obtain ⟨Ga,hma,hb1',H⟩:=H.giveBox
 simp only [List.length_map] at hb1' hR
 have hc0:gcell Ga b1 0=some (.slice sA s.styles.length sc):=by unfold gcell;rw [hb1'];rfl
 have hc1:gcell Ga b1 1=some (.slice lA s.lists.length lc):=by unfold gcell;rw [hb1'];rfl
 have hc2:gcell Ga b1 2=some (.slice cA s.comments.length cc):=by unfold gcell;rw [hb1'];rfl
 have hc3:gcell Ga b1 3=some (.slice vA s.vars.length vc):=by unfold gcell;rw [hb1'];rfl
 have hli:=hR.li.mono hma;have hcm:=hR.cm.mono hma;have hva:=hR.va.mono hma;refine c_region ?_;refine kH H (Rf fd46_0dsv rfl ?_);clear H;intro a H;refine s_load ty41chn H wn rfl (H.hp.gcell (by assumption)) rfl ?_;clear H;intro a H;refine s_call en43dsv H wn rfl (check_styles _ _ H.hp.ro s.styles _ (hR.st.mono hma) hz.sn) rfl ?_;clear H;rintro v19 G19 a w rfl hm19 H;replace hc1:=gcell_mono hm19 hc1;replace hc2:=gcell_mono hm19 hc2;replace hc3:=gcell_mono hm19 hc3;replace hli:=hli.mono hm19;replace hcm:=hcm.mono hm19;replace hva:=hva.mono hm19;refine kH H (Ra rfl ?_);clear H;intro a H;refine wl_nil ?_;refine K3 _ _ ?_;clear K3;refine c_seqR (fun _ K4=>?_);refine kH H (Rm rfl (Rc rfl ?_));clear H;intro a H;refine K4 _ _ ?_;clear K4;refine c_cond H rfl ?_ ?_
 ·intro h21
  try have p21:=of_decide_eq_true h21
  refine c_seq (fun _ K5=>?_);have e:chkStg s=checkS s.styles:=stg1 p21;refine c_region ?_;refine kH H (Rm rfl (Ra rfl ?_));clear H;intro a H;refine wl_nil ?_;refine K5 _ _ ?_;clear K5;refine c_ret ?_;refine lv H Tryz.results18 rfl ?_;exact H.hp.ret (congrArg vi e.symm)
 intro h21
 try have p21:=of_decide_eq_false h21
 have e0:checkS s.styles=0:=Decidable.not_not.1 p21;refine c_skip ?_;refine K2 _ _ ?_;clear K2;refine c_seq (fun _ K6=>?_);refine c_seqR (fun _ K7=>?_);refine kH H (Rf fd46_1dsv rfl ?_);clear H;intro a H;refine s_load ty42dst H wn rfl (H.hp.gcell (by assumption)) rfl ?_;clear H;intro a H;refine kH H (Rl un42dst rfl (Rc rfl ?_));clear H;intro a H;refine K7 _ _ ?_;clear K7;refine c_cond H rfl ?_ ?_
 ·intro h26
  try have p26:=of_decide_eq_true h26
  refine c_seq (fun _ K8=>?_)
  have e:chkStg s=9:=by
   have h:chkLis s.lists=9:=lim_yes (m:=64) (by omega);rw [stg2 e0 (by rw [h];decide),h]
  refine c_region ?_;refine kH H (Ra rfl ?_);clear H;intro a H;refine wl_nil ?_;refine K8 _ _ ?_;clear K8;refine c_ret ?_;refine lv H Tryz.results18 rfl ?_;exact H.hp.ret (congrArg vi e.symm)
 intro h26
 try have p26:=of_decide_eq_false h26
 have hLi:chkLis s.lists=allE (lisE s.lists) s.lists.length:=lim_no (m:=64) (by omega);refine c_skip ?_;refine K6 _ _ ?_;clear K6;refine c_seq (fun _ K9=>?_);refine c_seqR (fun _ K10=>?_);refine kH H (Ra rfl ?_);clear H;intro a H;refine K10 _ _ ?_;clear K10;refine c_block ?_;skip;refine c_loopS (ι:=Nat × GH) (Tc:=[(1,_)]) (Lc:=[]) (fun (gh:Nat × GH)=>[(4,vi gh.1)]) (fun (gh:Nat × GH)=>[]) (fun (gh:Nat × GH)=>gh.2) (fun (gh:Nat × GH)=>gh.1≤s.lists.length∧firstE (((List.range s.lists.length).map (lisE s.lists)).drop gh.1)=allE (lisE s.lists) s.lists.length∧(∀ b o,G19 b=some o→gh.2 b=some o)) (fun (gh:Nat × GH)=>s.lists.length - gh.1) ((0,G19)) (by exact (H).sub ⟨rfl,rfl,trivial⟩) ?_ ?_
 ·exact ⟨Nat.zero_le _,rfl,fun _ _ h=>h⟩
 clear H;intro gh a w hI H;obtain ⟨k,g⟩:=gh;dsimp only at hI H;obtain ⟨hk,he,hgm⟩:=hI;have hc1g:=gcell_mono hgm hc1;have hlig:=hli.mono hgm;dsimp only [List.cons_append,List.nil_append,List.append_nil] at H;refine c_seq (fun _ K11=>?_);refine c_seqR (fun _ K12=>?_);refine kH H (Rm rfl (Rf fd46_1dsv rfl ?_));clear H;intro a H;refine s_load ty42dst H wn rfl (H.hp.gcell (by assumption)) rfl ?_;clear H;intro a H;refine kH H (Rl un42dst rfl (Rc rfl ?_));clear H;intro a H;refine K12 _ _ ?_;clear K12;refine c_cond H rfl ?_ ?_
 ·intro h31
  try have p31:=of_decide_eq_true h31
  have hk2:k < s.lists.length:=by omega
  have hk1:k - 1 < s.lists.length:=by omega
  obtain ⟨lb,lo,B,d,rfl,hrow,hlv⟩:=li_at hlig hk2;obtain ⟨_,_,_,_,hea,hrow',-⟩:=li_at hlig hk1
  injection hea with hea
  injection hea with e1 e2
  subst e1;subst e2
  have hek:lisE s.lists k=firstE [incE (fun k=>(s.lists[k]?.map LiD.id).getD 0) k,clvE s.lists[k].levels]:=by unfold lisE;rw [List.getElem?_eq_getElem hk2];rfl
  have hinc:inc13 s.lists[k].id s.lists[k - 1].id (decide ((k:Int)=0))=incE (fun k=>(s.lists[k]?.map LiD.id).getD 0) k:=by
   rw [← inc13_eq];(try dsimp only);rw [List.getElem?_eq_getElem hk2,List.getElem?_eq_getElem hk1];simp
  refine c_skip ?_;refine K11 _ _ ?_;clear K11;refine c_seq (fun _ K13=>?_);refine c_block ?_;refine c_seqR (fun _ K14=>?_);refine kH H (Rf fd46_1dsv rfl ?_);clear H;intro a H;refine s_load ty42dst H wn rfl (H.hp.gcell (by assumption)) rfl ?_;clear H;intro a H;refine kH H (Rm rfl ?_);clear H;intro a H;refine s_index un42dst ty105dst _ H wn rfl rfl rfl (by first|assumption|omega) rfl ?_;clear H;intro a H;refine s_loada ty105dst (cs:=[vi s.lists[k].id,.slice B s.lists[k].levels.length d]) H wn rfl rfl (fun j v hj=>H.hp.gcell (hrow j v hj)) rfl ?_;clear H;intro a H;refine s_alloc ty105dst H wn rfl ?_;clear H;intro b5 a w hb5 H;refine s_store ty105dst 0 (vs:=[_,_]) _ H wn rfl rfl rfl rfl rfl rfl rfl rfl ?_;clear H;intro w H;dsimp only [List.set,setRow] at H;refine K14 _ _ ?_;clear K14;refine c_seq (fun _ K15=>?_);refine c_seq (fun _ K16=>?_);refine c_drawI (hmx) [[],[0],[],[2],[],[4],[4,5],[2,3,4,5,6],[2,3,4,5,6,7],[2,3,4,5,6,7,8],[],[10],(List.range 12),(List.range 13)] [13] (by kernel_rfl) (by kernel_rfl) (fun (ix_:Nat) (v:Value) (G:GH)=>match ix_ with|0=>v=.pointer (some ⟨b5,0,none⟩)|1=>v=vi s.lists[k].id|2=>v=.pointer (some ⟨b1,1,none⟩)|3=>v=.slice (some ⟨lb,lo,none⟩) s.lists.length lc|4=>v=vi k|5=>v=vi ((k:Int) - 1)|6=>v=vi ((k - 1:Nat):Int)|7=>v=.pointer (some ⟨lb,lo+(k - 1)*2,none⟩)|8=>v=.pointer (some ⟨lb,lo+(k - 1)*2+0,none⟩)|9=>v=vi s.lists[k - 1].id|10=>v=vi k|11=>v=.bool (decide ((k:Int)=0))|12=>v=vi (incE (fun k=>(s.lists[k]?.map LiD.id).getD 0) k)|_=>True) (fun _ _ _ _ _ h=>h) H ?_ ?_
  ·clear H;refine al4 ?_ ?_ ?_ ?_ (al4 ?_ ?_ ?_ ?_ (al4 ?_ ?_ ?_ ?_ (allI_cons ?_ (allI_cons ?_ allI_nil))))
   ·exact Op0 rfl fun _ _ _ _ _ _ H fin=>kH H (Rf fd105_0dst rfl fun _ H=>fin H iJ rfl)
   ·exact Op1 0 39 rfl rfl fun _ _ _ _ _ _ H fin=>kH H (Ro ty3run 0 rfl rfl fun _ H=>fin H iJ rfl)
   ·exact Op0 rfl fun _ _ _ _ _ _ H fin=>kH H (Rf fd46_1dsv rfl fun _ H=>fin H iJ rfl)
   ·refine Op1 2 41 rfl rfl fun _ a w G1 hG HT H fin=>?_;refine s_load ty42dst H wn rfl (H.hp.gcell (gcell_mono hG hc1g)) rfl ?_;clear H;intro a H;exact fin H iJ rfl
   ·exact Op0 rfl fun _ _ _ _ _ _ H fin=>kH H (Rm rfl fun _ H=>fin H iJ rfl)
   ·refine Op1 4 43 rfl rfl fun _ a w G1 hG HT H fin=>?_;refine s_sub _ H wn rfl rfl rfl (by omega) (by omega) rfl ?_;clear H;intro a H;exact fin H iJ rfl
   ·refine Op1 5 44 rfl rfl fun _ a w G1 hG HT H fin=>?_;refine s_max H wn rfl rfl rfl ?_;clear H;intro a H;exact fin H iJ (congrArg vi (by omega))
   ·refine Op2 3 42 6 45 rfl rfl fun _ a w G1 hG HT H fin=>?_;refine s_index un42dst ty105dst _ H wn rfl rfl rfl (by first|assumption|omega) rfl ?_;clear H;intro a H;exact fin H iJ rfl
   ·exact Op1 7 46 rfl rfl fun _ _ _ _ _ _ H fin=>kH H (Rf fd105_0dst rfl fun _ H=>fin H iJ rfl)
   ·refine Op1 8 47 rfl rfl fun _ a w G1 hG HT H fin=>?_;refine s_load ty3run H wn rfl (H.hp.gcell (gcell_mono hG (hrow' 0 _ rfl))) rfl ?_;clear H;intro a H;exact fin H iJ rfl
   ·exact Op0 rfl fun _ _ _ _ _ _ H fin=>kH H (Rm rfl fun _ H=>fin H iJ rfl)
   ·exact Op1 10 49 rfl rfl fun _ _ _ _ _ _ H fin=>kH H (Rc rfl fun _ H=>fin H iJ rfl)
   ·refine Op3 1 40 9 48 11 50 rfl rfl fun _ a w G1 hG HT H fin=>?_;refine s_call en56mst H wn rfl (inc13_spec _ _ H.hp.ro s.lists[k].id s.lists[k - 1].id (decide ((k:Int)=0))) rfl ?_;clear H;rintro v51 G51 a w ⟨rfl,-⟩ hGm51 H;exact fin H hGm51 (congrArg vi hinc)
   exact opB rfl
  clear H;intro a w G hGm10 H hv;obtain ⟨u51,hu51,hp51⟩:=hv 12 51 (by decide) rfl;obtain rfl:u51=vi (incE (fun k=>(s.lists[k]?.map LiD.id).getD 0) k):=hp51;have H:=H.addS hu51;clear hv;refine kH H (Ra rfl ?_);clear H;intro a H;refine wl_nil ⟨rfl,?_⟩;refine K16 _ _ ?_;clear K16;refine c_seqR (fun _ K17=>?_);refine kH H (Rm rfl (Rc rfl ?_));clear H;intro a H;refine K17 _ _ ?_;clear K17;refine c_cond H rfl ?_ ?_
  ·intro h53
   try have p53:=of_decide_eq_true h53
   refine c_seq (fun _ K18=>?_)
   have e:chkStg s=incE (fun k=>(s.lists[k]?.map LiD.id).getD 0) k:=by
    have h1:lisE s.lists k=incE (fun k=>(s.lists[k]?.map LiD.id).getD 0) k:=by rw [hek,firstE_ne p53]
    have h2:chkLis s.lists=incE (fun k=>(s.lists[k]?.map LiD.id).getD 0) k:=by rw [hLi,all_stop hk2 he (by rw [h1];exact p53),h1]
    rw [stg2 e0 (by rw [h2];exact p53),h2]
   refine c_region ?_;refine kH H (Rm rfl (Ra rfl ?_));clear H;intro a H;refine wl_nil ?_;refine K18 _ _ ?_;clear K18;refine c_ret ?_;refine lv H Tryz.results18 rfl ?_;exact H.hp.ret (congrArg vi e.symm)
  intro h53
  try have p53:=of_decide_eq_false h53
  refine c_skip ?_;refine K15 _ _ ?_;clear K15;refine c_seqR (fun _ K19=>?_);refine kH H (Rf fd105_1dst rfl (Ro ty103dst 0 rfl rfl ?_));clear H;intro a H;refine s_call en57dst H wn rfl (checkLevels_spec _ _ H.hp.ro s.lists[k].levels _ (hlv.mono hGm10) (hz.lt _ (List.getElem_mem hk2))) rfl ?_;clear H;rintro v57 G57 a w rfl hm57 H;refine kH H (Ra rfl ?_);clear H;intro a H;refine K19 _ _ ?_;clear K19;refine c_seqR (fun _ K20=>?_);refine kH H (Rm rfl (Rc rfl ?_));clear H;intro a H;refine K20 _ _ ?_;clear K20;refine c_cond H rfl ?_ ?_
  ·intro h59
   try have p59:=of_decide_eq_true h59
   refine c_seq (fun _ K21=>?_)
   have e:chkStg s=clvE s.lists[k].levels:=by
    have h1:lisE s.lists k=clvE s.lists[k].levels:=by rw [hek,firstE_z (Decidable.not_not.1 p53),firstE_ne p59]
    have h2:chkLis s.lists=clvE s.lists[k].levels:=by rw [hLi,all_stop hk2 he (by rw [h1];exact p59),h1]
    rw [stg2 e0 (by rw [h2];exact p59),h2]
   refine c_region ?_;refine kH H (Rm rfl (Ra rfl ?_));clear H;intro a H;refine wl_nil ?_;refine K21 _ _ ?_;clear K21;refine c_ret ?_;refine lv H Tryz.results18 rfl ?_;exact H.hp.ret (congrArg vi e.symm)
  intro h59
  try have p59:=of_decide_eq_false h59
  refine c_skip ?_;refine K13 _ _ ?_;clear K13;refine c_region ?_;refine kH H (Rm rfl ?_);clear H;intro a H;refine s_add _ H wn rfl rfl rfl (by omega) (by omega) rfl ?_;clear H;intro a H;refine kH H (Ra rfl ?_);clear H;intro a H;refine wl_nil ?_;refine loop_end ((k+1,G57)) (by exact (H.pickT (Pl:=[_]) (Pl':=[]) [] (by decide) rfl).sub ⟨rfl,rfl,trivial⟩) ?_ ?_
  ·(try dsimp only);exact ⟨by omega,all_next hk2 he (by rw [hek,firstE_z (Decidable.not_not.1 p53),firstE_z (Decidable.not_not.1 p59)];rfl),fun b o h=>hm57 b o (hGm10 b o (hgm b o h))⟩
  first|omega|(dsimp only;omega)
 intro h31
 try have p31:=of_decide_eq_false h31
 refine c_exit ?_;refine K9 _ _ ?_;clear K9;refine c_seq (fun _ K22=>?_);refine c_seq (fun _ K23=>?_)
 have hLi0:chkLis s.lists=0:=by rw [hLi,all_done (by omega) he]
 have hc2g:=gcell_mono hgm hc2;have hc3g:=gcell_mono hgm hc3;replace hcm:=hcm.mono hgm;replace hva:=hva.mono hgm;refine c_region ?_;refine kH H (Rf fd46_2dsv rfl ?_);clear H;intro a H;refine s_load ty43dsc H wn rfl (H.hp.gcell (by assumption)) rfl ?_;clear H;intro a H;refine kH H (Rl un43dsc rfl (Rc rfl ?_));clear H;intro a H;refine wl_nil ?_;refine K23 _ _ ?_;clear K23;refine c_cond H rfl ?_ ?_
 ·intro h64
  try have p64:=of_decide_eq_true h64
  refine c_seq (fun _ K24=>?_)
  have e:chkStg s=9:=by
   have h:chkCms s.comments=9:=lim_yes (m:=1024) (by omega);rw [stg3 e0 hLi0 (by rw [h];decide),h]
  refine c_region ?_;refine kH H (Ra rfl ?_);clear H;intro a H;refine wl_nil ?_;refine K24 _ _ ?_;clear K24;refine c_ret ?_;refine lv H Tryz.results18 rfl ?_;exact H.hp.ret (congrArg vi e.symm)
 intro h64
 try have p64:=of_decide_eq_false h64
 have hCm:chkCms s.comments=allE (cmE s.comments) s.comments.length:=lim_no (m:=1024) (by omega);refine c_skip ?_;refine K22 _ _ ?_;clear K22;refine c_seq (fun _ K25=>?_);refine c_seqR (fun _ K26=>?_);refine kH H (Ra rfl ?_);clear H;intro a H;refine K26 _ _ ?_;clear K26;refine c_block ?_;skip;refine c_loopS (ι:=Nat × GH) (Tc:=[(1,_)]) (Lc:=[]) (fun (gh:Nat × GH)=>[(8,vi gh.1)]) (fun (gh:Nat × GH)=>[]) (fun (gh:Nat × GH)=>gh.2) (fun (gh:Nat × GH)=>gh.1≤s.comments.length∧firstE (((List.range s.comments.length).map (cmE s.comments)).drop gh.1)=allE (cmE s.comments) s.comments.length∧(∀ b o,g b=some o→gh.2 b=some o)) (fun (gh:Nat × GH)=>s.comments.length - gh.1) ((0,g)) (by exact (H).sub ⟨rfl,rfl,trivial⟩) ?_ ?_
 ·exact ⟨Nat.zero_le _,rfl,fun _ _ h=>h⟩
 clear H;intro gh a w hI H;obtain ⟨i,g2⟩:=gh;dsimp only at hI H;obtain ⟨hi,hce,hgm2⟩:=hI;have hc2i:=gcell_mono hgm2 hc2g;have hcmi:=hcm.mono hgm2;dsimp only [List.cons_append,List.nil_append,List.append_nil] at H;refine c_seq (fun _ K27=>?_);refine c_seqR (fun _ K28=>?_);refine kH H (Rm rfl (Rf fd46_2dsv rfl ?_));clear H;intro a H;refine s_load ty43dsc H wn rfl (H.hp.gcell (by assumption)) rfl ?_;clear H;intro a H;refine kH H (Rl un43dsc rfl (Rc rfl ?_));clear H;intro a H;refine K28 _ _ ?_;clear K28;refine c_cond H rfl ?_ ?_
 ·intro h69
  try have p69:=of_decide_eq_true h69
  have hi2:i < s.comments.length:=by omega
  have hi1:i - 1 < s.comments.length:=by omega
  obtain ⟨cb,co,rfl,hcrow,-⟩:=cm_at hcmi hi2;obtain ⟨_,_,hea2,hcrow',-⟩:=cm_at hcmi hi1
  injection hea2 with hea2
  injection hea2 with e1 e2
  subst e1;subst e2;have hte:=hz.ct _ (List.getElem_mem hi2);obtain ⟨x,hx⟩:∃ x,x=s.comments[i]:=⟨_,rfl⟩
  have hcek:cmE s.comments i=cmE0 s.comments i x:=by unfold cmE;rw [List.getElem?_eq_getElem hi2,hx]
  have hinc2:inc13 x.id s.comments[i - 1].id (decide ((i:Int)=0))=incE (fun k=>(s.comments[k]?.map CmD.id).getD 0) i:=by
   rw [← inc13_eq];(try dsimp only);rw [List.getElem?_eq_getElem hi2,List.getElem?_eq_getElem hi1,hx];simp
  rw [← hx] at hcrow hte;refine c_skip ?_;refine K27 _ _ ?_;clear K27;refine c_seq (fun _ K29=>?_);refine c_block ?_;refine c_seqR (fun _ K30=>?_);refine kH H (Rf fd46_2dsv rfl ?_);clear H;intro a H;refine s_load ty43dsc H wn rfl (H.hp.gcell (by assumption)) rfl ?_;clear H;intro a H;refine kH H (Rm rfl ?_);clear H;intro a H;refine s_index un43dsc ty107dsc _ H wn rfl rfl rfl (by first|assumption|omega) rfl ?_;clear H;intro a H;refine s_loada ty107dsc (cs:=x.cells) H wn rfl rfl (fun j v hj=>H.hp.gcell (hcrow j v hj)) rfl ?_;clear H;intro a H;refine s_alloc ty107dsc H wn rfl ?_;clear H;intro b9 a w hb9 H;refine s_store ty107dsc 0 (vs:=[_,_,_,_,_,_]) _ H wn rfl rfl rfl rfl rfl rfl rfl rfl ?_;clear H;intro w H;dsimp only [List.set,setRow] at H;refine K30 _ _ ?_;clear K30;refine c_seq (fun _ K31=>?_);refine c_seq (fun _ K32=>?_);refine c_drawI (hmx) [[],[0],[],[2],[],[4],[4,5],[2,3,4,5,6],[2,3,4,5,6,7],[2,3,4,5,6,7,8],[],[10],(List.range 12),(List.range 13)] [13] (by kernel_rfl) (by kernel_rfl) (fun (ix_:Nat) (v:Value) (G:GH)=>match ix_ with|0=>v=.pointer (some ⟨b9,0,none⟩)|1=>v=vi x.id|2=>v=.pointer (some ⟨b1,2,none⟩)|3=>v=.slice (some ⟨cb,co,none⟩) s.comments.length cc|4=>v=vi i|5=>v=vi ((i:Int) - 1)|6=>v=vi ((i - 1:Nat):Int)|7=>v=.pointer (some ⟨cb,co+(i - 1)*6,none⟩)|8=>v=.pointer (some ⟨cb,co+(i - 1)*6+0,none⟩)|9=>v=vi s.comments[i - 1].id|10=>v=vi i|11=>v=.bool (decide ((i:Int)=0))|12=>v=vi (incE (fun k=>(s.comments[k]?.map CmD.id).getD 0) i)|_=>True) (fun _ _ _ _ _ h=>h) H ?_ ?_
  ·clear H;refine al4 ?_ ?_ ?_ ?_ (al4 ?_ ?_ ?_ ?_ (al4 ?_ ?_ ?_ ?_ (allI_cons ?_ (allI_cons ?_ allI_nil))))
   ·exact Op0 rfl fun _ _ _ _ _ _ H fin=>kH H (Rf fd107_0dsc rfl fun _ H=>fin H iJ rfl)
   ·exact Op1 0 77 rfl rfl fun _ _ _ _ _ _ H fin=>kH H (Ro ty3run 0 rfl rfl fun _ H=>fin H iJ rfl)
   ·exact Op0 rfl fun _ _ _ _ _ _ H fin=>kH H (Rf fd46_2dsv rfl fun _ H=>fin H iJ rfl)
   ·refine Op1 2 79 rfl rfl fun _ a w G1 hG HT H fin=>?_;refine s_load ty43dsc H wn rfl (H.hp.gcell (gcell_mono hG hc2i)) rfl ?_;clear H;intro a H;exact fin H iJ rfl
   ·exact Op0 rfl fun _ _ _ _ _ _ H fin=>kH H (Rm rfl fun _ H=>fin H iJ rfl)
   ·refine Op1 4 81 rfl rfl fun _ a w G1 hG HT H fin=>?_;refine s_sub _ H wn rfl rfl rfl (by omega) (by omega) rfl ?_;clear H;intro a H;exact fin H iJ rfl
   ·refine Op1 5 82 rfl rfl fun _ a w G1 hG HT H fin=>?_;refine s_max H wn rfl rfl rfl ?_;clear H;intro a H;exact fin H iJ (congrArg vi (by omega))
   ·refine Op2 3 80 6 83 rfl rfl fun _ a w G1 hG HT H fin=>?_;refine s_index un43dsc ty107dsc _ H wn rfl rfl rfl (by first|assumption|omega) rfl ?_;clear H;intro a H;exact fin H iJ rfl
   ·exact Op1 7 84 rfl rfl fun _ _ _ _ _ _ H fin=>kH H (Rf fd107_0dsc rfl fun _ H=>fin H iJ rfl)
   ·refine Op1 8 85 rfl rfl fun _ a w G1 hG HT H fin=>?_;refine s_load ty3run H wn rfl (H.hp.gcell (gcell_mono hG (hcrow' 0 _ rfl))) rfl ?_;clear H;intro a H;exact fin H iJ rfl
   ·exact Op0 rfl fun _ _ _ _ _ _ H fin=>kH H (Rm rfl fun _ H=>fin H iJ rfl)
   ·exact Op1 10 87 rfl rfl fun _ _ _ _ _ _ H fin=>kH H (Rc rfl fun _ H=>fin H iJ rfl)
   ·refine Op3 1 78 9 86 11 88 rfl rfl fun _ a w G1 hG HT H fin=>?_;refine s_call en56mst H wn rfl (inc13_spec _ _ H.hp.ro x.id s.comments[i - 1].id (decide ((i:Int)=0))) rfl ?_;clear H;rintro v89 G89 a w ⟨rfl,-⟩ hGm89 H;exact fin H hGm89 (congrArg vi hinc2)
   exact opB rfl
  clear H;intro a w G hGm22 H hv;obtain ⟨u89,hu89,hp89⟩:=hv 12 89 (by decide) rfl;obtain rfl:u89=vi (incE (fun k=>(s.comments[k]?.map CmD.id).getD 0) i):=hp89;have H:=H.addS hu89;clear hv;refine kH H (Ra rfl ?_);clear H;intro a H;refine wl_nil ⟨rfl,?_⟩;refine K32 _ _ ?_;clear K32;refine c_seqR (fun _ K33=>?_);refine kH H (Rm rfl (Rc rfl ?_));clear H;intro a H;refine K33 _ _ ?_;clear K33;refine c_cond H rfl ?_ ?_
  ·intro h91
   try have p91:=of_decide_eq_true h91
   refine c_seq (fun _ K34=>?_)
   have e:chkStg s=incE (fun k=>(s.comments[k]?.map CmD.id).getD 0) i:=by
    have h1:cmE s.comments i=incE (fun k=>(s.comments[k]?.map CmD.id).getD 0) i:=by rw [hcek,cmE0,firstE_ne p91]
    have h2:chkCms s.comments=incE (fun k=>(s.comments[k]?.map CmD.id).getD 0) i:=by rw [hCm,all_stop hi2 hce (by rw [h1];exact p91),h1]
    rw [stg3 e0 hLi0 (by rw [h2];exact p91),h2]
   refine c_region ?_;refine kH H (Rm rfl (Ra rfl ?_));clear H;intro a H;refine wl_nil ?_;refine K34 _ _ ?_;clear K34;refine c_ret ?_;refine lv H Tryz.results18 rfl ?_;exact H.hp.ret (congrArg vi e.symm)
  intro h91
  try have p91:=of_decide_eq_false h91
  refine c_skip ?_;refine K31 _ _ ?_;clear K31;refine c_seqR (fun _ K35=>?_);refine kH H (Rf fd107_1dsc rfl (Ro ty3run 0 rfl rfl (Rc rfl (Ra rfl ?_))));clear H;intro a H;refine K35 _ _ ?_;clear K35;refine c_seq (fun _ K36=>?_);refine c_seqR (fun _ K37=>?_);refine kH H (Ra rfl ?_);clear H;intro a H;refine K37 _ _ ?_;clear K37;refine c_block ?_;skip;refine c_loopS (ι:=Nat × Bool × GH) (Tc:=[(1,_),(8,_),(9,_)]) (Lc:=[(_,_)]) (fun (gh:Nat × Bool × GH)=>[(11,.bool gh.2.1),(12,vi gh.1)]) (fun (gh:Nat × Bool × GH)=>[]) (fun (gh:Nat × Bool × GH)=>gh.2.2) (fun (gh:Nat × Bool × GH)=>gh.1≤i∧gh.2.1=(decide (x.parent=0) || ((s.comments.take gh.1).findIdx? fun y=>decide (y.id=x.parent)).isSome)∧(∀ b o,g2 b=some o→gh.2.2 b=some o)) (fun (gh:Nat × Bool × GH)=>i - gh.1) ((0,decide (x.parent=0),_)) (by exact (H).sub ⟨rfl,rfl,rfl,rfl,rfl,trivial⟩) ?_ ?_
  ·exact ⟨Nat.zero_le _,by simp,hGm22⟩
  clear H;intro gh a w hI H;obtain ⟨j,fb,g3⟩:=gh;dsimp only at hI H;obtain ⟨hj,hfb,hgm3⟩:=hI;have hc2j:=gcell_mono hgm3 hc2i;dsimp only [List.cons_append,List.nil_append,List.append_nil] at H;refine c_seq (fun _ K38=>?_);refine c_seqR (fun _ K39=>?_);refine kH H (Rm rfl (Rm rfl (Rc rfl ?_)));clear H;intro a H;refine K39 _ _ ?_;clear K39;refine c_cond H rfl ?_ ?_
  ·intro h98
   try have p98:=of_decide_eq_true h98
   have hj2:j < i:=by omega
   have hj1:j < s.comments.length:=by omega
   obtain ⟨_,_,hea3,hcrow3,-⟩:=cm_at (hcmi.mono hgm3) hj1
   injection hea3 with hea3
   injection hea3 with e1 e2
   subst e1;subst e2;refine c_skip ?_;refine K38 _ _ ?_;clear K38;refine c_seq (fun _ K40=>?_);refine c_block ?_
   by_cases f0:fb=true
   ·skip;refine c_drawI (hmx) [[],[0],[0,1],[0,1,2],[0,1],[0,1,2,3,4],[0,1,2,3,4,5],(List.range 7),[0,1],[0,1,8],(List.range 10),(List.range 11),(List.range 12)] [12] (by kernel_rfl) (by kernel_rfl) (fun (ix_:Nat) (v:Value) (G:GH)=>match ix_ with|0=>v=.bool fb|1=>v=.bool (decide (fb=true))|2=>v=undef|3=>v=undef|4=>v=undef|5=>v=undef|6=>v=undef|7=>v=undef|8=>v=undef|9=>v=undef|10=>v=undef|11=>v=.bool (fb || decide (s.comments[j].id=x.parent))|_=>True) (fun _ _ _ _ _ h=>h) H ?_ ?_
    ·clear H;refine al4 ?_ ?_ ?_ ?_ (al4 ?_ ?_ ?_ ?_ (al4 ?_ ?_ ?_ ?_ (allI_cons ?_ allI_nil)))
     ·exact Op0 rfl fun _ _ _ _ _ _ H fin=>kH H (Rm rfl fun _ H=>fin H iJ rfl)
     ·refine Op1 0 101 rfl rfl fun _ a w G1 hG HT H fin=>?_;refine kH H (Rm rfl ?_);clear H;intro a H;exact fin H iJ (by simp)
     ·exact skI 1 (decide_eq_true f0) rfl rfl
     ·exact skI 1 (decide_eq_true f0) rfl rfl
     ·exact skI 1 (decide_eq_true f0) rfl rfl
     ·exact skI 1 (decide_eq_true f0) rfl rfl
     ·exact skI 1 (decide_eq_true f0) rfl rfl
     ·exact skI 1 (decide_eq_true f0) rfl rfl
     ·exact skI 1 (decide_eq_true f0) rfl rfl
     ·exact skI 1 (decide_eq_true f0) rfl rfl
     ·exact skI 1 (decide_eq_true f0) rfl rfl
     ·refine Op2 1 102 10 111 rfl rfl fun _ a w G1 hG HT H fin=>?_;refine s_pick_t H wn rfl (decide_eq_true f0) rfl rfl ?_;clear H;intro a H;exact fin H iJ (congrArg Value.bool (by first|(rw [f0];rfl)|(rw [Bool.eq_false_iff.2 f0];rfl)))
     exact opB rfl
    clear H;intro a w G hGm29 H hv;obtain ⟨u112,hu112,hp112⟩:=hv 11 112 (by decide) rfl;obtain rfl:u112=.bool (fb || decide (s.comments[j].id=x.parent)):=hp112;have H:=H.addS hu112;clear hv;refine kH H (Ra rfl ?_);clear H;intro a H;refine wl_nil ⟨rfl,?_⟩;refine K40 _ _ ?_;clear K40;refine c_region ?_;refine kH H (Rm rfl ?_);clear H;intro a H;refine s_add _ H wn rfl rfl rfl (by omega) (by omega) rfl ?_;clear H;intro a H;refine kH H (Ra rfl ?_);clear H;intro a H;refine wl_nil ?_;refine loop_end ((j+1,_,_)) (by exact (H).sub ⟨rfl,rfl,rfl,rfl,rfl,trivial⟩) ?_ ?_
    ·try dsimp only
     exact ⟨by omega,by rw [some_succ hj1,← Bool.or_assoc,← hfb];cases fb <;> rfl,fun b o h=>hGm29 b o (hgm3 b o h)⟩
    first|omega|(dsimp only;omega)
   skip;refine c_drawI (hmx) [[],[0],[0,1],[0,1,2],[0,1],[0,1,2,3,4],[0,1,2,3,4,5],(List.range 7),[0,1],[0,1,8],(List.range 10),(List.range 11),(List.range 12)] [12] (by kernel_rfl) (by kernel_rfl) (fun (ix_:Nat) (v:Value) (G:GH)=>match ix_ with|0=>v=.bool fb|1=>v=.bool (decide (fb=true))|2=>v=.pointer (some ⟨b1,2,none⟩)|3=>v=.slice (some ⟨cb,co,none⟩) s.comments.length cc|4=>v=vi j|5=>v=.pointer (some ⟨cb,co+j*6,none⟩)|6=>v=.pointer (some ⟨cb,co+j*6+0,none⟩)|7=>v=vi s.comments[j].id|8=>v=.pointer (some ⟨b9,1,none⟩)|9=>v=vi x.parent|10=>v=.bool (decide (s.comments[j].id=x.parent))|11=>v=.bool (fb || decide (s.comments[j].id=x.parent))|_=>True) (fun _ _ _ _ _ h=>h) H ?_ ?_
   ·clear H;refine al4 ?_ ?_ ?_ ?_ (al4 ?_ ?_ ?_ ?_ (al4 ?_ ?_ ?_ ?_ (allI_cons ?_ allI_nil)))
    ·exact Op0 rfl fun _ _ _ _ _ _ H fin=>kH H (Rm rfl fun _ H=>fin H iJ rfl)
    ·refine Op1 0 101 rfl rfl fun _ a w G1 hG HT H fin=>?_;refine kH H (Rm rfl ?_);clear H;intro a H;exact fin H iJ (by simp)
    ·refine Op1 1 102 rfl rfl fun _ a w G1 hG HT H fin=>?_;refine s_field fd46_2dsv H (wg H rfl rfl (decide_eq_false f0)) rfl rfl ?_;clear H;intro a H;exact fin H iJ rfl
    ·refine Op2 2 103 1 102 rfl rfl fun _ a w G1 hG HT H fin=>?_;refine s_load ty43dsc H (wg H rfl rfl (decide_eq_false f0)) rfl (H.hp.gcell (gcell_mono hG hc2j)) rfl ?_;clear H;intro a H;exact fin H iJ rfl
    ·refine Op1 1 102 rfl rfl fun _ a w G1 hG HT H fin=>?_;refine s_move H (wg H rfl rfl (decide_eq_false f0)) rfl rfl ?_;clear H;intro a H;exact fin H iJ rfl
    ·refine Op3 3 104 4 105 1 102 rfl rfl fun _ a w G1 hG HT H fin=>?_;refine s_index un43dsc ty107dsc _ H (wg H rfl rfl (decide_eq_false f0)) rfl rfl rfl (by first|assumption|omega) rfl ?_;clear H;intro a H;exact fin H iJ rfl
    ·refine Op2 5 106 1 102 rfl rfl fun _ a w G1 hG HT H fin=>?_;refine s_field fd107_0dsc H (wg H rfl rfl (decide_eq_false f0)) rfl rfl ?_;clear H;intro a H;exact fin H iJ rfl
    ·refine Op2 6 107 1 102 rfl rfl fun _ a w G1 hG HT H fin=>?_;refine s_load ty3run H (wg H rfl rfl (decide_eq_false f0)) rfl (H.hp.gcell (gcell_mono hG (hcrow3 0 _ rfl))) rfl ?_;clear H;intro a H;exact fin H iJ rfl
    ·refine Op1 1 102 rfl rfl fun _ a w G1 hG HT H fin=>?_;refine s_field fd107_1dsc H (wg H rfl rfl (decide_eq_false f0)) rfl rfl ?_;clear H;intro a H;exact fin H iJ rfl
    ·refine Op2 8 109 1 102 rfl rfl fun _ a w G1 hG HT H fin=>?_;refine s_load ty3run H (wg H rfl rfl (decide_eq_false f0)) rfl (H.hp.ocell 0 rfl rfl) rfl ?_;clear H;intro a H;exact fin H iJ rfl
    ·refine Op3 7 108 9 110 1 102 rfl rfl fun _ a w G1 hG HT H fin=>?_;refine s_cmp H (wg H rfl rfl (decide_eq_false f0)) rfl rfl rfl rfl ?_;clear H;intro a H;exact fin H iJ rfl
    ·refine Op2 1 102 10 111 rfl rfl fun _ a w G1 hG HT H fin=>?_;refine s_pick_f H wn rfl (decide_eq_false f0) rfl rfl ?_;clear H;intro a H;exact fin H iJ (congrArg Value.bool (by first|(rw [f0];rfl)|(rw [Bool.eq_false_iff.2 f0];rfl)))
    exact opB rfl
   clear H;intro a w G hGm29 H hv;obtain ⟨u112,hu112,hp112⟩:=hv 11 112 (by decide) rfl;obtain rfl:u112=.bool (fb || decide (s.comments[j].id=x.parent)):=hp112;have H:=H.addS hu112;clear hv;refine kH H (Ra rfl ?_);clear H;intro a H;refine wl_nil ⟨rfl,?_⟩;refine K40 _ _ ?_;clear K40;refine c_region ?_;refine kH H (Rm rfl ?_);clear H;intro a H;refine s_add _ H wn rfl rfl rfl (by omega) (by omega) rfl ?_;clear H;intro a H;refine kH H (Ra rfl ?_);clear H;intro a H;refine wl_nil ?_;refine loop_end ((j+1,_,_)) (by exact (H).sub ⟨rfl,rfl,rfl,rfl,rfl,trivial⟩) ?_ ?_
   ·try dsimp only
    exact ⟨by omega,by rw [some_succ hj1,← Bool.or_assoc,← hfb];cases fb <;> rfl,fun b o h=>hGm29 b o (hgm3 b o h)⟩
   first|omega|(dsimp only;omega)
  intro h98
  try have p98:=of_decide_eq_false h98
  refine c_exit ?_;refine K36 _ _ ?_;clear K36;refine c_seq (fun _ K41=>?_);refine c_block ?_;refine c_seq (fun _ K42=>?_)
  have hbef:fb=befB s.comments i x:=by rw [hfb,show j=i by omega];rfl
  refine c_region ?_;refine kH H (Rm rfl (Rn rfl (Ra rfl ?_)));clear H;intro a H;refine wl_nil ?_;refine K42 _ _ ?_;clear K42;refine c_cond H rfl ?_ ?_
  ·intro h113
   try have p113:=of_decide_eq_true h113
   refine c_seq (fun _ K43=>?_)
   have e:chkStg s=8:=by
    have h1:cmE s.comments i=8:=by rw [hcek,cmE0,firstE_z (Decidable.not_not.1 p91),← hbef,show (!fb)=true from h113];rfl
    have h2:chkCms s.comments=8:=by rw [hCm,all_stop hi2 hce (by rw [h1];decide),h1]
    rw [stg3 e0 hLi0 (by rw [h2];decide),h2]
   refine c_region ?_;refine kH H (Ra rfl ?_);clear H;intro a H;refine wl_nil ?_;refine K43 _ _ ?_;clear K43;refine c_ret ?_;refine lv H Tryz.results18 rfl ?_;exact H.hp.ret (congrArg vi e.symm)
  intro h113
  try have p113:=of_decide_eq_false h113
  have w8:whenE (!befB s.comments i x) 8=0:=by rw [← hbef,show (!fb)=false from h113];rfl
  refine c_seqR (fun _ K44=>?_);refine kH H (Rf fd107_2dsc rfl (Ro ty9run 0 rfl rfl ?_));clear H;intro a H;refine s_call en58mst H wn rfl (author13_spec _ _ H.hp.ro x.author hte.1) rfl ?_;clear H;rintro v119 _ a w ⟨rfl,rfl⟩ - H;refine kH H (Rn rfl (Ra rfl ?_));clear H;intro a H;refine K44 _ _ ?_;clear K44;refine c_cond H rfl ?_ ?_
  ·intro h116
   try have p116:=of_decide_eq_true h116
   refine c_seq (fun _ K45=>?_)
   have e:chkStg s=39:=by
    have h1:cmE s.comments i=39:=by rw [hcek,cmE0,firstE_z (Decidable.not_not.1 p91),firstE_z w8,show (!autS x.author)=true from h116];rfl
    have h2:chkCms s.comments=39:=by rw [hCm,all_stop hi2 hce (by rw [h1];decide),h1]
    rw [stg3 e0 hLi0 (by rw [h2];decide),h2]
   refine c_region ?_;refine kH H (Ra rfl ?_);clear H;intro a H;refine wl_nil ?_;refine K45 _ _ ?_;clear K45;refine c_ret ?_;refine lv H Tryz.results18 rfl ?_;exact H.hp.ret (congrArg vi e.symm)
  intro h116
  try have p116:=of_decide_eq_false h116
  have w39:whenE (!autS x.author) 39=0:=by rw [show (!autS x.author)=false from h116];rfl
  refine c_seqR (fun _ K46=>?_);refine kH H (Rf fd107_3dsc rfl (Ro ty3run 0 rfl rfl (Rc rfl (Rm rfl ?_))));clear H;intro a H;refine s_split H 125 rfl ?_ ?_
  ·intro h125
   try have p125:=of_decide_eq_true h125
   (iterate 3 refine s_skip H rfl rfl h125 rfl ?_;clear H;intro a H);refine s_pick_t H wn rfl h125 rfl rfl ?_;clear H;intro a H;refine kH H (Ra rfl ?_);clear H;intro a H;refine K46 _ _ ?_;clear K46;refine c_cond_t H rfl rfl ?_;refine c_seq (fun _ K47=>?_)
   have e:chkStg s=40:=by
    have h1:cmE s.comments i=40:=by rw [hcek,cmE0,firstE_z (Decidable.not_not.1 p91),firstE_z w8,firstE_z w39,decide_eq_false (by omega)];rfl
    have h2:chkCms s.comments=40:=by rw [hCm,all_stop hi2 hce (by rw [h1];decide),h1]
    rw [stg3 e0 hLi0 (by rw [h2];decide),h2]
   refine c_region ?_;refine kH H (Ra rfl ?_);clear H;intro a H;refine wl_nil ?_;refine K47 _ _ ?_;clear K47;refine c_ret ?_;refine lv H Tryz.results18 rfl ?_;exact H.hp.ret (congrArg vi e.symm)
  intro h125
  try have p125:=of_decide_eq_false h125
  refine s_field fd107_3dsc H (wg H rfl rfl h125) rfl rfl ?_;clear H;intro a H;refine s_load ty3run H (wg H rfl rfl h125) rfl (H.hp.ocell 0 rfl rfl) rfl ?_;clear H;intro a H;refine s_cmp H (wg H rfl rfl h125) rfl rfl rfl rfl ?_;clear H;intro a H;refine s_pick_f H wn rfl h125 rfl rfl ?_;clear H;intro a H;refine kH H (Ra rfl ?_);clear H;intro a H;refine K46 _ _ ?_;clear K46;refine c_cond H rfl ?_ ?_
  ·intro h121
   try have p121:=of_decide_eq_true h121
   refine c_seq (fun _ K48=>?_)
   have e:chkStg s=40:=by
    have h1:cmE s.comments i=40:=by rw [hcek,cmE0,firstE_z (Decidable.not_not.1 p91),firstE_z w8,firstE_z w39,decide_eq_false (by omega)];rfl
    have h2:chkCms s.comments=40:=by rw [hCm,all_stop hi2 hce (by rw [h1];decide),h1]
    rw [stg3 e0 hLi0 (by rw [h2];decide),h2]
   refine c_region ?_;refine kH H (Ra rfl ?_);clear H;intro a H;refine wl_nil ?_;refine K48 _ _ ?_;clear K48;refine c_ret ?_;refine lv H Tryz.results18 rfl ?_;exact H.hp.ret (congrArg vi e.symm)
  intro h121
  try have p121:=of_decide_eq_false h121
  refine c_skip ?_;refine K41 _ _ ?_;clear K41;refine c_seq (fun _ K49=>?_)
  have w40:whenE (!decide (0≤x.time∧x.time≤1099511627776)) 40=0:=by rw [decide_eq_true (by omega)];rfl
  refine c_region ?_;refine kH H (Rf fd107_4dsc rfl (Ro ty9run 0 rfl rfl ?_));clear H;intro a H;refine s_call en59mst H wn rfl (text13_spec _ _ H.hp.ro x.text hte.2) rfl ?_;clear H;rintro v132 _ a w ⟨rfl,rfl⟩ - H;refine kH H (Ra rfl ?_);clear H;intro a H;refine wl_nil ?_;refine K49 _ _ ?_;clear K49;refine c_seqR (fun _ K50=>?_);refine kH H (Rm rfl (Rc rfl ?_));clear H;intro a H;refine K50 _ _ ?_;clear K50;refine c_cond H rfl ?_ ?_
  ·intro h134
   try have p134:=of_decide_eq_true h134
   refine c_seq (fun _ K51=>?_)
   have e:chkStg s=txE x.text:=by
    have h1:cmE s.comments i=txE x.text:=by rw [hcek,cmE0,firstE_z (Decidable.not_not.1 p91),firstE_z w8,firstE_z w39,firstE_z w40,firstE_ne p134]
    have h2:chkCms s.comments=txE x.text:=by rw [hCm,all_stop hi2 hce (by rw [h1];exact p134),h1]
    rw [stg3 e0 hLi0 (by rw [h2];exact p134),h2]
   refine c_region ?_;refine kH H (Rm rfl (Ra rfl ?_));clear H;intro a H;refine wl_nil ?_;refine K51 _ _ ?_;clear K51;refine c_ret ?_;refine lv H Tryz.results18 rfl ?_;exact H.hp.ret (congrArg vi e.symm)
  intro h134
  try have p134:=of_decide_eq_false h134
  refine c_skip ?_;refine K29 _ _ ?_;clear K29;refine c_region ?_;refine kH H (Rm rfl ?_);clear H;intro a H;refine s_add _ H wn rfl rfl rfl (by omega) (by omega) rfl ?_;clear H;intro a H;refine kH H (Ra rfl ?_);clear H;intro a H;refine wl_nil ?_;refine loop_end ((i+1,g3)) (by exact (H.pickT (Pl:=[_]) (Pl':=[]) [] (by decide) rfl).sub ⟨rfl,rfl,trivial⟩) ?_ ?_
  ·(try dsimp only);exact ⟨by omega,all_next hi2 hce (by rw [hcek,cmE0,firstE_z (Decidable.not_not.1 p91),firstE_z w8,firstE_z w39,firstE_z w40,firstE_z (Decidable.not_not.1 p134)];rfl),fun b o h=>hgm3 b o (hgm2 b o h)⟩
  first|omega|(dsimp only;omega)
 intro h69
 try have p69:=of_decide_eq_false h69
 refine c_exit ?_;refine K25 _ _ ?_;clear K25;refine c_seq (fun _ K52=>?_);refine c_seq (fun _ K53=>?_)
 have hCm0:chkCms s.comments=0:=by rw [hCm,all_done (by omega) hce]
 have hc3v:=gcell_mono hgm2 hc3g;replace hva:=hva.mono hgm2;refine c_region ?_;refine kH H (Rf fd46_3dsv rfl ?_);clear H;intro a H;refine s_load ty44dsv H wn rfl (H.hp.gcell (by assumption)) rfl ?_;clear H;intro a H;refine kH H (Rl un44dsv rfl (Rc rfl ?_));clear H;intro a H;refine wl_nil ?_;refine K53 _ _ ?_;clear K53;refine c_cond H rfl ?_ ?_
 ·intro h139
  try have p139:=of_decide_eq_true h139
  refine c_seq (fun _ K54=>?_)
  have e:chkStg s=9:=by
   have h:chkVas s.vars=9:=lim_yes (m:=128) (by omega);rw [stg4 e0 hLi0 hCm0,h]
  refine c_region ?_;refine kH H (Ra rfl ?_);clear H;intro a H;refine wl_nil ?_;refine K54 _ _ ?_;clear K54;refine c_ret ?_;refine lv H Tryz.results18 rfl ?_;exact H.hp.ret (congrArg vi e.symm)
 intro h139
 try have p139:=of_decide_eq_false h139
 have hVa:chkVas s.vars=allE (vaE s.vars) s.vars.length:=lim_no (m:=128) (by omega);refine c_skip ?_;refine K52 _ _ ?_;clear K52;refine c_seq (fun _ K55=>?_);refine c_seqR (fun _ K56=>?_);refine kH H (Ra rfl ?_);clear H;intro a H;refine K56 _ _ ?_;clear K56;refine c_block ?_;skip;refine c_loopS (ι:=Nat × GH) (Tc:=[(1,_)]) (Lc:=[]) (fun (gh:Nat × GH)=>[(14,vi gh.1)]) (fun (gh:Nat × GH)=>[]) (fun (gh:Nat × GH)=>gh.2) (fun (gh:Nat × GH)=>gh.1≤s.vars.length∧firstE (((List.range s.vars.length).map (vaE s.vars)).drop gh.1)=allE (vaE s.vars) s.vars.length∧(∀ b o,g2 b=some o→gh.2 b=some o)) (fun (gh:Nat × GH)=>s.vars.length - gh.1) ((0,g2)) (by exact (H).sub ⟨rfl,rfl,trivial⟩) ?_ ?_
 ·exact ⟨Nat.zero_le _,rfl,fun _ _ h=>h⟩
 clear H;intro gh a w hI H;obtain ⟨n,g4⟩:=gh;dsimp only at hI H;obtain ⟨hn,hne,hgm4⟩:=hI;have hc3n:=gcell_mono hgm4 hc3v;have hvan:=hva.mono hgm4;dsimp only [List.cons_append,List.nil_append,List.append_nil] at H;refine c_seq (fun _ K57=>?_);refine c_seqR (fun _ K58=>?_);refine kH H (Rm rfl (Rf fd46_3dsv rfl ?_));clear H;intro a H;refine s_load ty44dsv H wn rfl (H.hp.gcell (by assumption)) rfl ?_;clear H;intro a H;refine kH H (Rl un44dsv rfl (Rc rfl ?_));clear H;intro a H;refine K58 _ _ ?_;clear K58;refine c_cond H rfl ?_ ?_
 ·intro h144
  try have p144:=of_decide_eq_true h144
  have hn2:n < s.vars.length:=by omega
  have hn1:n - 1 < s.vars.length:=by omega
  obtain ⟨vb,vo,rfl,hvrow⟩:=va_at hvan hn2;obtain ⟨_,_,hea4,hvrow'⟩:=va_at hvan hn1
  injection hea4 with hea4
  injection hea4 with e1 e2
  subst e1;subst e2;have hte:=hz.vt _ (List.getElem_mem hn2);obtain ⟨x,hx⟩:∃ x,x=s.vars[n]:=⟨_,rfl⟩;obtain ⟨y,hy⟩:∃ y,y=s.vars[n - 1]:=⟨_,rfl⟩
  have hvek:vaE s.vars n=vaE0 n x y.name:=by unfold vaE;rw [List.getElem?_eq_getElem hn2,List.getElem?_eq_getElem hn1,hx,hy];rfl
  rw [← hx] at hvrow hte;rw [← hy] at hvrow';refine c_skip ?_;refine K57 _ _ ?_;clear K57;refine c_seq (fun _ K59=>?_);refine c_block ?_;refine c_seqR (fun _ K60=>?_);refine kH H (Rf fd46_3dsv rfl ?_);clear H;intro a H;refine s_load ty44dsv H wn rfl (H.hp.gcell (by assumption)) rfl ?_;clear H;intro a H;refine kH H (Rm rfl ?_);clear H;intro a H;refine s_index un44dsv ty109dsv _ H wn rfl rfl rfl (by first|assumption|omega) rfl ?_;clear H;intro a H;refine s_loada ty109dsv (cs:=x.cells) H wn rfl rfl (fun j v hj=>H.hp.gcell (hvrow j v hj)) rfl ?_;clear H;intro a H;refine s_alloc ty109dsv H wn rfl ?_;clear H;intro b15 a w hb15 H;refine s_store ty109dsv 0 (vs:=[_,_]) _ H wn rfl rfl rfl rfl rfl rfl rfl rfl ?_;clear H;intro w H;dsimp only [List.set,setRow] at H;refine K60 _ _ ?_;clear K60;refine c_seqJ (ι:=GH) (Tc:=[(1,_),(14,_),(15,_)]) (Lc:=[]) (fun (gh:GH)=>[]) (fun (gh:GH)=>[(b15,.cells x.cells.toArray 109 (0,0))]) (fun (gh:GH)=>gh) (fun (gh:GH)=>whenE (!cpNm x.name) 13=0∧whenE (decide (0 < (n:Int)) && (x.name.toList == y.name.toList)) 7=0∧whenE (decide (0 < (n:Int)) && Op.bytesLess x.name.toList y.name.toList) 6=0∧(∀ b o,g4 b=some o→gh b=some o)) (by exact (H).sub ⟨rfl,rfl,rfl,trivial⟩) ?_ ?_
  ·skip;refine c_block ?_;refine c_seqR (fun _ K61=>?_);refine kH H (Rf fd109_0dsv rfl (Ro ty9run 0 rfl rfl ?_));clear H;intro a H;refine s_call en60dsv H wn rfl (cpNm_spec _ _ H.hp.ro x.name hte.1) rfl ?_;clear H;rintro v155 _ a w ⟨rfl,rfl⟩ - H;refine kH H (Rn rfl (Ra rfl ?_));clear H;intro a H;refine K61 _ _ ?_;clear K61;refine c_cond H rfl ?_ ?_
   ·intro h152
    try have p152:=of_decide_eq_true h152
    refine c_seq (fun _ K62=>?_)
    have e:chkStg s=13:=by
     have h1:vaE s.vars n=13:=by rw [hvek,vaE0,show (!cpNm x.name)=true from h152];rfl
     have h2:chkVas s.vars=13:=by rw [hVa,all_stop hn2 hne (by rw [h1];decide),h1]
     rw [stg4 e0 hLi0 hCm0,h2]
    refine c_region ?_;refine kH H (Ra rfl ?_);clear H;intro a H;refine wl_nil ?_;refine K62 _ _ ?_;clear K62;refine c_ret ?_;refine lv H Tryz.results18 rfl ?_;exact H.hp.ret (congrArg vi e.symm)
   intro h152
   try have p152:=of_decide_eq_false h152
   have z13:whenE (!cpNm x.name) 13=0:=by rw [show (!cpNm x.name)=false from h152];rfl
   refine c_seq (fun _ K63=>?_)
   by_cases c0:0 < (n:Int)
   ·skip;refine c_drawI (hmx) [[],[0],[0,1],[0,1,2],[0,1,2,3],[0,1,2],[0,1,2,5],[0,1,2],[0,1,2,7],[0,1,2,5,6,7,8],[0,1,2,5,6,7,8,9],[0,1,2,5,6,7,8,9,10],(List.range 12),(List.range 13),(List.range 14)] [] (by kernel_rfl) (by kernel_rfl) (fun (ix_:Nat) (v:Value) (G:GH)=>match ix_ with|0=>v=vi n|1=>v=.bool (decide (0 < (n:Int)))|2=>v=.bool (decide (0 < (n:Int)))|3=>v=.pointer (some ⟨b15,0,none⟩)|4=>v=.string x.name|5=>v=.pointer (some ⟨b1,3,none⟩)|6=>v=.slice (some ⟨vb,vo,none⟩) s.vars.length vc|7=>v=vi n|8=>v=vi ((n - 1:Nat):Int)|9=>v=.pointer (some ⟨vb,vo+(n - 1)*2,none⟩)|10=>v=.pointer (some ⟨vb,vo+(n - 1)*2+0,none⟩)|11=>v=.string y.name|12=>v=.bool ((x.name.toList == y.name.toList))|13=>v=.bool ((x.name.toList == y.name.toList))|14=>v=.bool ((x.name.toList == y.name.toList))|_=>True) (fun _ _ _ _ _ h=>h) H ?_ ?_
    ·clear H;refine al4 ?_ ?_ ?_ ?_ (al4 ?_ ?_ ?_ ?_ (al4 ?_ ?_ ?_ ?_ (allI_cons ?_ (allI_cons ?_ (allI_cons ?_ allI_nil)))))
     ·exact Op0 rfl fun _ _ _ _ _ _ H fin=>kH H (Rm rfl fun _ H=>fin H iJ rfl)
     ·exact Op1 0 158 rfl rfl fun _ _ _ _ _ _ H fin=>kH H (Rc rfl fun _ H=>fin H iJ rfl)
     ·exact Op1 1 159 rfl rfl fun _ _ _ _ _ _ H fin=>kH H (Rm rfl fun _ H=>fin H iJ rfl)
     ·refine Op1 2 160 rfl rfl fun _ a w G1 hG HT H fin=>?_;refine s_field fd109_0dsv H (wg H rfl rfl (decide_eq_true c0)) rfl rfl ?_;clear H;intro a H;exact fin H iJ rfl
     ·refine Op2 3 161 2 160 rfl rfl fun _ a w G1 hG HT H fin=>?_;refine s_load ty9run H (wg H rfl rfl (decide_eq_true c0)) rfl (H.hp.ocell 0 rfl rfl) rfl ?_;clear H;intro a H;exact fin H iJ rfl
     ·refine Op1 2 160 rfl rfl fun _ a w G1 hG HT H fin=>?_;refine s_field fd46_3dsv H (wg H rfl rfl (decide_eq_true c0)) rfl rfl ?_;clear H;intro a H;exact fin H iJ rfl
     ·refine Op2 5 163 2 160 rfl rfl fun _ a w G1 hG HT H fin=>?_;refine s_load ty44dsv H (wg H rfl rfl (decide_eq_true c0)) rfl (H.hp.gcell (gcell_mono hG hc3n)) rfl ?_;clear H;intro a H;exact fin H iJ rfl
     ·refine Op1 2 160 rfl rfl fun _ a w G1 hG HT H fin=>?_;refine s_move H (wg H rfl rfl (decide_eq_true c0)) rfl rfl ?_;clear H;intro a H;exact fin H iJ rfl
     ·refine Op2 7 165 2 160 rfl rfl fun _ a w G1 hG HT H fin=>?_;refine s_sub _ H (wg H rfl rfl (decide_eq_true c0)) rfl rfl rfl (by omega) (by omega) rfl ?_;clear H;intro a H;exact fin H iJ (by first|rfl|exact congrArg vi (by omega))
     ·refine Op3 6 164 8 166 2 160 rfl rfl fun _ a w G1 hG HT H fin=>?_;refine s_index un44dsv ty109dsv _ H (wg H rfl rfl (decide_eq_true c0)) rfl rfl rfl (by first|assumption|omega) rfl ?_;clear H;intro a H;exact fin H iJ rfl
     ·refine Op2 9 167 2 160 rfl rfl fun _ a w G1 hG HT H fin=>?_;refine s_field fd109_0dsv H (wg H rfl rfl (decide_eq_true c0)) rfl rfl ?_;clear H;intro a H;exact fin H iJ rfl
     ·refine Op2 10 168 2 160 rfl rfl fun _ a w G1 hG HT H fin=>?_;refine s_load ty9run H (wg H rfl rfl (decide_eq_true c0)) rfl (H.hp.gcell (gcell_mono hG (hvrow' 0 _ rfl))) rfl ?_;clear H;intro a H;exact fin H iJ rfl
     ·refine Op3 4 162 11 169 2 160 rfl rfl fun _ a w G1 hG HT H fin=>?_;refine s_eqstr H (wg H rfl rfl (decide_eq_true c0)) rfl rfl rfl ?_;clear H;intro a H;exact fin H iJ rfl
     ·refine Op2 2 160 12 170 rfl rfl fun _ a w G1 hG HT H fin=>?_;refine s_pick_t H wn rfl (decide_eq_true c0) rfl rfl ?_;clear H;intro a H;exact fin H iJ rfl
     exact Op1 13 171 rfl rfl fun _ _ _ _ _ _ H fin=>kH H (Ra rfl fun _ H=>fin H iJ rfl)
    clear H;intro a w G hGm47 H hv;obtain ⟨u157,hu157,hp157⟩:=hv 14 157 (by decide) rfl;obtain rfl:u157=.bool ((x.name.toList == y.name.toList)):=hp157;have H:=H.addS hu157;clear hv;refine wl_nil ⟨rfl,?_⟩;refine K63 _ _ ?_;clear K63;refine c_cond H rfl ?_ ?_
    ·intro h157
     try have p157:=of_decide_eq_true h157
     refine c_seq (fun _ K64=>?_)
     have e:chkStg s=7:=by
      have h1:vaE s.vars n=7:=by rw [hvek,vaE0,firstE_z z13,decide_eq_true c0,Bool.true_and,h157];rfl
      have h2:chkVas s.vars=7:=by rw [hVa,all_stop hn2 hne (by rw [h1];decide),h1]
      rw [stg4 e0 hLi0 hCm0,h2]
     refine c_region ?_;refine kH H (Ra rfl ?_);clear H;intro a H;refine wl_nil ?_;refine K64 _ _ ?_;clear K64;refine c_ret ?_;refine lv H Tryz.results18 rfl ?_;exact H.hp.ret (congrArg vi e.symm)
    intro h157
    try have p157:=of_decide_eq_false h157
    refine c_seq (fun _ K65=>?_)
    have z7:whenE (decide (0 < (n:Int)) && (x.name.toList == y.name.toList)) 7=0:=by first|(rw [decide_eq_true c0,Bool.true_and,h157];rfl)|(rw [decide_eq_false c0,Bool.false_and];rfl)
    have c1:0 < (n:Int):=c0;refine c_drawI (hmx) [[],[0],[0,1],[0,1,2],[0,1,2,3],[0,1,2],[0,1,2,5],[0,1,2],[0,1,2,7],[0,1,2,5,6,7,8],[0,1,2,5,6,7,8,9],[0,1,2,5,6,7,8,9,10],(List.range 12),(List.range 13),(List.range 14)] [] (by kernel_rfl) (by kernel_rfl) (fun (ix_:Nat) (v:Value) (G:GH)=>match ix_ with|0=>v=vi n|1=>v=.bool (decide (0 < (n:Int)))|2=>v=.bool (decide (0 < (n:Int)))|3=>v=.pointer (some ⟨b15,0,none⟩)|4=>v=.string x.name|5=>v=.pointer (some ⟨b1,3,none⟩)|6=>v=.slice (some ⟨vb,vo,none⟩) s.vars.length vc|7=>v=vi n|8=>v=vi ((n - 1:Nat):Int)|9=>v=.pointer (some ⟨vb,vo+(n - 1)*2,none⟩)|10=>v=.pointer (some ⟨vb,vo+(n - 1)*2+0,none⟩)|11=>v=.string y.name|12=>v=.bool (Op.bytesLess x.name.toList y.name.toList)|13=>v=.bool (Op.bytesLess x.name.toList y.name.toList)|14=>v=.bool (Op.bytesLess x.name.toList y.name.toList)|_=>True) (fun _ _ _ _ _ h=>h) H ?_ ?_
    ·clear H;refine al4 ?_ ?_ ?_ ?_ (al4 ?_ ?_ ?_ ?_ (al4 ?_ ?_ ?_ ?_ (allI_cons ?_ (allI_cons ?_ (allI_cons ?_ allI_nil)))))
     ·exact Op0 rfl fun _ _ _ _ _ _ H fin=>kH H (Rm rfl fun _ H=>fin H iJ rfl)
     ·exact Op1 0 173 rfl rfl fun _ _ _ _ _ _ H fin=>kH H (Rc rfl fun _ H=>fin H iJ rfl)
     ·exact Op1 1 174 rfl rfl fun _ _ _ _ _ _ H fin=>kH H (Rm rfl fun _ H=>fin H iJ rfl)
     ·refine Op1 2 175 rfl rfl fun _ a w G1 hG HT H fin=>?_;refine s_field fd109_0dsv H (wg H rfl rfl (decide_eq_true c1)) rfl rfl ?_;clear H;intro a H;exact fin H iJ rfl
     ·refine Op2 3 176 2 175 rfl rfl fun _ a w G1 hG HT H fin=>?_;refine s_load ty9run H (wg H rfl rfl (decide_eq_true c1)) rfl (H.hp.ocell 0 rfl rfl) rfl ?_;clear H;intro a H;exact fin H iJ rfl
     ·refine Op1 2 175 rfl rfl fun _ a w G1 hG HT H fin=>?_;refine s_field fd46_3dsv H (wg H rfl rfl (decide_eq_true c1)) rfl rfl ?_;clear H;intro a H;exact fin H iJ rfl
     ·refine Op2 5 178 2 175 rfl rfl fun _ a w G1 hG HT H fin=>?_;refine s_load ty44dsv H (wg H rfl rfl (decide_eq_true c1)) rfl (H.hp.gcell (gcell_mono hG (gcell_mono hGm47 hc3n))) rfl ?_;clear H;intro a H;exact fin H iJ rfl
     ·refine Op1 2 175 rfl rfl fun _ a w G1 hG HT H fin=>?_;refine s_move H (wg H rfl rfl (decide_eq_true c1)) rfl rfl ?_;clear H;intro a H;exact fin H iJ rfl
     ·refine Op2 7 180 2 175 rfl rfl fun _ a w G1 hG HT H fin=>?_;refine s_sub _ H (wg H rfl rfl (decide_eq_true c1)) rfl rfl rfl (by omega) (by omega) rfl ?_;clear H;intro a H;exact fin H iJ (by first|rfl|exact congrArg vi (by omega))
     ·refine Op3 6 179 8 181 2 175 rfl rfl fun _ a w G1 hG HT H fin=>?_;refine s_index un44dsv ty109dsv _ H (wg H rfl rfl (decide_eq_true c1)) rfl rfl rfl (by first|assumption|omega) rfl ?_;clear H;intro a H;exact fin H iJ rfl
     ·refine Op2 9 182 2 175 rfl rfl fun _ a w G1 hG HT H fin=>?_;refine s_field fd109_0dsv H (wg H rfl rfl (decide_eq_true c1)) rfl rfl ?_;clear H;intro a H;exact fin H iJ rfl
     ·refine Op2 10 183 2 175 rfl rfl fun _ a w G1 hG HT H fin=>?_;refine s_load ty9run H (wg H rfl rfl (decide_eq_true c1)) rfl (H.hp.gcell (gcell_mono hG (gcell_mono hGm47 (hvrow' 0 _ rfl)))) rfl ?_;clear H;intro a H;exact fin H iJ rfl
     ·refine Op3 4 177 11 184 2 175 rfl rfl fun _ a w G1 hG HT H fin=>?_;refine s_lssstr H (wg H rfl rfl (decide_eq_true c1)) rfl rfl rfl ?_;clear H;intro a H;exact fin H iJ rfl
     ·refine Op2 2 175 12 185 rfl rfl fun _ a w G1 hG HT H fin=>?_;refine s_pick_t H wn rfl (decide_eq_true c1) rfl rfl ?_;clear H;intro a H;exact fin H iJ rfl
     exact Op1 13 186 rfl rfl fun _ _ _ _ _ _ H fin=>kH H (Ra rfl fun _ H=>fin H iJ rfl)
    clear H;intro a w G hGm49 H hv;obtain ⟨u172,hu172,hp172⟩:=hv 14 172 (by decide) rfl;obtain rfl:u172=.bool (Op.bytesLess x.name.toList y.name.toList):=hp172;have H:=H.addS hu172;clear hv;refine wl_nil ⟨rfl,?_⟩;refine K65 _ _ ?_;clear K65;refine c_cond H rfl ?_ ?_
    ·intro h172
     try have p172:=of_decide_eq_true h172
     refine c_seq (fun _ K66=>?_)
     have e:chkStg s=6:=by
      have h1:vaE s.vars n=6:=by rw [hvek,vaE0,firstE_z z13,firstE_z z7,decide_eq_true c0,Bool.true_and,h172];rfl
      have h2:chkVas s.vars=6:=by rw [hVa,all_stop hn2 hne (by rw [h1];decide),h1]
      rw [stg4 e0 hLi0 hCm0,h2]
     refine c_region ?_;refine kH H (Ra rfl ?_);clear H;intro a H;refine wl_nil ?_;refine K66 _ _ ?_;clear K66;refine c_ret ?_;refine lv H Tryz.results18 rfl ?_;exact H.hp.ret (congrArg vi e.symm)
    intro h172
    try have p172:=of_decide_eq_false h172
    refine c_skip ?_;refine ⟨_,by exact (H).sub ⟨rfl,rfl,rfl,trivial⟩,?_⟩;exact ⟨z13,z7,by first|(rw [decide_eq_true c0,Bool.true_and,h172];rfl)|(rw [decide_eq_false c0,Bool.false_and];rfl),fun b o h=>hGm49 b o (hGm47 b o h)⟩
   skip;refine c_drawI (hmx) [[],[0],[0,1],[0,1,2],[0,1,2,3],[0,1,2],[0,1,2,5],[0,1,2],[0,1,2,7],[0,1,2,5,6,7,8],[0,1,2,5,6,7,8,9],[0,1,2,5,6,7,8,9,10],(List.range 12),(List.range 13),(List.range 14)] [] (by kernel_rfl) (by kernel_rfl) (fun (ix_:Nat) (v:Value) (G:GH)=>match ix_ with|0=>v=vi n|1=>v=.bool (decide (0 < (n:Int)))|2=>v=.bool (decide (0 < (n:Int)))|3=>v=undef|4=>v=undef|5=>v=undef|6=>v=undef|7=>v=undef|8=>v=undef|9=>v=undef|10=>v=undef|11=>v=undef|12=>v=undef|13=>v=.bool false|14=>v=.bool false|_=>True) (fun _ _ _ _ _ h=>h) H ?_ ?_
   ·clear H;refine al4 ?_ ?_ ?_ ?_ (al4 ?_ ?_ ?_ ?_ (al4 ?_ ?_ ?_ ?_ (allI_cons ?_ (allI_cons ?_ (allI_cons ?_ allI_nil)))))
    ·exact Op0 rfl fun _ _ _ _ _ _ H fin=>kH H (Rm rfl fun _ H=>fin H iJ rfl)
    ·exact Op1 0 158 rfl rfl fun _ _ _ _ _ _ H fin=>kH H (Rc rfl fun _ H=>fin H iJ rfl)
    ·exact Op1 1 159 rfl rfl fun _ _ _ _ _ _ H fin=>kH H (Rm rfl fun _ H=>fin H iJ rfl)
    ·exact skI 2 (decide_eq_false c0) rfl rfl
    ·exact skI 2 (decide_eq_false c0) rfl rfl
    ·exact skI 2 (decide_eq_false c0) rfl rfl
    ·exact skI 2 (decide_eq_false c0) rfl rfl
    ·exact skI 2 (decide_eq_false c0) rfl rfl
    ·exact skI 2 (decide_eq_false c0) rfl rfl
    ·exact skI 2 (decide_eq_false c0) rfl rfl
    ·exact skI 2 (decide_eq_false c0) rfl rfl
    ·exact skI 2 (decide_eq_false c0) rfl rfl
    ·exact skI 2 (decide_eq_false c0) rfl rfl
    ·refine Op2 2 160 12 170 rfl rfl fun _ a w G1 hG HT H fin=>?_;refine s_pick_f H wn rfl (decide_eq_false c0) rfl rfl ?_;clear H;intro a H;exact fin H iJ rfl
    exact Op1 13 171 rfl rfl fun _ _ _ _ _ _ H fin=>kH H (Ra rfl fun _ H=>fin H iJ rfl)
   clear H;intro a w G hGm47 H hv;obtain ⟨u157,hu157,hp157⟩:=hv 14 157 (by decide) rfl;obtain rfl:u157=.bool false:=hp157;have H:=H.addS hu157;clear hv;refine wl_nil ⟨rfl,?_⟩;refine K63 _ _ ?_;clear K63;refine c_cond_f H rfl rfl ?_;refine c_seq (fun _ K67=>?_)
   have z7:whenE (decide (0 < (n:Int)) && (x.name.toList == y.name.toList)) 7=0:=by first|(rw [decide_eq_true c0,Bool.true_and,h157];rfl)|(rw [decide_eq_false c0,Bool.false_and];rfl)
   have c1:¬ (0 < (n:Int)):=c0;refine c_drawI (hmx) [[],[0],[0,1],[0,1,2],[0,1,2,3],[0,1,2],[0,1,2,5],[0,1,2],[0,1,2,7],[0,1,2,5,6,7,8],[0,1,2,5,6,7,8,9],[0,1,2,5,6,7,8,9,10],(List.range 12),(List.range 13),(List.range 14)] [] (by kernel_rfl) (by kernel_rfl) (fun (ix_:Nat) (v:Value) (G:GH)=>match ix_ with|0=>v=vi n|1=>v=.bool (decide (0 < (n:Int)))|2=>v=.bool (decide (0 < (n:Int)))|3=>v=undef|4=>v=undef|5=>v=undef|6=>v=undef|7=>v=undef|8=>v=undef|9=>v=undef|10=>v=undef|11=>v=undef|12=>v=undef|13=>v=.bool false|14=>v=.bool false|_=>True) (fun _ _ _ _ _ h=>h) H ?_ ?_
   ·clear H;refine al4 ?_ ?_ ?_ ?_ (al4 ?_ ?_ ?_ ?_ (al4 ?_ ?_ ?_ ?_ (allI_cons ?_ (allI_cons ?_ (allI_cons ?_ allI_nil)))))
    ·exact Op0 rfl fun _ _ _ _ _ _ H fin=>kH H (Rm rfl fun _ H=>fin H iJ rfl)
    ·exact Op1 0 173 rfl rfl fun _ _ _ _ _ _ H fin=>kH H (Rc rfl fun _ H=>fin H iJ rfl)
    ·exact Op1 1 174 rfl rfl fun _ _ _ _ _ _ H fin=>kH H (Rm rfl fun _ H=>fin H iJ rfl)
    ·exact skI 2 (decide_eq_false c1) rfl rfl
    ·exact skI 2 (decide_eq_false c1) rfl rfl
    ·exact skI 2 (decide_eq_false c1) rfl rfl
    ·exact skI 2 (decide_eq_false c1) rfl rfl
    ·exact skI 2 (decide_eq_false c1) rfl rfl
    ·exact skI 2 (decide_eq_false c1) rfl rfl
    ·exact skI 2 (decide_eq_false c1) rfl rfl
    ·exact skI 2 (decide_eq_false c1) rfl rfl
    ·exact skI 2 (decide_eq_false c1) rfl rfl
    ·exact skI 2 (decide_eq_false c1) rfl rfl
    ·refine Op2 2 175 12 185 rfl rfl fun _ a w G1 hG HT H fin=>?_;refine s_pick_f H wn rfl (decide_eq_false c1) rfl rfl ?_;clear H;intro a H;exact fin H iJ rfl
    exact Op1 13 186 rfl rfl fun _ _ _ _ _ _ H fin=>kH H (Ra rfl fun _ H=>fin H iJ rfl)
   clear H;intro a w G hGm49 H hv;obtain ⟨u172,hu172,hp172⟩:=hv 14 172 (by decide) rfl;obtain rfl:u172=.bool false:=hp172;have H:=H.addS hu172;clear hv;refine wl_nil ⟨rfl,?_⟩;refine K67 _ _ ?_;clear K67;refine c_cond_f H rfl rfl ?_;refine c_skip ?_;refine ⟨_,by exact (H).sub ⟨rfl,rfl,rfl,trivial⟩,?_⟩;exact ⟨z13,z7,by first|(rw [decide_eq_true c0,Bool.true_and,h172];rfl)|(rw [decide_eq_false c0,Bool.false_and];rfl),fun b o h=>hGm49 b o (hGm47 b o h)⟩
  clear H;intro gh a w hI H;obtain ⟨g5,hgh⟩:∃ x,x=gh:=⟨_,rfl⟩;subst hgh;obtain ⟨z13,z7,z6,hgm5⟩:=hI;dsimp only [List.cons_append,List.nil_append,List.append_nil] at H;refine c_seqR (fun _ K68=>?_);refine kH H (Rf fd109_1dsv rfl (Ro ty9run 0 rfl rfl ?_));clear H;intro a H;refine s_call en59mst H wn rfl (text13_spec _ _ H.hp.ro x.value hte.2) rfl ?_;clear H;rintro v189 _ a w ⟨rfl,rfl⟩ - H;refine kH H (Ra rfl ?_);clear H;intro a H;refine K68 _ _ ?_;clear K68;refine c_seqR (fun _ K69=>?_);refine kH H (Rm rfl (Rc rfl ?_));clear H;intro a H;refine K69 _ _ ?_;clear K69;refine c_cond H rfl ?_ ?_
  ·intro h191
   try have p191:=of_decide_eq_true h191
   refine c_seq (fun _ K70=>?_)
   have e:chkStg s=txE x.value:=by
    have h1:vaE s.vars n=txE x.value:=by rw [hvek,vaE0,firstE_z z13,firstE_z z7,firstE_z z6,firstE_ne p191]
    have h2:chkVas s.vars=txE x.value:=by rw [hVa,all_stop hn2 hne (by rw [h1];exact p191),h1]
    rw [stg4 e0 hLi0 hCm0,h2]
   refine c_region ?_;refine kH H (Rm rfl (Ra rfl ?_));clear H;intro a H;refine wl_nil ?_;refine K70 _ _ ?_;clear K70;refine c_ret ?_;refine lv H Tryz.results18 rfl ?_;exact H.hp.ret (congrArg vi e.symm)
  intro h191
  try have p191:=of_decide_eq_false h191
  refine c_skip ?_;refine K59 _ _ ?_;clear K59;refine c_region ?_;refine kH H (Rm rfl ?_);clear H;intro a H;refine s_add _ H wn rfl rfl rfl (by omega) (by omega) rfl ?_;clear H;intro a H;refine kH H (Ra rfl ?_);clear H;intro a H;refine wl_nil ?_;refine loop_end ((n+1,g5)) (by exact (H.pickT (Pl:=[_]) (Pl':=[]) [] (by decide) rfl).sub ⟨rfl,rfl,trivial⟩) ?_ ?_
  ·(try dsimp only);exact ⟨by omega,all_next hn2 hne (by rw [hvek,vaE0,firstE_z z13,firstE_z z7,firstE_z z6,firstE_z (Decidable.not_not.1 p191)];rfl),fun b o h=>hgm5 b o (hgm4 b o h)⟩
  first|omega|(dsimp only;omega)
 intro h144
 try have p144:=of_decide_eq_false h144
 refine c_exit ?_;refine K55 _ _ ?_;clear K55;refine c_seq (fun _ K71=>?_)
 have e:chkStg s=0:=by rw [stg4 e0 hLi0 hCm0,hVa,all_done (by omega) hne]
 refine c_region ?_;refine kH H (Ra rfl ?_);clear H;intro a H;refine wl_nil ?_;refine K71 _ _ ?_;clear K71;refine c_ret ?_;refine lv H Tryz.results18 rfl ?_;exact H.hp.ret (congrArg vi e.symm)
end
end Go.Proofs.YtlnhhlighgaapaaGreat
