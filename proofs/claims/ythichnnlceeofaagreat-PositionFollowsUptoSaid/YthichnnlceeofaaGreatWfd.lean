/-
  What the claim stands on, part 4: Package stylesheet: IsName, FindName, Find, is. make of slices, max of three. Package stylesheet: own. Package document: checkComments. Maps from numbers to their places in a list. Ranges over functions that turn a block of their own. Ranges over functions that turn a block of their own and might never end by themselves. Package stylesheet: the chain of a style. Package stylesheet: Check. Package document: checkVars, CheckSettings. Maps from numbers to values: lookups of one result, in what is owned or only read; new keys. Package document: newChecker. Package document: the checker's id and reference. Paths within a region that meet; what a call that only reads leaves; calls that are lent what they only read. Package run: EqualHead; slices.Equal of properties, deletions, layers. Package document: the checker's layer.
-/
import Derived.Test.YthichnnlceeofaaGreatWfc
import Derived.Laws.MakeOwn
namespace Go.Proofs.YthichnnlceeofaaGreat
section
open Go.RowKit
theorem un31sty:Tryz.prog.underlying 31=some (.slice 141):=by kernel_rfl
theorem ty141sty:Ty Tryz.prog 141 6 72 [.int .i64 0,.int .i64 0,.string ⟨#[]⟩,.int .i64 0,.int .i64 0,.slice none 0 0] true:=⟨by kernel_rfl,by kernel_rfl⟩
theorem fd141_1sty:Fld Tryz.prog 141 1 1:=⟨by kernel_rfl⟩
theorem fd141_2sty:Fld Tryz.prog 141 2 2:=⟨by kernel_rfl⟩
theorem fd141_0sty:Fld Tryz.prog 141 0 0:=⟨by kernel_rfl⟩
theorem en124sty:∀ args w,(callFunc 124 args).run Tryz.prog w=.ok (.enter 124 args) w:=enters Tryz.func124 rfl (by kernel_rfl)
theorem en116sty:∀ args w,(callFunc 116 args).run Tryz.prog w=.ok (.enter 116 args) w:=enters Tryz.func116 rfl (by kernel_rfl)
theorem en125sty:∀ args w,(callFunc 125 args).run Tryz.prog w=.ok (.enter 125 args) w:=enters Tryz.func125 rfl (by kernel_rfl)
theorem en126sty:∀ args w,(callFunc 126 args).run Tryz.prog w=.ok (.enter 126 args) w:=enters Tryz.func126 rfl (by kernel_rfl)
structure StyleD where
 id:Int
 kind:Int
 name:ByteArray
 base:Int
 next:Int
 props:List PropD
def StyleD.dat (x:StyleD):List Dat:=[li x.id,li x.kind,.lf (.string x.name),li x.base,li x.next,.sl 2 (x.props.map PropD.dat)]
theorem style_of {G:GH} {x:StyleD} {cs:List Value} (h:RepRow G x.dat cs):∃ A c,cs=[vi x.id,vi x.kind,.string x.name,vi x.base,vi x.next,.slice A x.props.length c]∧RepV G (.sl 2 (x.props.map PropD.dat)) (.slice A x.props.length c):=by
 simp only [StyleD.dat,RepRow] at h
 obtain ⟨v1,_,rfl,h1,v2,_,rfl,h2,v3,_,rfl,h3,v4,_,rfl,h4,v5,_,rfl,h5,v6,_,rfl,h6,rfl⟩:=h
 simp only [RepV] at h1 h2 h3 h4 h5
 obtain ⟨rfl,-⟩:=h1;obtain ⟨rfl,-⟩:=h2;obtain ⟨rfl,-⟩:=h3;obtain ⟨rfl,-⟩:=h4;obtain ⟨rfl,-⟩:=h5;obtain ⟨A,c,rfl,-,-,-⟩:=h6.slice;rw [List.length_map] at *;exact ⟨A,c,rfl,h6⟩
theorem style_at {G:GH} {l:List StyleD} {A:Option Addr} {n c k:Nat} (hv:RepV G (.sl 6 (l.map StyleD.dat)) (.slice A n c)) (hk:k < l.length):∃ b o pA pc,A=some ⟨b,o,none⟩∧(∀ j u,[vi l[k].id,vi l[k].kind,.string l[k].name,vi l[k].base,vi l[k].next,.slice pA l[k].props.length pc][j]?=some u→gcell G b (o+k*6+j)=some u)∧RepV G (.sl 2 (l[k].props.map PropD.dat)) (.slice pA l[k].props.length pc) ∧
  RepRow G l[k].dat [vi l[k].id,vi l[k].kind,.string l[k].name,vi l[k].base,vi l[k].next,.slice pA l[k].props.length pc]:=by
 obtain ⟨A',c',he,_,_,hg⟩:=hv.slice
 injection he with e1 e2 e3
 subst e1;obtain ⟨b,o,cs,h1,h2,h3,h4⟩:=hg k l[k].dat (by simp [hk]);obtain ⟨pA,pc,rfl,hp⟩:=style_of h4;exact ⟨b,o,pA,pc,h1,h3,hp,h4⟩
def okB (x:Int):Bool:=decide (32≤x∧x≤126)
/-- Whether a string is the name of a style. -/
def nameF (s:ByteArray) (k:Nat):Bool:=(List.range k).all fun i=>okB (byteAt s i)
def isNameS (s:ByteArray):Bool:=decide (s.size≠0∧s.size≤40∧byteAt s 0≠32∧byteAt s (s.size - 1)≠32) && nameF s s.size
theorem nameF_succ (s:ByteArray) (k:Nat):nameF s (k+1)=(nameF s k && okB (byteAt s k)):=by simp [nameF,List.range_succ]
theorem nameF_no {s:ByteArray} {k:Nat} (hk:k < s.size) (h:okB (byteAt s k)=false):nameF s s.size=false:=by
 rw [nameF,List.all_eq_false];exact ⟨k,by simpa using hk,by simp [h]⟩
theorem isName_spec (G:GH) (w0:World) (hG:Hold G w0) (s:ByteArray) (hs:s.size≤4611686018427387904):Calls Tryz.prog 113 #[.string s] w0 (Ret w0 G fun u G'=>u=.bool (isNameS s)):=by
 refine eN [(0,_)] Tryz.func113 rfl Tryz.ntmps113 rfl rfl hG ?_;intro a H;refine kP H (SR fun _ K1=>Ra rfl (Kz K1 (SQ fun _ K2=>SR fun _ K3=>Rm rfl (Rv un9cp rfl (Rc rfl (Rm rfl ?_))))));clear H K1;intro a H;refine s_split H 7 rfl ?_ ?_
 ·intro h7
  try have p7:=dT h7
  refine kH H (Ks h7 rfl (Ks h7 rfl (Ks h7 rfl (Pt h7 rfl (Rm rfl (Ks rfl rfl (Ks rfl rfl (Ks rfl rfl (Pt rfl rfl (Rm rfl (Ks rfl rfl (Ks rfl rfl (Ks rfl rfl (Ks rfl rfl (Ks rfl rfl (Ks rfl rfl ?_))))))))))))))));clear H;intro a H;refine kH H (Pt rfl rfl (Kz K3 ?_));clear H K3;intro a H;refine c_cond_t H rfl rfl ?_;refine kP H (SR fun _ K4=>Ra rfl (Kz K4 ?_));clear H K4;intro a H;refine lr H Tryz.results113 rfl ?_
  first
   | exact H.hp.ret (congrArg Value.bool (by rw [isNameS,decide_eq_false (by omega),Bool.false_and]))
   | exact H.hp.ret (congrArg Value.bool (by rw [isNameS,decide_eq_true (by omega),show s.size=k by omega,hno];rfl))
   | exact H.hp.ret (congrArg Value.bool (by rw [isNameS,nameF_no (k:=k) (by omega) (decide_eq_false (by omega)),Bool.and_false]))
 intro h7
 try have p7:=dF h7
 refine kH H (YM h7 rfl ?_);clear H;intro a H;refine s_lens un9cp H (wg H rfl rfl h7) rfl rfl ?_;clear H;intro a H;refine kH H (YC h7 rfl (Pf h7 rfl (Rm rfl ?_)));clear H;intro a H;refine s_split H 12 rfl ?_ ?_
 ·intro h12
  try have p12:=dT h12
  refine kH H (Ks h12 rfl (Ks h12 rfl (Ks h12 rfl (Pt h12 rfl (Rm rfl (Ks rfl rfl (Ks rfl rfl (Ks rfl rfl (Ks rfl rfl (Ks rfl rfl (Ks rfl rfl (Pt rfl rfl (Kz K3 ?_)))))))))))));clear H K3;intro a H;refine c_cond_t H rfl rfl ?_;refine kP H (SR fun _ K5=>Ra rfl (Kz K5 ?_));clear H K5;intro a H;refine lr H Tryz.results113 rfl ?_
  first
   | exact H.hp.ret (congrArg Value.bool (by rw [isNameS,decide_eq_false (by omega),Bool.false_and]))
   | exact H.hp.ret (congrArg Value.bool (by rw [isNameS,decide_eq_true (by omega),show s.size=k by omega,hno];rfl))
   | exact H.hp.ret (congrArg Value.bool (by rw [isNameS,nameF_no (k:=k) (by omega) (decide_eq_false (by omega)),Bool.and_false]))
 intro h12
 try have p12:=dF h12
 refine kH H (YM h12 rfl ?_);clear H;intro a H;refine s_indexs 0 un9cp H (wg H rfl rfl h12) rfl rfl rfl (by omega) rfl ?_;clear H;intro a H;rw [← byteAt_lt] at H;refine kH H (YC h12 rfl (Pf h12 rfl (Rm rfl ?_)));clear H;intro a H;refine s_split H 17 rfl ?_ ?_
 ·intro h17
  try have p17:=dT h17
  refine kH H (Ks h17 rfl (Ks h17 rfl (Ks h17 rfl (Ks h17 rfl (Ks h17 rfl (Ks h17 rfl (Pt h17 rfl (Kz K3 ?_))))))));clear H K3;intro a H;refine c_cond_t H rfl rfl ?_;refine kP H (SR fun _ K6=>Ra rfl (Kz K6 ?_));clear H K6;intro a H;refine lr H Tryz.results113 rfl ?_
  first
   | exact H.hp.ret (congrArg Value.bool (by rw [isNameS,decide_eq_false (by omega),Bool.false_and]))
   | exact H.hp.ret (congrArg Value.bool (by rw [isNameS,decide_eq_true (by omega),show s.size=k by omega,hno];rfl))
   | exact H.hp.ret (congrArg Value.bool (by rw [isNameS,nameF_no (k:=k) (by omega) (decide_eq_false (by omega)),Bool.and_false]))
 intro h17
 try have p17:=dF h17
 refine kH H (YM h17 rfl (YM h17 rfl ?_));clear H;intro a H;refine s_lens un9cp H (wg H rfl rfl h17) rfl rfl ?_;clear H;intro a H;refine s_sub _ H (wg H rfl rfl h17) rfl rfl rfl (by omega) (by omega) rfl ?_;clear H;intro a H;refine s_indexs (s.size - 1) un9cp H (wg H rfl rfl h17) rfl rfl (by omega) (by omega) rfl ?_;clear H;intro a H;rw [← byteAt_lt] at H;refine kH H (YC h17 rfl (Pf h17 rfl (Kz K3 ?_)));clear H K3;intro a H;refine c_cond H rfl ?_ ?_
 ·intro h24
  try have p24:=dT h24
  refine kP H (SR fun _ K7=>Ra rfl (Kz K7 ?_));clear H K7;intro a H;refine lr H Tryz.results113 rfl ?_
  first
   | exact H.hp.ret (congrArg Value.bool (by rw [isNameS,decide_eq_false (by omega),Bool.false_and]))
   | exact H.hp.ret (congrArg Value.bool (by rw [isNameS,decide_eq_true (by omega),show s.size=k by omega,hno];rfl))
   | exact H.hp.ret (congrArg Value.bool (by rw [isNameS,nameF_no (k:=k) (by omega) (decide_eq_false (by omega)),Bool.and_false]))
 intro h24
 try have p24:=dF h24
 refine kP H (Kc K2 (SQ fun _ K8=>SR fun _ K9=>Rm rfl (Rv un9cp rfl (Rm rfl (Kz K9 (SB ?_))))));clear H K2 K9;intro a H;skip;refine c_loopS (ι:=Nat) (Tc:=[(0,_),(26,_)]) (Lc:=[]) (fun (gh:Nat)=>[(27,vi gh)]) (fun (gh:Nat)=>[]) (fun (gh:Nat)=>G) (fun (gh:Nat)=>gh≤s.size∧nameF s gh=true) (fun (gh:Nat)=>s.size - gh) (0) (by exact (H).sub ⟨rfl,rfl,rfl,trivial⟩) ?_ ?_
 ·exact ⟨Nat.zero_le _,rfl⟩
 clear H;intro gh a w hI H;obtain ⟨k,hgh⟩:∃ x,x=gh:=⟨_,rfl⟩;subst hgh;obtain ⟨hk,hno⟩:=hI;dsimp only [List.cons_append,List.nil_append,List.append_nil] at H;refine kP H (SR fun _ K10=>Rc rfl (Kz K10 (SQ fun _ K11=>?_)));clear H K10;intro a H;refine c_cond H rfl ?_ ?_
 ·intro h28
  try have p28:=dT h28
  refine kP H (Kc K11 (SQ fun _ K12=>SB (SR fun _ K13=>Rm rfl (Ra rfl (Kz K13 (SR fun _ K14=>Rm rfl (Rm rfl ?_)))))));clear H K11 K13;intro a H;refine s_indexs k un9cp H wn rfl rfl rfl (by omega) rfl ?_;clear H;intro a H;rw [← byteAt_lt] at H;refine kH H (Rc rfl (Rm rfl ?_));clear H;intro a H;refine s_split H 34 rfl ?_ ?_
  ·intro h34
   try have p34:=dT h34
   refine kH H (Ks h34 rfl (Ks h34 rfl (Ks h34 rfl (Ks h34 rfl (Pt h34 rfl (Kz K14 ?_))))));clear H K14;intro a H;refine c_cond_t H rfl rfl ?_;refine kP H (SR fun _ K15=>Ra rfl (Kz K15 ?_));clear H K15;intro a H;refine lr H Tryz.results113 rfl ?_
   first
    | exact H.hp.ret (congrArg Value.bool (by rw [isNameS,decide_eq_false (by omega),Bool.false_and]))
    | exact H.hp.ret (congrArg Value.bool (by rw [isNameS,decide_eq_true (by omega),show s.size=k by omega,hno];rfl))
    | exact H.hp.ret (congrArg Value.bool (by rw [isNameS,nameF_no (k:=k) (by omega) (decide_eq_false (by omega)),Bool.and_false]))
  intro h34
  try have p34:=dF h34
  refine kH H (YM h34 rfl (YM h34 rfl ?_));clear H;intro a H;refine s_indexs k un9cp H (wg H rfl rfl h34) rfl rfl rfl (by omega) rfl ?_;clear H;intro a H;rw [← byteAt_lt] at H;refine kH H (YC h34 rfl (Pf h34 rfl (Kz K14 ?_)));clear H K14;intro a H;refine c_cond H rfl ?_ ?_
  ·intro h39
   try have p39:=dT h39
   refine kP H (SR fun _ K16=>Ra rfl (Kz K16 ?_));clear H K16;intro a H;refine lr H Tryz.results113 rfl ?_
   first
    | exact H.hp.ret (congrArg Value.bool (by rw [isNameS,decide_eq_false (by omega),Bool.false_and]))
    | exact H.hp.ret (congrArg Value.bool (by rw [isNameS,decide_eq_true (by omega),show s.size=k by omega,hno];rfl))
    | exact H.hp.ret (congrArg Value.bool (by rw [isNameS,nameF_no (k:=k) (by omega) (decide_eq_false (by omega)),Bool.and_false]))
  intro h39
  try have p39:=dF h39
  refine kP H (Kc K12 (SC (Rd rfl (Rm rfl ?_))));clear H K12;intro a H;refine wl_nil ?_;refine loop_end ((k+1)) (by exact (H).sub ⟨rfl,rfl,rfl,trivial⟩) ?_ ?_
  ·exact ⟨by omega,by rw [nameF_succ,hno];simp [okB];omega⟩
  first|omega|(dsimp only;omega)
 intro h28
 try have p28:=dF h28
 refine c_exit ?_;refine K8 _ _ ?_;clear K8;refine kP H (SR fun _ K17=>Ra rfl (Kz K17 ?_));clear H K17;intro a H;refine lr H Tryz.results113 rfl ?_
 first
  | exact H.hp.ret (congrArg Value.bool (by rw [isNameS,decide_eq_false (by omega),Bool.false_and]))
  | exact H.hp.ret (congrArg Value.bool (by rw [isNameS,decide_eq_true (by omega),show s.size=k by omega,hno];rfl))
  | exact H.hp.ret (congrArg Value.bool (by rw [isNameS,nameF_no (k:=k) (by omega) (decide_eq_false (by omega)),Bool.and_false]))
theorem indexStyle_spec (G:GH) (w0:World) (hG:Hold G w0) (l:List StyleD) (p:StyleD→Bool) (v fv:Value) (hv:RepV G (.sl 6 (l.map StyleD.dat)) v) (hf:∀ x∈l,Tester fv G x.dat (p x)) :
  Calls Tryz.prog 124 #[v,fv] w0 (Ret w0 G fun u G'=>u=vi (ixI (l.findIdx? p))):=by
 obtain ⟨A,c,rfl,hc1,hc2,-⟩:=hv.slice;have hml:maxLen=9223372036854775807:=rfl;rw [List.length_map] at *;refine eN [(0,_),(1,_)] Tryz.func124 rfl Tryz.ntmps124 rfl rfl hG ?_;intro a H;refine kP H (SR fun _ K1=>Ra rfl (Kz K1 (SQ fun _ K2=>SR fun _ K3=>Rm rfl (Rl un31sty rfl (Rm rfl (Kz K3 (SB ?_)))))));clear H K1 K3;intro a H;skip;refine c_loopS (ι:=Nat × GH) (Tc:=[(0,_),(1,_),(7,_)]) (Lc:=[]) (fun (gh:Nat × GH)=>[(8,vi gh.1)]) (fun (gh:Nat × GH)=>[]) (fun (gh:Nat × GH)=>gh.2) (fun (gh:Nat × GH)=>gh.1≤l.length∧(l.take gh.1).findIdx? p=none∧(∀ b o,G b=some o→gh.2 b=some o)) (fun (gh:Nat × GH)=>l.length - gh.1) ((0,G)) (by exact (H).sub ⟨rfl,rfl,rfl,rfl,trivial⟩) ?_ ?_
 ·exact ⟨by omega,rfl,fun _ _ h=>h⟩
 clear H;intro gh a w hI H;obtain ⟨k,g⟩:=gh;dsimp only at hI H;obtain ⟨hk,hno,hgm⟩:=hI;dsimp only [List.cons_append,List.nil_append,List.append_nil] at H;refine kP H (SR fun _ K4=>Rc rfl (Kz K4 (SQ fun _ K5=>?_)));clear H K4;intro a H;refine c_cond H rfl ?_ ?_
 ·intro h9
  try have p9:=dT h9
  have hk2:k < l.length:=by omega
  obtain ⟨b,o,pA,pc,rfl,hrow,hp,hrep⟩:=style_at (hv.mono hgm) hk2;refine kP H (Kc K5 (SQ fun _ K6=>SB (SR fun _ K7=>Rm rfl (Ra rfl (Kz K7 (SR fun _ K8=>Rm rfl (Rm rfl (Rm rfl (Ri un31sty ty141sty rfl rfl ?_)))))))));clear H K5 K7;intro a H;refine s_loada ty141sty (cs:=[_,_,_,_,_,_]) H wn rfl rfl (fun j v hj=>H.hp.gcell (hrow j v hj)) rfl ?_;clear H;intro a H;refine s_callv0 H wn rfl rfl (hf _ (List.getElem_mem hk2) _ _ _ hgm H.hp.ro hrep) rfl ?_;clear H;rintro v16 G16 a w rfl hm16 H;refine K8 _ _ ?_;clear K8;refine c_cond H rfl ?_ ?_
  ·intro h16
   try have p16:=dT h16
   refine kP H (SR fun _ K9=>Rm rfl (Ra rfl (Kz K9 ?_)));clear H K9;intro a H;refine lr H Tryz.results124 rfl ?_
   first
    | exact H.hp.ret (by rw [idx_stop hk2 hno h16];rfl)
    | exact H.hp.ret (by rw [show l.take k=l from List.take_of_length_le (by omega)] at hno;rw [hno];rfl)
  intro h16
  try have p16:=dF h16
  refine kP H (Kc K6 (SC (Rd rfl (Rm rfl ?_))));clear H K6;intro a H;refine wl_nil ?_;refine loop_end ((k+1,G16)) (by exact (H).sub ⟨rfl,rfl,rfl,rfl,trivial⟩) ?_ ?_
  ·(try dsimp only);exact ⟨by omega,idx_next hk2 hno h16,fun b o h=>hm16 b o (hgm b o h)⟩
  first|omega|(dsimp only;omega)
 intro h9
 try have p9:=dF h9
 refine c_exit ?_;refine K2 _ _ ?_;clear K2;refine kP H (SR fun _ K10=>Ra rfl (Kz K10 ?_));clear H K10;intro a H;refine lr H Tryz.results124 rfl ?_
 first
  | exact H.hp.ret (by rw [idx_stop hk2 hno h16];rfl)
  | exact H.hp.ret (by rw [show l.take k=l from List.take_of_length_le (by omega)] at hno;rw [hno];rfl)
def nmEq (p q:ByteArray):Bool:=p.toList == q.toList
theorem findName1 {G:GH} {bk bn:Nat} {kind:Int} {name:ByteArray} (hk:gcell G bk 0=some (vi kind)) (hn:gcell G bn 0=some (.string name)) (x:StyleD):Tester (.func (.func 125) #[] #[.pointer (some ⟨bk,0,none⟩),.pointer (some ⟨bn,0,none⟩)]) G x.dat (decide (x.kind=kind) && nmEq x.name name):=by
 intro G1 w0 cs hm hG hr;refine callV_func (caps:=[.pointer (some ⟨bk,0,none⟩),.pointer (some ⟨bn,0,none⟩)]) en125sty ?_;obtain ⟨pA,pc,rfl,-⟩:=style_of hr;replace hk:=gcell_mono hm hk;replace hn:=gcell_mono hm hn;refine eN [(0,_),(1,_),(2,_)] Tryz.func125 rfl Tryz.ntmps125 rfl rfl hG ?_;intro a H;refine c_seqR (fun _ K1=>?_);refine s_box (cs:=[_,_,_,_,_,_]) H wn rfl rfl rfl ?_;clear H;intro b3 a w hb3 H;refine kH H (Ra rfl (Kz K1 (SR fun _ K2=>Rf fd141_1sty rfl (Ro ty3run 0 rfl rfl (Rg ty3run rfl (by assumption) ?_)))));clear H K1;intro a H;refine kH H (Rc rfl (Rm rfl ?_));clear H;intro a H;refine s_split H 9 rfl ?_ ?_
 ·intro h9
  try have p9:=dT h9
  refine kH H (YF fd141_2sty h9 rfl (YO ty9run 0 h9 rfl rfl (YR ty9run h9 rfl (by assumption) ?_)));clear H;intro a H;refine s_eqstr H (wg H rfl rfl h9) rfl rfl rfl ?_;clear H;intro a H;refine kH H (Pt h9 rfl (Ra rfl (Kz K2 ?_)));clear H K2;intro a H;refine lr H Tryz.results125 rfl ?_;exact H.hp.ret (by unfold nmEq;simp_all)
 intro h9
 try have p9:=dF h9
 refine kH H (Ks h9 rfl (Ks h9 rfl (Ks h9 rfl (Ks h9 rfl (Pf h9 rfl (Ra rfl (Kz K2 ?_)))))));clear H K2;intro a H;refine lr H Tryz.results125 rfl ?_;exact H.hp.ret (by unfold nmEq;simp_all)
theorem find1 {G:GH} {bi:Nat} {id:Int} (hb:gcell G bi 0=some (vi id)) (x:StyleD):Tester (.func (.func 126) #[] #[.pointer (some ⟨bi,0,none⟩)]) G x.dat (decide (x.id=id)):=by
 intro G1 w0 cs hm hG hr;refine callV_func (caps:=[.pointer (some ⟨bi,0,none⟩)]) en126sty ?_;obtain ⟨pA,pc,rfl,-⟩:=style_of hr;replace hb:=gcell_mono hm hb;refine eN [(0,_),(1,_)] Tryz.func126 rfl Tryz.ntmps126 rfl rfl hG ?_;intro a H;refine c_seqR (fun _ K1=>?_);refine s_box (cs:=[_,_,_,_,_,_]) H wn rfl rfl rfl ?_;clear H;intro b2 a w hb2 H;refine kH H (Ra rfl (Kz K1 (SR fun _ K2=>Rf fd141_0sty rfl (Ro ty3run 0 rfl rfl (Rg ty3run rfl (by assumption) ?_)))));clear H K1;intro a H;refine kH H (Rc rfl (Ra rfl (Kz K2 ?_)));clear H K2;intro a H;refine lr H Tryz.results126 rfl ?_;exact H.hp.ret rfl
def findName (l:List StyleD) (kind:Int) (name:ByteArray):Option Nat:=l.findIdx? fun x=>decide (x.kind=kind) && nmEq x.name name
def findId (l:List StyleD) (id:Int):Option Nat:=l.findIdx? fun x=>decide (x.id=id)
theorem ixI_ge (o:Option Nat):decide (0≤ixI o)=o.isSome:=by cases o <;> simp [ixI]
theorem findName_spec (G:GH) (w0:World) (hG:Hold G w0) (l:List StyleD) (kind:Int) (name:ByteArray) (v:Value) (hv:RepV G (.sl 6 (l.map StyleD.dat)) v) :
  Calls Tryz.prog 114 #[v,vi kind,.string name] w0 (Ret w0 G fun u G'=>u=.tuple #[vi (max (ixI (findName l kind name)) 0),.bool (findName l kind name).isSome]):=by
 obtain ⟨A,c,rfl,hc1,hc2,-⟩:=hv.slice;rw [List.length_map] at *;refine eN [(0,_),(1,_),(2,_)] Tryz.func114 rfl Tryz.ntmps114 rfl rfl hG ?_;intro a H;refine c_seqR (fun _ K1=>?_);refine s_box (cs:=[_]) H wn rfl rfl rfl ?_;clear H;intro b4 a w hb4 H;refine s_box (cs:=[_]) H wn rfl rfl rfl ?_;clear H;intro b5 a w hb5 H;refine kH H (Ra rfl (Ra rfl (Kz K1 (SQ fun _ K2=>?_))));clear H K1;intro a H;obtain ⟨Ga,hma,hb5',H⟩:=H.giveBox;obtain ⟨Gb,hmb,hb4',H⟩:=H.giveBox
 have q4:gcell Gb b4 0=some (vi kind):=by unfold gcell;rw [hb4'];rfl
 have q5:gcell Gb b5 0=some (.string name):=by unfold gcell;rw [hmb _ _ hb5'];rfl
 refine kP H (SC (Rm rfl ?_));clear H;intro a H;refine s_makeFunc H wn rfl rfl ?_;clear H;intro a H;refine s_call en124sty H wn rfl (indexStyle_spec _ _ H.hp.ro l (fun x=>decide (x.kind=kind) && nmEq x.name name) _ _ ((hv.mono hma).mono hmb) (fun x _=>findName1 q4 q5 x)) rfl ?_;clear H;rintro v11 G11 a w rfl hm11 H;refine kH H (Ra rfl (Kn K2 (SR fun _ K3=>Rm rfl ?_)));clear H K2;intro a H;refine s_max H wn rfl rfl rfl ?_;clear H;intro a H;refine kH H (Rm rfl (Rc rfl (Ra rfl (Ra rfl (Kz K3 ?_)))));clear H K3;intro a H;refine c_ret ?_;refine (leaveT H Tryz.results114 (.cons (rv_tmp H rfl) (.cons (rv_tmp H rfl) .nil)) ?_).1;exact H.hp.ret (by rw [← ixI_ge];rfl)
theorem find_id_spec (G:GH) (w0:World) (hG:Hold G w0) (l:List StyleD) (id:Int) (v:Value) (hv:RepV G (.sl 6 (l.map StyleD.dat)) v) :
  Calls Tryz.prog 116 #[v,vi id] w0 (Ret w0 G fun u G'=>u=.tuple #[vi (max (ixI (findId l id)) 0),.bool (findId l id).isSome]):=by
 obtain ⟨A,c,rfl,hc1,hc2,-⟩:=hv.slice;rw [List.length_map] at *;refine eN [(0,_),(1,_)] Tryz.func116 rfl Tryz.ntmps116 rfl rfl hG ?_;intro a H;refine c_seqR (fun _ K1=>?_);refine s_box (cs:=[_]) H wn rfl rfl rfl ?_;clear H;intro b3 a w hb3 H;refine kH H (Ra rfl (Ra rfl (Kz K1 (SQ fun _ K2=>?_))));clear H K1;intro a H;obtain ⟨Ga,hma,hb3',H⟩:=H.giveBox
 have q3:gcell Ga b3 0=some (vi id):=by unfold gcell;rw [hb3'];rfl
 refine kP H (SC (Rm rfl ?_));clear H;intro a H;refine s_makeFunc H wn rfl rfl ?_;clear H;intro a H;refine s_call en124sty H wn rfl (indexStyle_spec _ _ H.hp.ro l (fun x=>decide (x.id=id)) _ _ (hv.mono hma) (fun x _=>find1 q3 x)) rfl ?_;clear H;rintro v9 G9 a w rfl hm9 H;refine kH H (Ra rfl (Kn K2 (SR fun _ K3=>Rm rfl ?_)));clear H K2;intro a H;refine s_max H wn rfl rfl rfl ?_;clear H;intro a H;refine kH H (Rm rfl (Rc rfl (Ra rfl (Ra rfl (Kz K3 ?_)))));clear H K3;intro a H;refine c_ret ?_;refine (leaveT H Tryz.results116 (.cons (rv_tmp H rfl) (.cons (rv_tmp H rfl) .nil)) ?_).1;exact H.hp.ret (by rw [← ixI_ge];rfl)
/-- Whether there is a style of a kind with an id. -/
def isS (l:List StyleD) (kind id:Int):Bool:=match findId l id with|some i=>decide ((l[i]?.map StyleD.kind)=some kind)|none=>false
theorem is_spec (G:GH) (w0:World) (hG:Hold G w0) (l:List StyleD) (kind id:Int) (v:Value) (hv:RepV G (.sl 6 (l.map StyleD.dat)) v) :
  Calls Tryz.prog 87 #[v,vi kind,vi id] w0 (Ret w0 G fun u G'=>u=.bool (isS l kind id)):=by
 obtain ⟨A,c,rfl,hc1,hc2,-⟩:=hv.slice;rw [List.length_map] at *;refine eN [(0,_),(1,_),(2,_)] Tryz.func87 rfl Tryz.ntmps87 rfl rfl hG ?_;intro a H;refine kP H (SR fun _ K1=>Ra rfl (Kz K1 (SR fun _ K2=>Rm rfl (Rm rfl ?_))));clear H K1;intro a H;refine s_call en116sty H wn rfl (find_id_spec _ _ H.hp.ro l id _ hv) rfl ?_;clear H;rintro v12 G12 a w rfl hm12 H;obtain ⟨o,ho⟩:∃ o,o=findId l id:=⟨_,rfl⟩;rw [← ho] at H;refine kH H (Rm rfl ?_);clear H;intro a H;(iterate 2 refine s_extract H wn rfl rfl rfl ?_;clear H;intro a H);refine kH H (Ra rfl (Ra rfl (Kz K2 (SR fun _ K3=>Rm rfl (Rm rfl ?_)))));clear H K2;intro a H;refine s_split H 16 rfl ?_ ?_
 ·intro h16
  try have p16:=dT h16
  obtain ⟨i,rfl⟩:=Option.isSome_iff_exists.1 h16
  have hil:i < l.length:=by
   obtain ⟨hi,-⟩:=List.findIdx?_eq_some_iff_getElem.1 ho.symm;exact hi
  rw [show max (ixI (some i)) 0=(i:Int) by simp [ixI]] at H;obtain ⟨b,o',pA,pc,rfl,hrow,hp,hrep⟩:=style_at (hv.mono hm12) hil;have r1:gcell G12 b (o'+i*6+1)=some (vi l[i].kind):=hrow 1 _ rfl;refine kH H (YM h16 rfl (YM h16 rfl (YI un31sty ty141sty h16 rfl rfl (YF fd141_1sty h16 rfl (YR ty3run h16 rfl (by assumption) ?_)))));clear H;intro a H;refine kH H (YM h16 rfl (YC h16 rfl (Pt h16 rfl (Ra rfl (Kz K3 ?_)))));clear H K3;intro a H;refine lr H Tryz.results87 rfl ?_
  first
   | exact H.hp.ret (congrArg Value.bool (by rw [isS,← ho];dsimp only;rw [List.getElem?_eq_getElem hil];simp))
   | exact H.hp.ret (congrArg Value.bool (by rw [isS,← ho];cases o <;> simp_all))
 intro h16
 try have p16:=dF h16
 refine kH H (Ks h16 rfl (Ks h16 rfl (Ks h16 rfl (Ks h16 rfl (Ks h16 rfl (Ks h16 rfl (Ks h16 rfl (Pf h16 rfl (Ra rfl (Kz K3 ?_))))))))));clear H K3;intro a H;refine lr H Tryz.results87 rfl ?_
 first
  | exact H.hp.ret (congrArg Value.bool (by rw [isS,← ho];dsimp only;rw [List.getElem?_eq_getElem hil];simp))
  | exact H.hp.ret (congrArg Value.bool (by rw [isS,← ho];cases o <;> simp_all))
end
section
open Go.RowKit
section
variable {N:Nat} {D:List Deferred} {w0:World} {F:Nat→Prop} {G0 G:GH} {L Li Lo:OL} {T:List (Nat × Value)}
variable {r:Option Nat} {P:Program} {ops:Array Oper} {Q:Exit→Act→World→Prop} {rest:List Oper} {a:Act} {w:World}
variable {d:Nat} {ty:TypeId} {pos:String} {aft:Array Edge} {g:Option (Nat × Bool)}
/-- The head of a slice. -/
theorem s_sliceTo {t e:TypeId} {sz bytes:Nat} {zero:List Value} {agg:Bool} (hs:P.underlying t=some (.slice e)) (ht:Ty P e sz bytes zero agg) {x z:Operand} {A:Option Addr} {n c:Nat} (hi:Nat) {q:Int} (H:St N D w0 F G0 G L T a w)
  (hw:Region.wanted ⟨some d,.slice t x none (some z) none,ty,pos,aft,g⟩ (yielded ops a.tmps)=true) (hx:ev T x=some (.slice A n c)) (hz:ev T z=some (.int .i64 q)) (hq:q=(hi:Int)) (h2:hi≤c) (hd:Nat.blt d N=true)
  (k:∀ a',St N D w0 F G0 G L ((d,.slice A hi c) :: T) a' w→WL r P ops Q rest a' w):WL r P ops Q (⟨some d,.slice t x none (some z) none,ty,pos,aft,g⟩ :: rest) a w:=by
 subst hq
 refine wl_value (v:=.slice A hi c) (w':=w) hw rfl ?_ (k _ (H.put hd _ H.hp))
 simp [execOp,H.ev hx,H.ev hz,Instr.sliceAt,Instr.slice,Instr.sliceBounds,Instr.sliceBound,Sem.run_bind,run_und hs,ht.run_size,asIntOf,h2]
 intro _
 cases A with
 | none=>rfl
 | some p=>simp [Addr.add]
end
end
section
open Go.RowKit
theorem en113stz:∀ args w,(callFunc 113 args).run Tryz.prog w=.ok (.enter 113 args) w:=enters Tryz.func113 rfl (by kernel_rfl)
theorem en114stz:∀ args w,(callFunc 114 args).run Tryz.prog w=.ok (.enter 114 args) w:=enters Tryz.func114 rfl (by kernel_rfl)
theorem fd141_5stz:Fld Tryz.prog 141 5 5:=⟨by kernel_rfl⟩
theorem en115stz:∀ args w,(callFunc 115 args).run Tryz.prog w=.ok (.enter 115 args) w:=enters Tryz.func115 rfl (by kernel_rfl)
theorem en69stz:∀ args w,(callFunc 69 args).run Tryz.prog w=.ok (.enter 69 args) w:=enters Tryz.func69 rfl (by kernel_rfl)
theorem RepV.pre {G:GH} {sz:Nat} {rows:List (List Dat)} {A:Option Addr} {n c:Nat} (h:RepV G (.sl sz rows) (.slice A n c)) (k:Nat) (hk:k≤rows.length):RepV G (.sl sz (rows.take k)) (.slice A k c):=by
 have h:=h.part 0 k (Nat.zero_le _) hk
 have e:(if c=0 then A else A.map (·.add (0*sz)))=A:=by
  split
  ·rfl
  cases A <;> simp [Addr.add]
 rw [e] at h
 simpa using h
theorem element_spec (G:GH) (w0:World) (hG:Hold G w0) (kind:Int):Calls Tryz.prog 115 #[vi kind] w0 (Ret w0 G fun u G'=>u=vi (if kind=1 then 2 else 1)):=by
 refine eN [(0,_)] Tryz.func115 rfl Tryz.ntmps115 rfl rfl hG ?_;intro a H;refine kP H (SR fun _ K1=>Ra rfl (Kz K1 (SQ fun _ K2=>SR fun _ K3=>Rm rfl (Rc rfl (Kz K3 ?_)))));clear H K1 K3;intro a H;refine c_cond H rfl ?_ ?_
 ·intro h4
  try have p4:=dT h4
  refine kP H (SR fun _ K4=>Ra rfl (Kz K4 ?_));clear H K4;intro a H;refine lr H Tryz.results115 rfl ?_;exact H.hp.ret (by first|(rw [if_pos (by omega)];done)|rw [if_neg (by omega)])
 intro h4
 try have p4:=dF h4
 refine kP H (Kc K2 (SR fun _ K5=>Ra rfl (Kz K5 ?_)));clear H K2 K5;intro a H;refine lr H Tryz.results115 rfl ?_;exact H.hp.ret (by first|(rw [if_pos (by omega)];done)|rw [if_neg (by omega)])
def prevS (l:List StyleD) (k:Nat):Option Int:=if k=0 then none else l[k - 1]?.map StyleD.id
theorem prevS_0 {l:List StyleD} {k:Nat} (h:k=0):prevS l k=none:=if_pos h
def badK (k:Int):Bool:=decide (k=20) || decide (k=1)
/-- The error of a style itself, behind others. -/
def ownE (q:Option Int) (dup:Bool) (s:StyleD):Int :=
 if s.id < 1∨1073741824 < s.id then 18 else if q=some s.id then 7 else if ltB q s.id=true then 6 else if s.kind≠1∧s.kind≠2 then 3 else if isNameS s.name=false then 13 else if dup=true then 7
 else if s.props.any (fun p=>badK p.key)=true then 4 else chkPS (if s.kind=1 then 2 else 1) s.props
def ownS (l:List StyleD) (k:Nat) (s:StyleD):Int:=ownE (prevS l k) (findName (l.take k) s.kind s.name).isSome s
set_option maxHeartbeats 1000000 in
theorem own_spec (G:GH) (w0:World) (hG:Hold G w0) (l:List StyleD) (k:Nat) (v:Value) (hv:RepV G (.sl 6 (l.map StyleD.dat)) v) (hk:k < l.length) (hs:l[k].name.size≤4611686018427387904) :
  Calls Tryz.prog 86 #[v,vi k] w0 (Ret w0 G fun u G'=>u=vi (ownS l k l[k])):=by
 obtain ⟨A,c,rfl,hc1,hc2,-⟩:=hv.slice;have hml:maxLen=9223372036854775807:=rfl;rw [List.length_map] at *;obtain ⟨b,o,pA,pc,rfl,hrow,hp,hrep⟩:=style_at hv hk;obtain ⟨x,hx⟩:∃ x,x=l[k]:=⟨_,rfl⟩;rw [← hx] at hs hrow hp hrep ⊢;have hdp:∀ j v,[vi x.id,vi x.kind,.string x.name,vi x.base,vi x.next,.slice pA x.props.length pc][j]?=some v→gcell G b (o+k*6+j)=some v:=hrow;obtain ⟨_,_,he0,hpc1,hpc2,-⟩:=hp.slice
 injection he0 with _ he1 he2
 rw [List.length_map] at *;subst he2
 obtain ⟨pk,hpk⟩:∃ pk,0 < k→gcell G b (o+(k - 1)*6+0)=some (vi pk)∧prevS l k=some pk:=by
  by_cases h0:0 < k
  ·obtain ⟨b',o',_,_,he,hr',-,-⟩:=style_at hv (show k - 1 < l.length by omega)
   injection he with he
   injection he with e1 e2 e3
   subst e1;subst e2;exact ⟨_,fun _=>⟨hr' 0 _ rfl,by rw [prevS,if_neg (by omega),List.getElem?_eq_getElem (by omega)];rfl⟩⟩
  exact ⟨0,fun h=>absurd h h0⟩
 refine eN [(0,_),(1,_)] Tryz.func86 rfl Tryz.ntmps86 rfl rfl hG ?_;intro a H;refine kP H (SR fun _ K1=>Ra rfl (Kz K1 (SR fun _ K2=>Rm rfl (Rm rfl (Ri un31sty ty141sty rfl rfl ?_)))));clear H K1;intro a H;refine s_loada ty141sty (cs:=[_,_,_,_,_,_]) H wn rfl rfl (fun j v hj=>H.hp.gcell (hrow j v hj)) rfl ?_;clear H;intro a H;refine s_alloc ty141sty H wn rfl ?_;clear H;intro b5 a w hb5 H;refine s_store ty141sty 0 (vs:=[_,_,_,_,_,_]) _ H wn rfl rfl rfl rfl rfl rfl rfl rfl ?_;clear H;intro w H;dsimp only [List.set,setRow] at H;refine K2 _ _ ?_;clear K2;refine c_seqJ (ι:=GH) (Tc:=[(0,_),(1,_),(5,_)]) (Lc:=[(_,_)]) (fun (gh:GH)=>[]) (fun (gh:GH)=>[]) (fun (gh:GH)=>gh) (fun (gh:GH)=>¬ (x.id < 1∨1073741824 < x.id)∧¬ prevS l k=some x.id∧¬ ltB (prevS l k) x.id=true∧¬ (x.kind≠1∧x.kind≠2)∧¬ isNameS x.name=false∧(∀ b o,G b=some o→gh b=some o)) (by exact (H).sub ⟨rfl,rfl,rfl,trivial⟩) ?_ ?_
 ·skip;refine kP H (SB (SR fun _ K3=>Rf fd141_0sty rfl (Ro ty3run 0 rfl rfl (Rc rfl (Rm rfl ?_)))));clear H;intro a H;refine s_split H 18 rfl ?_ ?_
  ·intro h18
   try have p18:=dT h18
   refine kH H (Ks h18 rfl (Ks h18 rfl (Ks h18 rfl (Pt h18 rfl (Ra rfl (Kz K3 ?_))))));clear H K3;intro a H;refine c_cond_t H rfl rfl ?_;refine kP H (SR fun _ K4=>Ra rfl (Kz K4 ?_));clear H K4;intro a H;refine lr H Tryz.results86 rfl ?_
   first
    | exact H.hp.ret (congrArg vi e0.symm)
    | exact H.hp.ret (congrArg vi e4.symm)
    | exact H.hp.ret (congrArg vi e7.symm)
    | exact H.hp.ret (congrArg vi e13.symm)
    | exact H.hp.ret (congrArg vi e3.symm)
    | exact H.hp.ret (congrArg vi e6.symm)
    | exact H.hp.ret (congrArg vi (by rw [ownS,ownE,if_pos (by omega)]))
  intro h18
  try have p18:=dF h18
  refine kH H (YF fd141_0sty h18 rfl (YO ty3run 0 h18 rfl rfl (YC h18 rfl (Pf h18 rfl (Ra rfl (Kz K3 ?_))))));clear H K3;intro a H;refine c_cond H rfl ?_ ?_
  ·intro h14
   try have p14:=dT h14
   refine kP H (SR fun _ K5=>Ra rfl (Kz K5 ?_));clear H K5;intro a H;refine lr H Tryz.results86 rfl ?_
   first
    | exact H.hp.ret (congrArg vi e0.symm)
    | exact H.hp.ret (congrArg vi e4.symm)
    | exact H.hp.ret (congrArg vi e7.symm)
    | exact H.hp.ret (congrArg vi e13.symm)
    | exact H.hp.ret (congrArg vi e3.symm)
    | exact H.hp.ret (congrArg vi e6.symm)
    | exact H.hp.ret (congrArg vi (by rw [ownS,ownE,if_pos (by omega)]))
  intro h14
  try have p14:=dF h14
  refine c_seq (fun _ K6=>?_)
  by_cases c0:0 < (k:Int)
  ·skip
   by_cases c1:x.id=pk
   ·skip;refine c_drawI (hmx) [[],[0],[0,1],[0,1,2],[0,1,2,3],[0,1,2],[0,1,2],[0,1,2,6],[0,1,2,5,6,7],[0,1,2,5,6,7,8],[0,1,2,5,6,7,8,9],(List.range 11),(List.range 12),(List.range 13)] [13] (by kernel_rfl) (by kernel_rfl) (fun (ix_:Nat) (v:Value) (G:GH)=>match ix_ with|0=>v=vi k|1=>v=.bool (decide (0 < (k:Int)))|2=>v=.bool (decide (0 < (k:Int)))|3=>v=.pointer (some ⟨b5,0,none⟩)|4=>v=vi x.id|5=>v=.slice (some ⟨b,o,none⟩) l.length c|6=>v=vi k|7=>v=vi ((k - 1:Nat):Int)|8=>v=.pointer (some ⟨b,o+(k - 1)*6,none⟩)|9=>v=.pointer (some ⟨b,o+(k - 1)*6+0,none⟩)|10=>v=vi pk|11=>v=.bool (decide (x.id=pk))|12=>v=.bool (decide (x.id=pk))|_=>True) (fun _ _ _ _ _ h=>h) H ?_ ?_
    ·clear H;refine al4 ?_ ?_ ?_ ?_ (al4 ?_ ?_ ?_ ?_ (al4 ?_ ?_ ?_ ?_ (allI_cons ?_ (allI_cons ?_ allI_nil))))
     ·exact Z0 rfl rfl fun _ _ _ _ _=>Rm rfl
     ·exact Z1 0 24 rfl rfl fun _ _ _ _ _=>Rc rfl
     ·exact Z1 1 25 rfl rfl fun _ _ _ _ _=>Rm rfl
     ·exact Op1 2 26 rfl rfl fun _ _ _ _ hG _ H fin=>kH H (YF fd141_0sty (decide_eq_true c0) rfl fun _ H=>fin H iJ rfl)
     ·exact Op2 3 27 2 26 rfl rfl fun _ _ _ _ hG _ H fin=>kH H (YO ty3run 0 (decide_eq_true c0) rfl rfl fun _ H=>fin H iJ rfl)
     ·exact Op1 2 26 rfl rfl fun _ _ _ _ hG _ H fin=>kH H (YM (decide_eq_true c0) rfl fun _ H=>fin H iJ rfl)
     ·exact Op1 2 26 rfl rfl fun _ _ _ _ hG _ H fin=>kH H (YM (decide_eq_true c0) rfl fun _ H=>fin H iJ rfl)
     ·refine Op2 6 30 2 26 rfl rfl fun _ a w G1 hG HT H fin=>?_;refine s_sub _ H (wg H rfl rfl (decide_eq_true c0)) rfl rfl rfl (by omega) (by omega) rfl ?_;clear H;intro a H;exact fin H iJ (by first|rfl|exact congrArg vi (by omega))
     ·exact Op3 5 29 7 31 2 26 rfl rfl fun _ _ _ _ hG _ H fin=>kH H (YI un31sty ty141sty (decide_eq_true c0) rfl rfl fun _ H=>fin H iJ rfl)
     ·exact Op2 8 32 2 26 rfl rfl fun _ _ _ _ hG _ H fin=>kH H (YF fd141_0sty (decide_eq_true c0) rfl fun _ H=>fin H iJ rfl)
     ·exact Op2 9 33 2 26 rfl rfl fun _ _ _ _ hG _ H fin=>kH H (YR ty3run (decide_eq_true c0) rfl (gcell_mono hG (hpk (by omega)).1) fun _ H=>fin H iJ rfl)
     ·exact Op3 4 28 10 34 2 26 rfl rfl fun _ _ _ _ hG _ H fin=>kH H (YC (decide_eq_true c0) rfl fun _ H=>fin H iJ rfl)
     ·exact Op2 2 26 11 35 rfl rfl fun _ _ _ _ hG _ H fin=>kH H (Pt (decide_eq_true c0) rfl fun _ H=>fin H iJ rfl)
     exact opB rfl
    clear H;intro a w G hGm4 H hv;obtain ⟨u36,hu36,hp36⟩:=hv 12 36 (by decide) rfl;obtain rfl:u36=.bool (decide (x.id=pk)):=hp36;have H:=H.addS hu36;clear hv;refine kH H (Ra rfl ?_);clear H;intro a H;refine wl_nil ⟨rfl,?_⟩;refine K6 _ _ ?_;clear K6;refine c_cond_t H rfl (decide_eq_true c1) ?_;refine c_seq (fun _ K7=>?_)
    have e7:ownS l k x=7:=by rw [ownS,ownE,if_neg (by omega),if_pos (by rw [(hpk (by omega)).2,c1])]
    refine kP H (SC (Ra rfl (Kn K7 ?_)));clear H K7;intro a H;refine lr H Tryz.results86 rfl ?_
    first
     | exact H.hp.ret (congrArg vi e0.symm)
     | exact H.hp.ret (congrArg vi e4.symm)
     | exact H.hp.ret (congrArg vi e7.symm)
     | exact H.hp.ret (congrArg vi e13.symm)
     | exact H.hp.ret (congrArg vi e3.symm)
     | exact H.hp.ret (congrArg vi e6.symm)
     | exact H.hp.ret (congrArg vi (by rw [ownS,ownE,if_pos (by omega)]))
   skip;refine c_drawI (hmx) [[],[0],[0,1],[0,1,2],[0,1,2,3],[0,1,2],[0,1,2],[0,1,2,6],[0,1,2,5,6,7],[0,1,2,5,6,7,8],[0,1,2,5,6,7,8,9],(List.range 11),(List.range 12),(List.range 13)] [13] (by kernel_rfl) (by kernel_rfl) (fun (ix_:Nat) (v:Value) (G:GH)=>match ix_ with|0=>v=vi k|1=>v=.bool (decide (0 < (k:Int)))|2=>v=.bool (decide (0 < (k:Int)))|3=>v=.pointer (some ⟨b5,0,none⟩)|4=>v=vi x.id|5=>v=.slice (some ⟨b,o,none⟩) l.length c|6=>v=vi k|7=>v=vi ((k - 1:Nat):Int)|8=>v=.pointer (some ⟨b,o+(k - 1)*6,none⟩)|9=>v=.pointer (some ⟨b,o+(k - 1)*6+0,none⟩)|10=>v=vi pk|11=>v=.bool (decide (x.id=pk))|12=>v=.bool (decide (x.id=pk))|_=>True) (fun _ _ _ _ _ h=>h) H ?_ ?_
   ·clear H;refine al4 ?_ ?_ ?_ ?_ (al4 ?_ ?_ ?_ ?_ (al4 ?_ ?_ ?_ ?_ (allI_cons ?_ (allI_cons ?_ allI_nil))))
    ·exact Z0 rfl rfl fun _ _ _ _ _=>Rm rfl
    ·exact Z1 0 24 rfl rfl fun _ _ _ _ _=>Rc rfl
    ·exact Z1 1 25 rfl rfl fun _ _ _ _ _=>Rm rfl
    ·exact Op1 2 26 rfl rfl fun _ _ _ _ hG _ H fin=>kH H (YF fd141_0sty (decide_eq_true c0) rfl fun _ H=>fin H iJ rfl)
    ·exact Op2 3 27 2 26 rfl rfl fun _ _ _ _ hG _ H fin=>kH H (YO ty3run 0 (decide_eq_true c0) rfl rfl fun _ H=>fin H iJ rfl)
    ·exact Op1 2 26 rfl rfl fun _ _ _ _ hG _ H fin=>kH H (YM (decide_eq_true c0) rfl fun _ H=>fin H iJ rfl)
    ·exact Op1 2 26 rfl rfl fun _ _ _ _ hG _ H fin=>kH H (YM (decide_eq_true c0) rfl fun _ H=>fin H iJ rfl)
    ·refine Op2 6 30 2 26 rfl rfl fun _ a w G1 hG HT H fin=>?_;refine s_sub _ H (wg H rfl rfl (decide_eq_true c0)) rfl rfl rfl (by omega) (by omega) rfl ?_;clear H;intro a H;exact fin H iJ (by first|rfl|exact congrArg vi (by omega))
    ·exact Op3 5 29 7 31 2 26 rfl rfl fun _ _ _ _ hG _ H fin=>kH H (YI un31sty ty141sty (decide_eq_true c0) rfl rfl fun _ H=>fin H iJ rfl)
    ·exact Op2 8 32 2 26 rfl rfl fun _ _ _ _ hG _ H fin=>kH H (YF fd141_0sty (decide_eq_true c0) rfl fun _ H=>fin H iJ rfl)
    ·exact Op2 9 33 2 26 rfl rfl fun _ _ _ _ hG _ H fin=>kH H (YR ty3run (decide_eq_true c0) rfl (gcell_mono hG (hpk (by omega)).1) fun _ H=>fin H iJ rfl)
    ·exact Op3 4 28 10 34 2 26 rfl rfl fun _ _ _ _ hG _ H fin=>kH H (YC (decide_eq_true c0) rfl fun _ H=>fin H iJ rfl)
    ·exact Op2 2 26 11 35 rfl rfl fun _ _ _ _ hG _ H fin=>kH H (Pt (decide_eq_true c0) rfl fun _ H=>fin H iJ rfl)
    exact opB rfl
   clear H;intro a w G hGm4 H hv;obtain ⟨u36,hu36,hp36⟩:=hv 12 36 (by decide) rfl;obtain rfl:u36=.bool (decide (x.id=pk)):=hp36;have H:=H.addS hu36;clear hv;refine kH H (Ra rfl ?_);clear H;intro a H;refine wl_nil ⟨rfl,?_⟩;refine K6 _ _ ?_;clear K6;refine c_cond_f H rfl (decide_eq_false c1) ?_;refine c_seq (fun _ K8=>?_)
   have q1:¬ (0 < (k:Int)∧x.id=pk):=by first|exact fun h=>c1 h.2|exact fun h=>c0 h.1
   have q1':¬ prevS l k=some x.id:=fun h=>q1 (by
    by_cases h0:0 < k
    ·rw [(hpk h0).2] at h
     injection h with h
     exact ⟨by omega,h.symm⟩
    rw [prevS_0 (by omega)] at h
    cases h)
   by_cases c3:x.id < pk
   ·skip;refine c_drawI (hmx) [[],[0],[0,1],[0,1,2],[0,1,2,3],[0,1,2],[0,1,2],[0,1,2,6],[0,1,2,5,6,7],[0,1,2,5,6,7,8],[0,1,2,5,6,7,8,9],(List.range 11),(List.range 12),(List.range 13)] [13] (by kernel_rfl) (by kernel_rfl) (fun (ix_:Nat) (v:Value) (G:GH)=>match ix_ with|0=>v=vi k|1=>v=.bool (decide (0 < (k:Int)))|2=>v=.bool (decide (0 < (k:Int)))|3=>v=.pointer (some ⟨b5,0,none⟩)|4=>v=vi x.id|5=>v=.slice (some ⟨b,o,none⟩) l.length c|6=>v=vi k|7=>v=vi ((k - 1:Nat):Int)|8=>v=.pointer (some ⟨b,o+(k - 1)*6,none⟩)|9=>v=.pointer (some ⟨b,o+(k - 1)*6+0,none⟩)|10=>v=vi pk|11=>v=.bool (decide (x.id < pk))|12=>v=.bool (decide (x.id < pk))|_=>True) (fun _ _ _ _ _ h=>h) H ?_ ?_
    ·clear H;refine al4 ?_ ?_ ?_ ?_ (al4 ?_ ?_ ?_ ?_ (al4 ?_ ?_ ?_ ?_ (allI_cons ?_ (allI_cons ?_ allI_nil))))
     ·exact Z0 rfl rfl fun _ _ _ _ _=>Rm rfl
     ·exact Z1 0 38 rfl rfl fun _ _ _ _ _=>Rc rfl
     ·exact Z1 1 39 rfl rfl fun _ _ _ _ _=>Rm rfl
     ·exact Op1 2 40 rfl rfl fun _ _ _ _ hG _ H fin=>kH H (YF fd141_0sty (decide_eq_true c0) rfl fun _ H=>fin H iJ rfl)
     ·exact Op2 3 41 2 40 rfl rfl fun _ _ _ _ hG _ H fin=>kH H (YO ty3run 0 (decide_eq_true c0) rfl rfl fun _ H=>fin H iJ rfl)
     ·exact Op1 2 40 rfl rfl fun _ _ _ _ hG _ H fin=>kH H (YM (decide_eq_true c0) rfl fun _ H=>fin H iJ rfl)
     ·exact Op1 2 40 rfl rfl fun _ _ _ _ hG _ H fin=>kH H (YM (decide_eq_true c0) rfl fun _ H=>fin H iJ rfl)
     ·refine Op2 6 44 2 40 rfl rfl fun _ a w G1 hG HT H fin=>?_;refine s_sub _ H (wg H rfl rfl (decide_eq_true c0)) rfl rfl rfl (by omega) (by omega) rfl ?_;clear H;intro a H;exact fin H iJ (by first|rfl|exact congrArg vi (by omega))
     ·exact Op3 5 43 7 45 2 40 rfl rfl fun _ _ _ _ hG _ H fin=>kH H (YI un31sty ty141sty (decide_eq_true c0) rfl rfl fun _ H=>fin H iJ rfl)
     ·exact Op2 8 46 2 40 rfl rfl fun _ _ _ _ hG _ H fin=>kH H (YF fd141_0sty (decide_eq_true c0) rfl fun _ H=>fin H iJ rfl)
     ·exact Op2 9 47 2 40 rfl rfl fun _ _ _ _ hG _ H fin=>kH H (YR ty3run (decide_eq_true c0) rfl (gcell_mono hG (gcell_mono hGm4 (hpk (by omega)).1)) fun _ H=>fin H iJ rfl)
     ·exact Op3 4 42 10 48 2 40 rfl rfl fun _ _ _ _ hG _ H fin=>kH H (YC (decide_eq_true c0) rfl fun _ H=>fin H iJ rfl)
     ·exact Op2 2 40 11 49 rfl rfl fun _ _ _ _ hG _ H fin=>kH H (Pt (decide_eq_true c0) rfl fun _ H=>fin H iJ rfl)
     exact opB rfl
    clear H;intro a w G hGm6 H hv;obtain ⟨u50,hu50,hp50⟩:=hv 12 50 (by decide) rfl;obtain rfl:u50=.bool (decide (x.id < pk)):=hp50;have H:=H.addS hu50;clear hv;refine kH H (Ra rfl ?_);clear H;intro a H;refine wl_nil ⟨rfl,?_⟩;refine K8 _ _ ?_;clear K8;refine c_cond_t H rfl (decide_eq_true c3) ?_;refine c_seq (fun _ K9=>?_)
    have e6:ownS l k x=6:=by rw [ownS,ownE,if_neg (by omega),if_neg q1',if_pos (by rw [(hpk (by omega)).2];exact decide_eq_true c3)]
    refine kP H (SC (Ra rfl (Kn K9 ?_)));clear H K9;intro a H;refine lr H Tryz.results86 rfl ?_
    first
     | exact H.hp.ret (congrArg vi e0.symm)
     | exact H.hp.ret (congrArg vi e4.symm)
     | exact H.hp.ret (congrArg vi e7.symm)
     | exact H.hp.ret (congrArg vi e13.symm)
     | exact H.hp.ret (congrArg vi e3.symm)
     | exact H.hp.ret (congrArg vi e6.symm)
     | exact H.hp.ret (congrArg vi (by rw [ownS,ownE,if_pos (by omega)]))
   skip;refine c_drawI (hmx) [[],[0],[0,1],[0,1,2],[0,1,2,3],[0,1,2],[0,1,2],[0,1,2,6],[0,1,2,5,6,7],[0,1,2,5,6,7,8],[0,1,2,5,6,7,8,9],(List.range 11),(List.range 12),(List.range 13)] [13] (by kernel_rfl) (by kernel_rfl) (fun (ix_:Nat) (v:Value) (G:GH)=>match ix_ with|0=>v=vi k|1=>v=.bool (decide (0 < (k:Int)))|2=>v=.bool (decide (0 < (k:Int)))|3=>v=.pointer (some ⟨b5,0,none⟩)|4=>v=vi x.id|5=>v=.slice (some ⟨b,o,none⟩) l.length c|6=>v=vi k|7=>v=vi ((k - 1:Nat):Int)|8=>v=.pointer (some ⟨b,o+(k - 1)*6,none⟩)|9=>v=.pointer (some ⟨b,o+(k - 1)*6+0,none⟩)|10=>v=vi pk|11=>v=.bool (decide (x.id < pk))|12=>v=.bool (decide (x.id < pk))|_=>True) (fun _ _ _ _ _ h=>h) H ?_ ?_
   ·clear H;refine al4 ?_ ?_ ?_ ?_ (al4 ?_ ?_ ?_ ?_ (al4 ?_ ?_ ?_ ?_ (allI_cons ?_ (allI_cons ?_ allI_nil))))
    ·exact Z0 rfl rfl fun _ _ _ _ _=>Rm rfl
    ·exact Z1 0 38 rfl rfl fun _ _ _ _ _=>Rc rfl
    ·exact Z1 1 39 rfl rfl fun _ _ _ _ _=>Rm rfl
    ·exact Op1 2 40 rfl rfl fun _ _ _ _ hG _ H fin=>kH H (YF fd141_0sty (decide_eq_true c0) rfl fun _ H=>fin H iJ rfl)
    ·exact Op2 3 41 2 40 rfl rfl fun _ _ _ _ hG _ H fin=>kH H (YO ty3run 0 (decide_eq_true c0) rfl rfl fun _ H=>fin H iJ rfl)
    ·exact Op1 2 40 rfl rfl fun _ _ _ _ hG _ H fin=>kH H (YM (decide_eq_true c0) rfl fun _ H=>fin H iJ rfl)
    ·exact Op1 2 40 rfl rfl fun _ _ _ _ hG _ H fin=>kH H (YM (decide_eq_true c0) rfl fun _ H=>fin H iJ rfl)
    ·refine Op2 6 44 2 40 rfl rfl fun _ a w G1 hG HT H fin=>?_;refine s_sub _ H (wg H rfl rfl (decide_eq_true c0)) rfl rfl rfl (by omega) (by omega) rfl ?_;clear H;intro a H;exact fin H iJ (by first|rfl|exact congrArg vi (by omega))
    ·exact Op3 5 43 7 45 2 40 rfl rfl fun _ _ _ _ hG _ H fin=>kH H (YI un31sty ty141sty (decide_eq_true c0) rfl rfl fun _ H=>fin H iJ rfl)
    ·exact Op2 8 46 2 40 rfl rfl fun _ _ _ _ hG _ H fin=>kH H (YF fd141_0sty (decide_eq_true c0) rfl fun _ H=>fin H iJ rfl)
    ·exact Op2 9 47 2 40 rfl rfl fun _ _ _ _ hG _ H fin=>kH H (YR ty3run (decide_eq_true c0) rfl (gcell_mono hG (gcell_mono hGm4 (hpk (by omega)).1)) fun _ H=>fin H iJ rfl)
    ·exact Op3 4 42 10 48 2 40 rfl rfl fun _ _ _ _ hG _ H fin=>kH H (YC (decide_eq_true c0) rfl fun _ H=>fin H iJ rfl)
    ·exact Op2 2 40 11 49 rfl rfl fun _ _ _ _ hG _ H fin=>kH H (Pt (decide_eq_true c0) rfl fun _ H=>fin H iJ rfl)
    exact opB rfl
   clear H;intro a w G hGm6 H hv;obtain ⟨u50,hu50,hp50⟩:=hv 12 50 (by decide) rfl;obtain rfl:u50=.bool (decide (x.id < pk)):=hp50;have H:=H.addS hu50;clear hv;refine kH H (Ra rfl ?_);clear H;intro a H;refine wl_nil ⟨rfl,?_⟩;refine K8 _ _ ?_;clear K8;refine c_cond_f H rfl (decide_eq_false c3) ?_;refine c_seq (fun _ K10=>?_)
   have q2:¬ (0 < (k:Int)∧x.id < pk):=by first|exact fun h=>c3 h.2|exact fun h=>c0 h.1
   have q2':¬ ltB (prevS l k) x.id=true:=fun h=>q2 (by
    by_cases h0:0 < k
    ·rw [(hpk h0).2] at h;exact ⟨by omega,of_decide_eq_true h⟩
    rw [prevS_0 (by omega)] at h
    cases h)
   refine kP H (SC (Rf fd141_1sty rfl (Ro ty3run 0 rfl rfl (Rc rfl (Rm rfl ?_)))));clear H;intro a H;refine s_split H 55 rfl ?_ ?_
   ·intro h55
    try have p55:=dT h55
    refine kH H (YF fd141_1sty h55 rfl (YO ty3run 0 h55 rfl rfl (YC h55 rfl (Pt h55 rfl (Ra rfl (Kn K10 ?_))))));clear H K10;intro a H;refine c_cond H rfl ?_ ?_
    ·intro h51
     try have p51:=dT h51
     refine c_seq (fun _ K11=>?_)
     have e3:ownS l k x=3:=by rw [ownS,ownE,if_neg (by omega),if_neg q1',if_neg q2',if_pos (by omega)]
     refine kP H (SC (Ra rfl (Kn K11 ?_)));clear H K11;intro a H;refine lr H Tryz.results86 rfl ?_
     first
      | exact H.hp.ret (congrArg vi e0.symm)
      | exact H.hp.ret (congrArg vi e4.symm)
      | exact H.hp.ret (congrArg vi e7.symm)
      | exact H.hp.ret (congrArg vi e13.symm)
      | exact H.hp.ret (congrArg vi e3.symm)
      | exact H.hp.ret (congrArg vi e6.symm)
      | exact H.hp.ret (congrArg vi (by rw [ownS,ownE,if_pos (by omega)]))
    intro h51
    try have p51:=dF h51
    refine kP H (SR fun _ K12=>Rf fd141_2sty rfl (Ro ty9run 0 rfl rfl ?_));clear H;intro a H;refine s_call en113stz H wn rfl (isName_spec _ _ H.hp.ro x.name hs) rfl ?_;clear H;rintro v63 G63 a w rfl hm63 H;refine kH H (Rn rfl (Ra rfl (Kz K12 ?_)));clear H K12;intro a H;refine c_cond H rfl ?_ ?_
    ·intro h60
     try have p60:=dT h60
     refine c_seq (fun _ K13=>?_)
     have e13:ownS l k x=13:=by rw [ownS,ownE,if_neg (by omega),if_neg q1',if_neg q2',if_neg (by omega),if_pos (by simpa using h60)]
     refine kP H (SC (Ra rfl (Kn K13 ?_)));clear H K13;intro a H;refine lr H Tryz.results86 rfl ?_
     first
      | exact H.hp.ret (congrArg vi e0.symm)
      | exact H.hp.ret (congrArg vi e4.symm)
      | exact H.hp.ret (congrArg vi e7.symm)
      | exact H.hp.ret (congrArg vi e13.symm)
      | exact H.hp.ret (congrArg vi e3.symm)
      | exact H.hp.ret (congrArg vi e6.symm)
      | exact H.hp.ret (congrArg vi (by rw [ownS,ownE,if_pos (by omega)]))
    intro h60
    try have p60:=dF h60
    refine c_skip ?_;refine ⟨G63,by exact (H).sub ⟨rfl,rfl,rfl,trivial⟩,?_⟩;exact ⟨by omega,q1',q2',by omega,by simpa using h60,fun b o h=>hm63 b o (hGm6 b o (hGm4 b o h))⟩
   intro h55
   try have p55:=dF h55
   refine kH H (Ks h55 rfl (Ks h55 rfl (Ks h55 rfl (Pf h55 rfl (Ra rfl (Kn K10 ?_))))));clear H K10;intro a H;refine c_cond_f H rfl rfl ?_;refine kP H (SR fun _ K14=>Rf fd141_2sty rfl (Ro ty9run 0 rfl rfl ?_));clear H;intro a H;refine s_call en113stz H wn rfl (isName_spec _ _ H.hp.ro x.name hs) rfl ?_;clear H;rintro v63 G63 a w rfl hm63 H;refine kH H (Rn rfl (Ra rfl (Kz K14 ?_)));clear H K14;intro a H;refine c_cond H rfl ?_ ?_
   ·intro h60
    try have p60:=dT h60
    refine c_seq (fun _ K15=>?_)
    have e13:ownS l k x=13:=by rw [ownS,ownE,if_neg (by omega),if_neg q1',if_neg q2',if_neg (by omega),if_pos (by simpa using h60)]
    refine kP H (SC (Ra rfl (Kn K15 ?_)));clear H K15;intro a H;refine lr H Tryz.results86 rfl ?_
    first
     | exact H.hp.ret (congrArg vi e0.symm)
     | exact H.hp.ret (congrArg vi e4.symm)
     | exact H.hp.ret (congrArg vi e7.symm)
     | exact H.hp.ret (congrArg vi e13.symm)
     | exact H.hp.ret (congrArg vi e3.symm)
     | exact H.hp.ret (congrArg vi e6.symm)
     | exact H.hp.ret (congrArg vi (by rw [ownS,ownE,if_pos (by omega)]))
   intro h60
   try have p60:=dF h60
   refine c_skip ?_;refine ⟨G63,by exact (H).sub ⟨rfl,rfl,rfl,trivial⟩,?_⟩;exact ⟨by omega,q1',q2',by omega,by simpa using h60,fun b o h=>hm63 b o (hGm6 b o (hGm4 b o h))⟩
  skip;refine c_drawI (hmx) [[],[0],[0,1],[0,1,2],[0,1,2,3],[0,1,2],[0,1,2],[0,1,2,6],[0,1,2,5,6,7],[0,1,2,5,6,7,8],[0,1,2,5,6,7,8,9],(List.range 11),(List.range 12),(List.range 13)] [13] (by kernel_rfl) (by kernel_rfl) (fun (ix_:Nat) (v:Value) (G:GH)=>match ix_ with|0=>v=vi k|1=>v=.bool (decide (0 < (k:Int)))|2=>v=.bool (decide (0 < (k:Int)))|3=>v=undef|4=>v=undef|5=>v=undef|6=>v=undef|7=>v=undef|8=>v=undef|9=>v=undef|10=>v=undef|11=>v=undef|12=>v=.bool false|_=>True) (fun _ _ _ _ _ h=>h) H ?_ ?_
  ·clear H;refine al4 ?_ ?_ ?_ ?_ (al4 ?_ ?_ ?_ ?_ (al4 ?_ ?_ ?_ ?_ (allI_cons ?_ (allI_cons ?_ allI_nil))))
   ·exact Z0 rfl rfl fun _ _ _ _ _=>Rm rfl
   ·exact Z1 0 24 rfl rfl fun _ _ _ _ _=>Rc rfl
   ·exact Z1 1 25 rfl rfl fun _ _ _ _ _=>Rm rfl
   ·exact skI 2 (decide_eq_false c0) rfl rfl
   ·exact skI 2 (decide_eq_false c0) rfl rfl
   ·exact skI 2 (decide_eq_false c0) rfl rfl
   ·exact skI 2 (decide_eq_false c0) rfl rfl
   ·exact skI 2 (decide_eq_false c0) rfl rfl
   ·exact skI 2 (decide_eq_false c0) rfl rfl
   ·exact skI 2 (decide_eq_false c0) rfl rfl
   ·exact skI 2 (decide_eq_false c0) rfl rfl
   ·exact skI 2 (decide_eq_false c0) rfl rfl
   ·exact Op2 2 26 11 35 rfl rfl fun _ _ _ _ hG _ H fin=>kH H (Pf (decide_eq_false c0) rfl fun _ H=>fin H iJ rfl)
   exact opB rfl
  clear H;intro a w G hGm4 H hv;obtain ⟨u36,hu36,hp36⟩:=hv 12 36 (by decide) rfl;obtain rfl:u36=.bool false:=hp36;have H:=H.addS hu36;clear hv;refine kH H (Ra rfl ?_);clear H;intro a H;refine wl_nil ⟨rfl,?_⟩;refine K6 _ _ ?_;clear K6;refine c_cond_f H rfl rfl ?_;refine c_seq (fun _ K16=>?_)
  have q1:¬ (0 < (k:Int)∧x.id=pk):=by first|exact fun h=>c1 h.2|exact fun h=>c0 h.1
  have q1':¬ prevS l k=some x.id:=fun h=>q1 (by
   by_cases h0:0 < k
   ·rw [(hpk h0).2] at h
    injection h with h
    exact ⟨by omega,h.symm⟩
   rw [prevS_0 (by omega)] at h
   cases h)
  refine c_drawI (hmx) [[],[0],[0,1],[0,1,2],[0,1,2,3],[0,1,2],[0,1,2],[0,1,2,6],[0,1,2,5,6,7],[0,1,2,5,6,7,8],[0,1,2,5,6,7,8,9],(List.range 11),(List.range 12),(List.range 13)] [13] (by kernel_rfl) (by kernel_rfl) (fun (ix_:Nat) (v:Value) (G:GH)=>match ix_ with|0=>v=vi k|1=>v=.bool (decide (0 < (k:Int)))|2=>v=.bool (decide (0 < (k:Int)))|3=>v=undef|4=>v=undef|5=>v=undef|6=>v=undef|7=>v=undef|8=>v=undef|9=>v=undef|10=>v=undef|11=>v=undef|12=>v=.bool false|_=>True) (fun _ _ _ _ _ h=>h) H ?_ ?_
  ·clear H;refine al4 ?_ ?_ ?_ ?_ (al4 ?_ ?_ ?_ ?_ (al4 ?_ ?_ ?_ ?_ (allI_cons ?_ (allI_cons ?_ allI_nil))))
   ·exact Z0 rfl rfl fun _ _ _ _ _=>Rm rfl
   ·exact Z1 0 38 rfl rfl fun _ _ _ _ _=>Rc rfl
   ·exact Z1 1 39 rfl rfl fun _ _ _ _ _=>Rm rfl
   ·exact skI 2 (decide_eq_false c0) rfl rfl
   ·exact skI 2 (decide_eq_false c0) rfl rfl
   ·exact skI 2 (decide_eq_false c0) rfl rfl
   ·exact skI 2 (decide_eq_false c0) rfl rfl
   ·exact skI 2 (decide_eq_false c0) rfl rfl
   ·exact skI 2 (decide_eq_false c0) rfl rfl
   ·exact skI 2 (decide_eq_false c0) rfl rfl
   ·exact skI 2 (decide_eq_false c0) rfl rfl
   ·exact skI 2 (decide_eq_false c0) rfl rfl
   ·exact Op2 2 40 11 49 rfl rfl fun _ _ _ _ hG _ H fin=>kH H (Pf (decide_eq_false c0) rfl fun _ H=>fin H iJ rfl)
   exact opB rfl
  clear H;intro a w G hGm6 H hv;obtain ⟨u50,hu50,hp50⟩:=hv 12 50 (by decide) rfl;obtain rfl:u50=.bool false:=hp50;have H:=H.addS hu50;clear hv;refine kH H (Ra rfl ?_);clear H;intro a H;refine wl_nil ⟨rfl,?_⟩;refine K16 _ _ ?_;clear K16;refine c_cond_f H rfl rfl ?_;refine c_seq (fun _ K17=>?_)
  have q2:¬ (0 < (k:Int)∧x.id < pk):=by first|exact fun h=>c3 h.2|exact fun h=>c0 h.1
  have q2':¬ ltB (prevS l k) x.id=true:=fun h=>q2 (by
   by_cases h0:0 < k
   ·rw [(hpk h0).2] at h;exact ⟨by omega,of_decide_eq_true h⟩
   rw [prevS_0 (by omega)] at h
   cases h)
  refine kP H (SC (Rf fd141_1sty rfl (Ro ty3run 0 rfl rfl (Rc rfl (Rm rfl ?_)))));clear H;intro a H;refine s_split H 55 rfl ?_ ?_
  ·intro h55
   try have p55:=dT h55
   refine kH H (YF fd141_1sty h55 rfl (YO ty3run 0 h55 rfl rfl (YC h55 rfl (Pt h55 rfl (Ra rfl (Kn K17 ?_))))));clear H K17;intro a H;refine c_cond H rfl ?_ ?_
   ·intro h51
    try have p51:=dT h51
    refine c_seq (fun _ K18=>?_)
    have e3:ownS l k x=3:=by rw [ownS,ownE,if_neg (by omega),if_neg q1',if_neg q2',if_pos (by omega)]
    refine kP H (SC (Ra rfl (Kn K18 ?_)));clear H K18;intro a H;refine lr H Tryz.results86 rfl ?_
    first
     | exact H.hp.ret (congrArg vi e0.symm)
     | exact H.hp.ret (congrArg vi e4.symm)
     | exact H.hp.ret (congrArg vi e7.symm)
     | exact H.hp.ret (congrArg vi e13.symm)
     | exact H.hp.ret (congrArg vi e3.symm)
     | exact H.hp.ret (congrArg vi e6.symm)
     | exact H.hp.ret (congrArg vi (by rw [ownS,ownE,if_pos (by omega)]))
   intro h51
   try have p51:=dF h51
   refine kP H (SR fun _ K19=>Rf fd141_2sty rfl (Ro ty9run 0 rfl rfl ?_));clear H;intro a H;refine s_call en113stz H wn rfl (isName_spec _ _ H.hp.ro x.name hs) rfl ?_;clear H;rintro v63 G63 a w rfl hm63 H;refine kH H (Rn rfl (Ra rfl (Kz K19 ?_)));clear H K19;intro a H;refine c_cond H rfl ?_ ?_
   ·intro h60
    try have p60:=dT h60
    refine c_seq (fun _ K20=>?_)
    have e13:ownS l k x=13:=by rw [ownS,ownE,if_neg (by omega),if_neg q1',if_neg q2',if_neg (by omega),if_pos (by simpa using h60)]
    refine kP H (SC (Ra rfl (Kn K20 ?_)));clear H K20;intro a H;refine lr H Tryz.results86 rfl ?_
    first
     | exact H.hp.ret (congrArg vi e0.symm)
     | exact H.hp.ret (congrArg vi e4.symm)
     | exact H.hp.ret (congrArg vi e7.symm)
     | exact H.hp.ret (congrArg vi e13.symm)
     | exact H.hp.ret (congrArg vi e3.symm)
     | exact H.hp.ret (congrArg vi e6.symm)
     | exact H.hp.ret (congrArg vi (by rw [ownS,ownE,if_pos (by omega)]))
   intro h60
   try have p60:=dF h60
   refine c_skip ?_;refine ⟨G63,by exact (H).sub ⟨rfl,rfl,rfl,trivial⟩,?_⟩;exact ⟨by omega,q1',q2',by omega,by simpa using h60,fun b o h=>hm63 b o (hGm6 b o (hGm4 b o h))⟩
  intro h55
  try have p55:=dF h55
  refine kH H (Ks h55 rfl (Ks h55 rfl (Ks h55 rfl (Pf h55 rfl (Ra rfl (Kn K17 ?_))))));clear H K17;intro a H;refine c_cond_f H rfl rfl ?_;refine kP H (SR fun _ K21=>Rf fd141_2sty rfl (Ro ty9run 0 rfl rfl ?_));clear H;intro a H;refine s_call en113stz H wn rfl (isName_spec _ _ H.hp.ro x.name hs) rfl ?_;clear H;rintro v63 G63 a w rfl hm63 H;refine kH H (Rn rfl (Ra rfl (Kz K21 ?_)));clear H K21;intro a H;refine c_cond H rfl ?_ ?_
  ·intro h60
   try have p60:=dT h60
   refine c_seq (fun _ K22=>?_)
   have e13:ownS l k x=13:=by rw [ownS,ownE,if_neg (by omega),if_neg q1',if_neg q2',if_neg (by omega),if_pos (by simpa using h60)]
   refine kP H (SC (Ra rfl (Kn K22 ?_)));clear H K22;intro a H;refine lr H Tryz.results86 rfl ?_
   first
    | exact H.hp.ret (congrArg vi e0.symm)
    | exact H.hp.ret (congrArg vi e4.symm)
    | exact H.hp.ret (congrArg vi e7.symm)
    | exact H.hp.ret (congrArg vi e13.symm)
    | exact H.hp.ret (congrArg vi e3.symm)
    | exact H.hp.ret (congrArg vi e6.symm)
    | exact H.hp.ret (congrArg vi (by rw [ownS,ownE,if_pos (by omega)]))
  intro h60
  try have p60:=dF h60
  refine c_skip ?_;refine ⟨G63,by exact (H).sub ⟨rfl,rfl,rfl,trivial⟩,?_⟩;exact ⟨by omega,q1',q2',by omega,by simpa using h60,fun b o h=>hm63 b o (hGm6 b o (hGm4 b o h))⟩
 clear H;intro gh a w hI H;obtain ⟨g,hgh⟩:∃ x,x=gh:=⟨_,rfl⟩;subst hgh;obtain ⟨q0,q1',q2',q3,q4,hgm⟩:=hI;dsimp only [List.cons_append,List.nil_append,List.append_nil] at H;refine c_seq (fun _ K23=>?_);refine c_seq (fun _ K24=>?_);have hv12:=(hv.mono hgm).pre k (by rw [List.length_map];omega);rw [← List.map_take] at hv12;have hp12:=hp.mono hgm;refine c_drawI (hmx) [[],[],[0,1],[],[3],[],[5],(List.range 7),(List.range 8),(List.range 9),(List.range 9),(List.range 10),(List.range 12)] [12] (by kernel_rfl) (by kernel_rfl) (fun (ix_:Nat) (v:Value) (G:GH)=>match ix_ with|0=>v=.slice (some ⟨b,o,none⟩) l.length c|1=>v=vi k|2=>v=.slice (some ⟨b,o,none⟩) k c|3=>v=.pointer (some ⟨b5,1,none⟩)|4=>v=vi x.kind|5=>v=.pointer (some ⟨b5,2,none⟩)|6=>v=.string x.name|7=>v=.tuple #[vi (max (ixI (findName (l.take k) x.kind x.name)) 0),.bool (findName (l.take k) x.kind x.name).isSome]|8=>v=.tuple #[vi (max (ixI (findName (l.take k) x.kind x.name)) 0),.bool (findName (l.take k) x.kind x.name).isSome]|9=>v=vi (max (ixI (findName (l.take k) x.kind x.name)) 0)|10=>v=.bool (findName (l.take k) x.kind x.name).isSome|11=>v=vi (max (ixI (findName (l.take k) x.kind x.name)) 0)|_=>True) (fun _ _ _ _ _ h=>h) H ?_ ?_
 ·clear H;refine al4 ?_ ?_ ?_ ?_ (al4 ?_ ?_ ?_ ?_ (al4 ?_ ?_ ?_ ?_ (allI_cons ?_ allI_nil)))
  ·exact Z0 rfl rfl fun _ _ _ _ _=>Rm rfl
  ·exact Z0 rfl rfl fun _ _ _ _ _=>Rm rfl
  ·refine Op2 0 66 1 67 rfl rfl fun _ a w G1 hG HT H fin=>?_;refine s_sliceTo un31sty ty141sty k H wn rfl rfl rfl (by omega) rfl ?_;clear H;intro a H;exact fin H iJ rfl
  ·exact Z0 rfl rfl fun _ _ _ _ _=>Rf fd141_1sty rfl
  ·exact Z1 3 69 rfl rfl fun _ _ _ _ _=>Ro ty3run 0 rfl rfl
  ·exact Z0 rfl rfl fun _ _ _ _ _=>Rf fd141_2sty rfl
  ·exact Z1 5 71 rfl rfl fun _ _ _ _ _=>Ro ty9run 0 rfl rfl
  ·refine Op3 2 68 4 70 6 72 rfl rfl fun _ a w G1 hG HT H fin=>?_;refine s_call en114stz H wn rfl (findName_spec _ _ H.hp.ro (l.take k) x.kind x.name _ (hv12.mono hG)) rfl ?_;clear H;rintro v73 G73 a w rfl hGm73 H;exact fin H hGm73 (rfl)
  ·exact Z1 7 73 rfl rfl fun _ _ _ _ _=>Rm rfl
  ·refine Op1 8 65 rfl rfl fun _ a w G1 hG HT H fin=>?_;refine s_extract H wn rfl rfl rfl ?_;clear H;intro a H;exact fin H iJ rfl
  ·refine Op1 8 65 rfl rfl fun _ a w G1 hG HT H fin=>?_;refine s_extract H wn rfl rfl rfl ?_;clear H;intro a H;exact fin H iJ rfl
  ·exact Z1 9 74 rfl rfl fun _ _ _ _ _=>Ra rfl
  exact opB rfl
 clear H;intro a w G hGm12 H hv;obtain ⟨u75,hu75,hp75⟩:=hv 10 75 (by decide) rfl;obtain rfl:u75=.bool (findName (l.take k) x.kind x.name).isSome:=hp75;have H:=H.addS hu75;clear hv;refine kH H (Ra rfl ?_);clear H;intro a H;refine wl_nil ⟨rfl,?_⟩;refine K24 _ _ ?_;clear K24;refine kP H (SR fun _ K25=>Rm rfl (Kz K25 ?_));clear H K25;intro a H;refine c_cond H rfl ?_ ?_
 ·intro h76
  try have p76:=dT h76
  refine c_seq (fun _ K26=>?_)
  have e7:ownS l k x=7:=by rw [ownS,ownE,if_neg (by omega),if_neg q1',if_neg q2',if_neg q3,if_neg q4,if_pos h76]
  refine kP H (SC (Ra rfl (Kn K26 ?_)));clear H K26;intro a H;refine lr H Tryz.results86 rfl ?_
  first
   | exact H.hp.ret (congrArg vi e0.symm)
   | exact H.hp.ret (congrArg vi e4.symm)
   | exact H.hp.ret (congrArg vi e7.symm)
   | exact H.hp.ret (congrArg vi e13.symm)
   | exact H.hp.ret (congrArg vi e3.symm)
   | exact H.hp.ret (congrArg vi e6.symm)
   | exact H.hp.ret (congrArg vi (by rw [ownS,ownE,if_pos (by omega)]))
 intro h76
 try have p76:=dF h76
 refine kP H (Kc K23 (SQ fun _ K27=>SQ fun _ K28=>?_));clear H K23;intro a H
 have q5:¬ (findName (l.take k) x.kind x.name).isSome=true:=by simpa using h76
 have hp15:=hp12.mono hGm12;refine kP H (SC (Rf fd141_5stz rfl (Ro ty23run 0 rfl rfl (Rl un23run rfl (Rm rfl (Kn K28 (SB ?_)))))));clear H K28;intro a H;skip;refine c_loopS (ι:=Nat) (Tc:=[(5,_),(78,_),(79,_)]) (Lc:=[(_,_)]) (fun (gh:Nat)=>[(80,vi gh)]) (fun (gh:Nat)=>[]) (fun (gh:Nat)=>G) (fun (gh:Nat)=>gh≤x.props.length∧(x.props.take gh).any (fun p=>badK p.key)=false) (fun (gh:Nat)=>x.props.length - gh) (0) (by exact (H).sub ⟨rfl,rfl,rfl,rfl,trivial⟩) ?_ ?_
 ·exact ⟨Nat.zero_le _,rfl⟩
 clear H;intro gh a w hI H;obtain ⟨n,hgh⟩:∃ x,x=gh:=⟨_,rfl⟩;subst hgh;obtain ⟨hn,hno⟩:=hI;dsimp only [List.cons_append,List.nil_append,List.append_nil] at H;refine kP H (SR fun _ K29=>Rc rfl (Kz K29 (SQ fun _ K30=>?_)));clear H K29;intro a H;refine c_cond H rfl ?_ ?_
 ·intro h81
  try have p81:=dT h81
  have hn2:n < x.props.length:=by omega
  obtain ⟨pb,po,rfl,hrow2⟩:=prop_at hp15 hn2;have hrow:=hrow2;refine kP H (Kc K30 (SQ fun _ K31=>SB (SR fun _ K32=>Ri un23run ty147run rfl rfl ?_)));clear H K30;intro a H;refine s_loada ty147run (cs:=[_,_]) H wn rfl rfl (fun j v hj=>H.hp.gcell (hrow j v hj)) rfl ?_;clear H;intro a H;refine s_alloc ty147run H wn rfl ?_;clear H;intro b9 a w hb9 H;refine s_store ty147run 0 (vs:=[_,_]) _ H wn rfl rfl rfl rfl rfl rfl rfl rfl ?_;clear H;intro w H;dsimp only [List.set,setRow] at H;refine K32 _ _ ?_;clear K32;refine kP H (SR fun _ K33=>Rf fd147_0prc rfl (Ro ty3run 0 rfl rfl (Rc rfl (Rm rfl ?_))));clear H;intro a H;refine s_split H 87 rfl ?_ ?_
  ·intro h87
   try have p87:=dT h87
   refine kH H (Ks h87 rfl (Ks h87 rfl (Ks h87 rfl (Pt h87 rfl (Kz K33 ?_)))));clear H K33;intro a H;refine c_cond_t H rfl rfl ?_;refine c_seq (fun _ K34=>?_)
   have e4:ownS l k x=4:=by
    rw [ownS,ownE,if_neg (by omega),if_neg q1',if_neg q2',if_neg q3,if_neg q4,if_neg q5,if_pos];rw [List.any_eq_true];exact ⟨x.props[n],List.getElem_mem hn2,by simp [badK];omega⟩
   refine kP H (SC (Ra rfl (Kn K34 ?_)));clear H K34;intro a H;refine lr H Tryz.results86 rfl ?_
   first
    | exact H.hp.ret (congrArg vi e0.symm)
    | exact H.hp.ret (congrArg vi e4.symm)
    | exact H.hp.ret (congrArg vi e7.symm)
    | exact H.hp.ret (congrArg vi e13.symm)
    | exact H.hp.ret (congrArg vi e3.symm)
    | exact H.hp.ret (congrArg vi e6.symm)
    | exact H.hp.ret (congrArg vi (by rw [ownS,ownE,if_pos (by omega)]))
  intro h87
  try have p87:=dF h87
  refine kH H (YF fd147_0prc h87 rfl (YO ty3run 0 h87 rfl rfl (YC h87 rfl (Pf h87 rfl (Kz K33 ?_)))));clear H K33;intro a H;refine c_cond H rfl ?_ ?_
  ·intro h91
   try have p91:=dT h91
   refine c_seq (fun _ K35=>?_)
   have e4:ownS l k x=4:=by
    rw [ownS,ownE,if_neg (by omega),if_neg q1',if_neg q2',if_neg q3,if_neg q4,if_neg q5,if_pos];rw [List.any_eq_true];exact ⟨x.props[n],List.getElem_mem hn2,by simp [badK];omega⟩
   refine kP H (SC (Ra rfl (Kn K35 ?_)));clear H K35;intro a H;refine lr H Tryz.results86 rfl ?_
   first
    | exact H.hp.ret (congrArg vi e0.symm)
    | exact H.hp.ret (congrArg vi e4.symm)
    | exact H.hp.ret (congrArg vi e7.symm)
    | exact H.hp.ret (congrArg vi e13.symm)
    | exact H.hp.ret (congrArg vi e3.symm)
    | exact H.hp.ret (congrArg vi e6.symm)
    | exact H.hp.ret (congrArg vi (by rw [ownS,ownE,if_pos (by omega)]))
  intro h91
  try have p91:=dF h91
  refine kP H (Kc K31 (SC (Rd rfl (Rm rfl ?_))));clear H K31;intro a H;refine wl_nil ?_;refine loop_end ((n+1)) (by exact (H.pickT (Pl:=[_,_]) (Pl':=[_]) [1] (by decide) rfl).sub ⟨rfl,rfl,rfl,rfl,trivial⟩) ?_ ?_
  ·exact ⟨by omega,by rw [List.take_succ_eq_append_getElem hn2,List.any_append,hno];simp [badK];omega⟩
  first|omega|(dsimp only;omega)
 intro h81
 try have p81:=dF h81
 refine c_exit ?_;refine K27 _ _ ?_;clear K27;refine c_seq (fun _ K36=>?_)
 have q6:¬ x.props.any (fun p=>badK p.key)=true:=by
  rw [show x.props.take n=x.props from List.take_of_length_le (by omega)] at hno;rw [hno];decide
 have e0:ownS l k x=chkPS (if x.kind=1 then 2 else 1) x.props:=by rw [ownS,ownE,if_neg (by omega),if_neg q1',if_neg q2',if_neg q3,if_neg q4,if_neg q5,if_neg q6]
 refine c_drawI (hmx) [[],[0],[0,1],[],[3],[0,1,2,3,4],[0,1,2,3,4,5]] [5,6] (by kernel_rfl) (by kernel_rfl) (fun (ix_:Nat) (v:Value) (G:GH)=>match ix_ with|0=>v=.pointer (some ⟨b5,1,none⟩)|1=>v=vi x.kind|2=>v=vi (if x.kind=1 then 2 else 1)|3=>v=.pointer (some ⟨b5,5,none⟩)|4=>v=.slice pA x.props.length pc|_=>True) (fun _ _ _ _ _ h=>h) H ?_ ?_
 ·clear H;refine al4 ?_ ?_ ?_ ?_ (allI_cons ?_ (allI_cons ?_ (allI_cons ?_ allI_nil)))
  ·exact Z0 rfl rfl fun _ _ _ _ _=>Rf fd141_1sty rfl
  ·exact Z1 0 93 rfl rfl fun _ _ _ _ _=>Ro ty3run 0 rfl rfl
  ·refine Op1 1 94 rfl rfl fun _ a w G1 hG HT H fin=>?_;refine s_call en115stz H wn rfl (element_spec _ _ H.hp.ro x.kind) rfl ?_;clear H;rintro v95 G95 a w rfl hGm95 H;exact fin H hGm95 (rfl)
  ·exact Z0 rfl rfl fun _ _ _ _ _=>Rf fd141_5stz rfl
  ·exact Z1 3 96 rfl rfl fun _ _ _ _ _=>Ro ty23run 0 rfl rfl
  ·exact opB rfl
  exact opB rfl
 clear H;intro a w G hGm21 H hv;obtain ⟨u95,hu95,hp95⟩:=hv 2 95 (by decide) rfl;obtain rfl:u95=vi (if x.kind=1 then 2 else 1):=hp95;have H:=H.addS hu95;obtain ⟨u97,hu97,hp97⟩:=hv 4 97 (by decide) rfl;obtain rfl:u97=.slice pA x.props.length pc:=hp97;have H:=H.addS hu97;clear hv;refine s_call en69stz H wn rfl (propCheck_spec _ _ H.hp.ro _ x.props _ (hp15.mono hGm21)) rfl ?_;clear H;rintro v98 G98 a w rfl hm98 H;refine kH H (Ra rfl ?_);clear H;intro a H;refine wl_nil ⟨rfl,?_⟩;refine K36 _ _ ?_;clear K36;refine lr H Tryz.results86 rfl ?_
 first
  | exact H.hp.ret (congrArg vi e0.symm)
  | exact H.hp.ret (congrArg vi e4.symm)
  | exact H.hp.ret (congrArg vi e7.symm)
  | exact H.hp.ret (congrArg vi e13.symm)
  | exact H.hp.ret (congrArg vi e3.symm)
  | exact H.hp.ret (congrArg vi e6.symm)
  | exact H.hp.ret (congrArg vi (by rw [ownS,ownE,if_pos (by omega)]))
end
section
open Go.RowKit
theorem ty33dsc:Ty Tryz.prog 33 1 24 [.slice none 0 0] false:=⟨by kernel_rfl,by kernel_rfl⟩
theorem un33dsc:Tryz.prog.underlying 33=some (.slice 170):=by kernel_rfl
theorem ty170dsc:Ty Tryz.prog 170 6 64 [.int .i64 0,.int .i64 0,.string ⟨#[]⟩,.int .i64 0,.string ⟨#[]⟩,.bool false] true:=⟨by kernel_rfl,by kernel_rfl⟩
theorem fd170_0dsc:Fld Tryz.prog 170 0 0:=⟨by kernel_rfl⟩
theorem fd170_1dsc:Fld Tryz.prog 170 1 1:=⟨by kernel_rfl⟩
theorem en119dsc:∀ args w,(callFunc 119 args).run Tryz.prog w=.ok (.enter 119 args) w:=enters Tryz.func119 rfl (by kernel_rfl)
theorem en93dsc:∀ args w,(callFunc 93 args).run Tryz.prog w=.ok (.enter 93 args) w:=enters Tryz.func93 rfl (by kernel_rfl)
theorem fd170_2dsc:Fld Tryz.prog 170 2 2:=⟨by kernel_rfl⟩
theorem en67dsc:∀ args w,(callFunc 67 args).run Tryz.prog w=.ok (.enter 67 args) w:=enters Tryz.func67 rfl (by kernel_rfl)
theorem fd170_3dsc:Fld Tryz.prog 170 3 3:=⟨by kernel_rfl⟩
theorem fd170_4dsc:Fld Tryz.prog 170 4 4:=⟨by kernel_rfl⟩
theorem en96dsc:∀ args w,(callFunc 96 args).run Tryz.prog w=.ok (.enter 96 args) w:=enters Tryz.func96 rfl (by kernel_rfl)
theorem en95dsc:∀ args w,(callFunc 95 args).run Tryz.prog w=.ok (.enter 95 args) w:=enters Tryz.func95 rfl (by kernel_rfl)
theorem en94dsc:∀ args w,(callFunc 94 args).run Tryz.prog w=.ok (.enter 94 args) w:=enters Tryz.func94 rfl (by kernel_rfl)
theorem en92dsc:∀ args w,(callFunc 92 args).run Tryz.prog w=.ok (.enter 92 args) w:=enters Tryz.func92 rfl (by kernel_rfl)
theorem ints_rep {G:GH} {b:Nat} (l:List Int) (h:G b=some (.cells (l.map vi).toArray 46 (0,0))) (hl:l.length≤maxLen):RepV G (.sl 1 (l.map fun k=>[li k])) (.slice (some ⟨b,0,none⟩) l.length l.length) :=
 RepV.of_row h (by simp) (Nat.le_refl _) hl (List.take_of_length_le (by simp)) (ints_cat G l)
theorem cm_at {G:GH} {l:List CmD} {A:Option Addr} {n c k:Nat} (hv:RepV G (.sl 6 (l.map CmD.dat)) (.slice A n c)) (hk:k < l.length):∃ b o,A=some ⟨b,o,none⟩∧(∀ j u,l[k].cells[j]?=some u→gcell G b (o+k*6+j)=some u)∧RepRow G l[k].dat l[k].cells:=by
 obtain ⟨A',c',he,_,_,hg⟩:=hv.slice
 injection he with e1 e2 e3
 subst e1;obtain ⟨b,o,cs,h1,h2,h3,h4⟩:=hg k l[k].dat (by simp [hk]);have:=cm_of h4;subst this;exact ⟨b,o,h1,h3,h4⟩
theorem cmid_cb {G:GH} {bl:Nat} {l:List CmD} {A:Option Addr} {n c:Nat} (hb:gcell G bl 0=some (.slice A n c)) (hv:RepV G (.sl 6 (l.map CmD.dat)) (.slice A n c)):IxCb (.func (.func 95) #[] #[.pointer (some ⟨bl,0,none⟩)]) G l.length fun k=>(l[k]?.map CmD.id).getD 0:=by
 intro k hk G1 w0 hm hG;refine callV_func (caps:=[.pointer (some ⟨bl,0,none⟩)]) en95dsc ?_;replace hb:=gcell_mono hm hb
 obtain rfl:n=l.length:=by have:=hv.len;simpa using this
 obtain ⟨b,o,rfl,hrow,-⟩:=cm_at (hv.mono hm) hk;have hq:=hrow 0 _ rfl;refine eN [(0,_),(1,_)] Tryz.func95 rfl Tryz.ntmps95 rfl rfl hG ?_;intro a H;refine kP H (SR fun _ K1=>Ra rfl (Kz K1 (SR fun _ K2=>Rg ty33dsc rfl (by assumption) ?_)));clear H K1;intro a H;refine kH H (Rm rfl (Ri un33dsc ty170dsc rfl rfl (Rf fd170_0dsc rfl (Rg ty3run rfl (by assumption) ?_))));clear H;intro a H;refine kH H (Ra rfl (Kz K2 ?_));clear H K2;intro a H;refine lr H Tryz.results95 rfl ?_;exact H.hp.ret (by dsimp only;rw [List.getElem?_eq_getElem hk];rfl)
theorem cmp_test {G:GH} {bc:Nat} {x:CmD} (hb:gcell G bc 1=some (vi x.parent)) (y:CmD):Tester (.func (.func 94) #[] #[.pointer (some ⟨bc,0,none⟩)]) G y.dat (decide (y.id=x.parent)):=by
 intro G1 w0 cs hm hG hr;refine callV_func (caps:=[.pointer (some ⟨bc,0,none⟩)]) en94dsc ?_;obtain rfl:=cm_of hr;replace hb:=gcell_mono hm hb;refine eN [(0,_),(1,_)] Tryz.func94 rfl Tryz.ntmps94 rfl rfl hG ?_;intro a H;refine c_seqR (fun _ K1=>?_);refine s_box (cs:=[_,_,_,_,_,_]) H wn rfl rfl rfl ?_;clear H;intro b2 a w hb2 H;refine kH H (Ra rfl (Kz K1 (SR fun _ K2=>Rf fd170_0dsc rfl (Ro ty3run 0 rfl rfl (Rf fd170_1dsc rfl (Rg ty3run rfl (by assumption) ?_))))));clear H K1;intro a H;refine kH H (Rc rfl (Ra rfl (Kz K2 ?_)));clear H K2;intro a H;refine lr H Tryz.results94 rfl ?_;exact H.hp.ret rfl
theorem indexCm_spec (G:GH) (w0:World) (hG:Hold G w0) (l:List CmD) (p:CmD→Bool) (v fv:Value) (hv:RepV G (.sl 6 (l.map CmD.dat)) v) (hf:∀ x∈l,Tester fv G x.dat (p x)) :
  Calls Tryz.prog 119 #[v,fv] w0 (Ret w0 G fun u G'=>u=vi (ixI (l.findIdx? p))):=by
 obtain ⟨A,c,rfl,hc1,hc2,hg⟩:=hv.slice;have hml:maxLen=9223372036854775807:=rfl;rw [List.length_map] at *;refine eN [(0,_),(1,_)] Tryz.func119 rfl Tryz.ntmps119 rfl rfl hG ?_;intro a H;refine kP H (SR fun _ K1=>Ra rfl (Kz K1 (SQ fun _ K2=>SR fun _ K3=>Rm rfl (Rl un33dsc rfl (Rm rfl (Kz K3 (SB ?_)))))));clear H K1 K3;intro a H;skip;refine c_loopS (ι:=Nat × GH) (Tc:=[(0,_),(1,_),(7,_)]) (Lc:=[]) (fun (gh:Nat × GH)=>[(8,vi gh.1)]) (fun (gh:Nat × GH)=>[]) (fun (gh:Nat × GH)=>gh.2) (fun (gh:Nat × GH)=>gh.1≤l.length∧(l.take gh.1).findIdx? p=none∧(∀ b o,G b=some o→gh.2 b=some o)) (fun (gh:Nat × GH)=>l.length - gh.1) ((0,G)) (by exact (H).sub ⟨rfl,rfl,rfl,rfl,trivial⟩) ?_ ?_
 ·exact ⟨by omega,rfl,fun _ _ h=>h⟩
 clear H;intro gh a w hI H;obtain ⟨k,g⟩:=gh;dsimp only at hI H;obtain ⟨hk,hno,hgm⟩:=hI;dsimp only [List.cons_append,List.nil_append,List.append_nil] at H;refine kP H (SR fun _ K4=>Rc rfl (Kz K4 (SQ fun _ K5=>?_)));clear H K4;intro a H;refine c_cond H rfl ?_ ?_
 ·intro h9
  try have p9:=dT h9
  have hk2:k < l.length:=by omega
  obtain ⟨b,o,rfl,hrow,hrep⟩:=cm_at hv hk2;refine kP H (Kc K5 (SQ fun _ K6=>SB (SR fun _ K7=>Rm rfl (Ra rfl (Kz K7 (SR fun _ K8=>Rm rfl (Rm rfl (Rm rfl (Ri un33dsc ty170dsc rfl rfl ?_)))))))));clear H K5 K7;intro a H;refine s_loada ty170dsc (cs:=l[k].cells) H wn rfl rfl (fun j v hj=>H.hp.gcell (gcell_mono hgm (hrow j v hj))) rfl ?_;clear H;intro a H;refine s_callv0 H wn rfl rfl (hf _ (List.getElem_mem hk2) _ _ _ hgm H.hp.ro (hrep.mono hgm)) rfl ?_;clear H;rintro v16 G16 a w rfl hm16 H;refine K8 _ _ ?_;clear K8;refine c_cond H rfl ?_ ?_
  ·intro h16
   try have p16:=dT h16
   refine kP H (SR fun _ K9=>Rm rfl (Ra rfl (Kz K9 ?_)));clear H K9;intro a H;refine lr H Tryz.results119 rfl ?_
   first
    | exact H.hp.ret (by rw [idx_stop hk2 hno h16];rfl)
    | exact H.hp.ret (by rw [show l.take k=l from List.take_of_length_le (by omega)] at hno;rw [hno];rfl)
  intro h16
  try have p16:=dF h16
  refine kP H (Kc K6 (SC (Rd rfl (Rm rfl ?_))));clear H K6;intro a H;refine wl_nil ?_;refine loop_end ((k+1,G16)) (by exact (H).sub ⟨rfl,rfl,rfl,rfl,trivial⟩) ?_ ?_
  ·(try dsimp only);exact ⟨by omega,idx_next hk2 hno h16,fun b o h=>hm16 b o (hgm b o h)⟩
  first|omega|(dsimp only;omega)
 intro h9
 try have p9:=dF h9
 refine c_exit ?_;refine K2 _ _ ?_;clear K2;refine kP H (SR fun _ K10=>Ra rfl (Kz K10 ?_));clear H K10;intro a H;refine lr H Tryz.results119 rfl ?_
 first
  | exact H.hp.ret (by rw [idx_stop hk2 hno h16];rfl)
  | exact H.hp.ret (by rw [show l.take k=l from List.take_of_length_le (by omega)] at hno;rw [hno];rfl)
theorem containsCm_spec (G:GH) (w0:World) (hG:Hold G w0) (l:List CmD) (p:CmD→Bool) (v fv:Value) (hv:RepV G (.sl 6 (l.map CmD.dat)) v) (hf:∀ x∈l,Tester fv G x.dat (p x)) :
  Calls Tryz.prog 93 #[v,fv] w0 (Ret w0 G fun u G'=>u=.bool (l.findIdx? p).isSome):=by
 obtain ⟨A,c,rfl,hc1,hc2,-⟩:=hv.slice;rw [List.length_map] at *;refine eN [(0,_),(1,_)] Tryz.func93 rfl Tryz.ntmps93 rfl rfl hG ?_;intro a H;refine kP H (SR fun _ K1=>Ra rfl (Kz K1 (SR fun _ K2=>Rm rfl (Rm rfl ?_))));clear H K1;intro a H;refine s_call en119dsc H wn rfl (indexCm_spec _ _ H.hp.ro l p _ _ hv hf) rfl ?_;clear H;rintro v7 G7 a w rfl hm7 H;refine kH H (Rc rfl (Ra rfl (Kz K2 ?_)));clear H K2;intro a H;refine lr H Tryz.results93 rfl ?_;exact H.hp.ret (congrArg Value.bool (ixI_some _))
/-- Whether what a comment answers stands before it. -/
def befB (l:List CmD) (i:Nat) (x:CmD):Bool:=decide (x.parent=0) || ((l.take i).findIdx? fun y=>decide (y.id=x.parent)).isSome
def cmE0 (l:List CmD) (i:Nat) (x:CmD):Int:=firstE [incE (fun k=>(l[k]?.map CmD.id).getD 0) i,whenE (!befB l i x) 8,whenE (!autS x.author) 39,whenE (!decide (0≤x.time∧x.time≤1099511627776)) 40,txE x.text]
def cmE (l:List CmD) (i:Nat):Int:=match l[i]? with|some x=>cmE0 l i x|none=>0
theorem cm_cb {G:GH} {bl:Nat} {l:List CmD} {A:Option Addr} {n c:Nat} (hb:gcell G bl 0=some (.slice A n c)) (hv:RepV G (.sl 6 (l.map CmD.dat)) (.slice A n c)) (hl:l.length≤4294967296) (ht:∀ x∈l,x.author.size < 4611686018427387904∧x.text.size < 4611686018427387904):IxCb (.func (.func 92) #[] #[.pointer (some ⟨bl,0,none⟩)]) G l.length (cmE l):=by
 intro k hk G1 w0 hm hG;refine callV_func (caps:=[.pointer (some ⟨bl,0,none⟩)]) en92dsc ?_;replace hb:=gcell_mono hm hb;replace hv:=hv.mono hm;have hcb:=cmid_cb hb hv;obtain ⟨_,_,hee,hvc,-,-⟩:=hv.slice
 injection hee with _ _ hcc
 subst hcc;rw [List.length_map] at hvc
 obtain rfl:n=l.length:=by have:=hv.len;simpa using this
 obtain ⟨b,o,rfl,hrow,hrep⟩:=cm_at hv hk;have hte:=ht _ (List.getElem_mem hk);obtain ⟨x,hx⟩:∃ x,x=l[k]:=⟨_,rfl⟩;rw [← hx] at hrow hte
 have he:cmE l k=cmE0 l k x:=by unfold cmE;rw [List.getElem?_eq_getElem hk,hx]
 refine eN [(0,_),(1,_)] Tryz.func92 rfl Tryz.ntmps92 rfl rfl hG ?_;intro a H;refine kP H (SR fun _ K1=>Ra rfl (Kz K1 (SR fun _ K2=>Rg ty33dsc rfl (by assumption) ?_)));clear H K1;intro a H;refine kH H (Rm rfl (Ri un33dsc ty170dsc rfl rfl ?_));clear H;intro a H;refine s_loada ty170dsc (cs:=x.cells) H wn rfl rfl (fun j v hj=>H.hp.gcell (hrow j v hj)) rfl ?_;clear H;intro a H;refine s_alloc ty170dsc H wn rfl ?_;clear H;intro b4 a w hb4 H;refine s_store ty170dsc 0 (vs:=[_,_,_,_,_,_]) _ H wn rfl rfl rfl rfl rfl rfl rfl rfl ?_;clear H;intro w H;dsimp only [List.set,setRow] at H;obtain ⟨Ga,hma,hb4',H⟩:=H.giveBox
 have hcell:∀ (j:Nat) (u:Value),x.cells[j]?=some u→gcell Ga b4 j=some u:=fun j u hj=>by unfold gcell;rw [hb4'];simpa using hj
 have q1:=hcell 1 _ rfl;have hbA:=gcell_mono hma hb;have hv18:=(hv.mono hma).pre k (by rw [List.length_map];omega);rw [← List.map_take] at hv18;refine K2 _ _ ?_;clear K2;refine c_seqJ (ι:=Bool × GH) (Tc:=[(0,_),(1,_),(4,_)]) (Lc:=[]) (fun (gh:Bool × GH)=>[(5,.bool gh.1)]) (fun (gh:Bool × GH)=>[]) (fun (gh:Bool × GH)=>gh.2) (fun (gh:Bool × GH)=>gh.1=befB l k x∧(∀ b o,Ga b=some o→gh.2 b=some o)) (by exact (H).sub ⟨rfl,rfl,rfl,trivial⟩) ?_ ?_
 ·skip;refine kP H (SC (Rf fd170_1dsc rfl (Rg ty3run rfl (by assumption) ?_)));clear H;intro a H;refine kH H (Rc rfl (Rm rfl ?_));clear H;intro a H;refine s_split H 13 rfl ?_ ?_
  ·intro h13
   try have p13:=dT h13
   refine kH H (Ks h13 rfl (Ks h13 rfl (Ks h13 rfl (Ks h13 rfl (Ks h13 rfl (Pt h13 rfl (Ra rfl ?_)))))));clear H;intro a H;refine wl_nil ?_;refine ⟨(_,_),by exact (H).sub ⟨rfl,rfl,rfl,rfl,trivial⟩,?_⟩;(try dsimp only)
   first
   | exact ⟨by unfold befB;rw [decide_eq_true (by assumption)];rfl,fun _ _ h=>h⟩
   | exact ⟨by unfold befB;rw [decide_eq_false (by assumption)];rfl,hm18⟩
  intro h13
  try have p13:=dF h13
  refine kH H (YR ty33dsc h13 rfl (by assumption) ?_);clear H;intro a H;refine kH H (YM h13 rfl ?_);clear H;intro a H;refine s_sliceTo un33dsc ty170dsc k H (wg H rfl rfl h13) rfl rfl rfl (by omega) rfl ?_;clear H;intro a H;refine s_makeFunc H (wg H rfl rfl h13) rfl rfl ?_;clear H;intro a H;refine s_call en93dsc H (wg H rfl rfl h13) rfl (containsCm_spec _ _ H.hp.ro (l.take k) (fun y=>decide (y.id=x.parent)) _ _ hv18 (fun y _=>cmp_test q1 y)) rfl ?_;clear H;rintro v18 G18 a w rfl hm18 H;refine kH H (Pf h13 rfl (Ra rfl ?_));clear H;intro a H;refine wl_nil ?_;refine ⟨(_,_),by exact (H).sub ⟨rfl,rfl,rfl,rfl,trivial⟩,?_⟩;(try dsimp only)
  first
  | exact ⟨by unfold befB;rw [decide_eq_true (by assumption)];rfl,fun _ _ h=>h⟩
  | exact ⟨by unfold befB;rw [decide_eq_false (by assumption)];rfl,hm18⟩
 clear H;intro gh a w hI H;obtain ⟨bf,g⟩:=gh;dsimp only at hI H;obtain ⟨hbf,hgm⟩:=hI;replace hcell:=fun j u hj=>gcell_mono hgm (hcell j u hj);replace hcb:=(hcb.mono hma).mono hgm;dsimp only [List.cons_append,List.nil_append,List.append_nil] at H;refine c_seq (fun _ K3=>?_);have H:=H.sub (T':=[(0,_),(1,_),(4,_),(5,_)]) ⟨rfl,rfl,rfl,rfl,trivial⟩;refine c_drawI (hmx) [[],[],[0,1],[],[3],[0,1,2,3,4],[],[6],(List.range 8),(List.range 9),(List.range 10),[],[11],(List.range 13),(List.range 14),(List.range 15),[],[16],(List.range 18),(List.range 19),(List.range 20),(List.range 21)] [19,20,21] (by kernel_rfl) (by kernel_rfl) (fun (ix_:Nat) (v:Value) (G:GH)=>match ix_ with|0=>v=vi k|1=>v=.func (.func 95) #[] #[.pointer (some ⟨bl,0,none⟩)]|2=>v=vi (incE (fun k=>(l[k]?.map CmD.id).getD 0) k)|3=>v=.bool bf|4=>v=.bool (!bf)|5=>v=vi (whenE (!bf) 8)|6=>v=.pointer (some ⟨b4,2,none⟩)|7=>v=.string x.author|8=>v=.bool (autS x.author)|9=>v=.bool (!autS x.author)|10=>v=vi (whenE (!autS x.author) 39)|11=>v=.pointer (some ⟨b4,3,none⟩)|12=>v=vi x.time|13=>v=.bool (decide (0≤x.time∧x.time≤1099511627776))|14=>v=.bool (!decide (0≤x.time∧x.time≤1099511627776))|15=>v=vi (whenE (!decide (0≤x.time∧x.time≤1099511627776)) 40)|16=>v=.pointer (some ⟨b4,4,none⟩)|17=>v=.string x.text|18=>v=vi (txE x.text)|_=>True) (fun _ _ _ _ _ h=>h) H ?_ ?_
 ·clear H;refine al4 ?_ ?_ ?_ ?_ (al4 ?_ ?_ ?_ ?_ (al4 ?_ ?_ ?_ ?_ (al4 ?_ ?_ ?_ ?_ (al4 ?_ ?_ ?_ ?_ (allI_cons ?_ (allI_cons ?_ allI_nil))))))
  ·exact Z0 rfl rfl fun _ _ _ _ _=>Rm rfl
  ·refine Op0 rfl fun _ a w G1 hG HT H fin=>?_;refine s_makeFunc H wn rfl rfl ?_;clear H;intro a H;exact fin H iJ rfl
  ·refine Op2 0 20 1 21 rfl rfl fun _ a w G1 hG HT H fin=>?_;refine s_call en65dst H wn rfl (increasing_spec _ _ H.hp.ro k _ _ (by omega) (fun i hi=>(hcb.mono hG) i (by omega))) rfl ?_;clear H;rintro v22 G22 a w rfl hGm22 H;exact fin H hGm22 (rfl)
  ·exact Z0 rfl rfl fun _ _ _ _ _=>Rm rfl
  ·exact Z1 3 23 rfl rfl fun _ _ _ _ _=>Rn rfl
  ·refine Op1 4 24 rfl rfl fun _ a w G1 hG HT H fin=>?_;refine s_call en44nam H wn rfl (when_spec _ _ H.hp.ro _ 8) rfl ?_;clear H;rintro v25 G25 a w ⟨rfl,-⟩ hGm25 H;exact fin H hGm25 (rfl)
  ·exact Z0 rfl rfl fun _ _ _ _ _=>Rf fd170_2dsc rfl
  ·exact Op1 6 26 rfl rfl fun _ _ _ _ hG _ H fin=>kH H (Rg ty9run rfl (gcell_mono hG (hcell 2 _ rfl)) fun _ H=>fin H iJ rfl)
  ·refine Op1 7 27 rfl rfl fun _ a w G1 hG HT H fin=>?_;refine s_call en67dsc H wn rfl (author_spec _ _ H.hp.ro x.author hte.1) rfl ?_;clear H;rintro v28 G28 a w ⟨rfl,-⟩ hGm28 H;exact fin H hGm28 (rfl)
  ·exact Z1 8 28 rfl rfl fun _ _ _ _ _=>Rn rfl
  ·refine Op1 9 29 rfl rfl fun _ a w G1 hG HT H fin=>?_;refine s_call en44nam H wn rfl (when_spec _ _ H.hp.ro _ 39) rfl ?_;clear H;rintro v30 G30 a w ⟨rfl,-⟩ hGm30 H;exact fin H hGm30 (rfl)
  ·exact Z0 rfl rfl fun _ _ _ _ _=>Rf fd170_3dsc rfl
  ·exact Op1 11 31 rfl rfl fun _ _ _ _ hG _ H fin=>kH H (Rg ty3run rfl (gcell_mono hG (hcell 3 _ rfl)) fun _ H=>fin H iJ rfl)
  ·refine Op1 12 32 rfl rfl fun _ a w G1 hG HT H fin=>?_;refine s_call en68fst H wn rfl (in_spec _ _ H.hp.ro x.time 0 1099511627776) rfl ?_;clear H;rintro v33 G33 a w ⟨rfl,-⟩ hGm33 H;exact fin H hGm33 (rfl)
  ·exact Z1 13 33 rfl rfl fun _ _ _ _ _=>Rn rfl
  ·refine Op1 14 34 rfl rfl fun _ a w G1 hG HT H fin=>?_;refine s_call en44nam H wn rfl (when_spec _ _ H.hp.ro _ 40) rfl ?_;clear H;rintro v35 G35 a w ⟨rfl,-⟩ hGm35 H;exact fin H hGm35 (rfl)
  ·exact Z0 rfl rfl fun _ _ _ _ _=>Rf fd170_4dsc rfl
  ·exact Op1 16 36 rfl rfl fun _ _ _ _ hG _ H fin=>kH H (Rg ty9run rfl (gcell_mono hG (hcell 4 _ rfl)) fun _ H=>fin H iJ rfl)
  ·refine Op1 17 37 rfl rfl fun _ a w G1 hG HT H fin=>?_;refine s_call en96dsc H wn rfl (text_spec1 _ _ H.hp.ro x.text hte.2) rfl ?_;clear H;rintro v38 G38 a w rfl hGm38 H;exact fin H hGm38 (rfl)
  ·exact opB rfl
  ·exact opB rfl
  exact opB rfl
 clear H;intro a w G hGm3 H hv;obtain ⟨u22,hu22,hp22⟩:=hv 2 22 (by decide) rfl;obtain rfl:u22=vi (incE (fun k=>(l[k]?.map CmD.id).getD 0) k):=hp22;have H:=H.addS hu22;obtain ⟨u25,hu25,hp25⟩:=hv 5 25 (by decide) rfl;obtain rfl:u25=vi (whenE (!bf) 8):=hp25;have H:=H.addS hu25;obtain ⟨u30,hu30,hp30⟩:=hv 10 30 (by decide) rfl;obtain rfl:u30=vi (whenE (!autS x.author) 39):=hp30;have H:=H.addS hu30;obtain ⟨u35,hu35,hp35⟩:=hv 15 35 (by decide) rfl;obtain rfl:u35=vi (whenE (!decide (0≤x.time∧x.time≤1099511627776)) 40):=hp35;have H:=H.addS hu35;obtain ⟨u38,hu38,hp38⟩:=hv 18 38 (by decide) rfl;obtain rfl:u38=vi (txE x.text):=hp38;have H:=H.addS hu38;clear hv;refine s_buildSlice un127fst ty46idx [_,_,_,_,_] [_,_,_,_,_] H wn rfl rfl rfl rfl rfl (by intro i q h;match i,h with|0,h=>exact h|1,h=>exact h|2,h=>exact h|3,h=>exact h|4,h=>exact h|n+5,h=>simp at h) rfl rfl ?_;clear H;intro b39 a w hb39 H;obtain ⟨G39,hm39,hb39',H⟩:=H.giveBox;refine s_call en39nam H wn rfl (first_spec1 _ _ H.hp.ro _ _ (ints_rep [incE (fun k=>(l[k]?.map CmD.id).getD 0) k,whenE (!bf) 8,whenE (!autS x.author) 39,whenE (!decide (0≤x.time∧x.time≤1099511627776)) 40,txE x.text] hb39' (show 5≤maxLen by decide))) rfl ?_;clear H;rintro v40 _ a w ⟨rfl,rfl⟩ - H;refine kH H (Ra rfl ?_);clear H;intro a H;refine wl_nil ⟨rfl,?_⟩;refine K3 _ _ ?_;clear K3;refine lr H Tryz.results92 rfl ?_;exact H.hp.ret (by rw [he,cmE0,← hbf])
def chkCms (l:List CmD):Int:=firstE [whenE (decide (1024 < (l.length:Int))) 9,allE (cmE l) (min l.length 1024)]
theorem checkComments_spec (G:GH) (w0:World) (hG:Hold G w0) (l:List CmD) (v:Value) (hv:RepV G (.sl 6 (l.map CmD.dat)) v) (hl:l.length≤4294967296) (ht:∀ x∈l,x.author.size < 4611686018427387904∧x.text.size < 4611686018427387904) :
  Calls Tryz.prog 61 #[v] w0 (Ret w0 G fun u G'=>u=vi (chkCms l)):=by
 obtain ⟨A,c,rfl,hc1,hc2,-⟩:=hv.slice;rw [List.length_map] at *;refine eN [(0,_)] Tryz.func61 rfl Tryz.ntmps61 rfl rfl hG ?_;intro a H;refine c_seqR (fun _ K1=>?_);refine s_box (cs:=[_]) H wn rfl rfl rfl ?_;clear H;intro b1 a w hb1 H;refine kH H (Ra rfl (Kz K1 (SQ fun _ K2=>?_)));clear H K1;intro a H;have H:=H.sub (T':=[(1,_)]) ⟨rfl,trivial⟩;obtain ⟨Ga,hma,hb1',H⟩:=H.giveBox
 have hbl:gcell Ga b1 0=some (.slice A l.length c):=by unfold gcell;rw [hb1'];rfl
 have hcb:=cm_cb hbl (hv.mono hma) hl ht;refine c_drawI (hmx) [[],[0],[0,1],[0,1,2],[],[4],[4,5],[],(List.range 8),(List.range 9),(List.range 10),(List.range 11)] [9,10,11] (by kernel_rfl) (by kernel_rfl) (fun (ix_:Nat) (v:Value) (G:GH)=>match ix_ with|0=>v=.slice A l.length c|1=>v=vi l.length|2=>v=.bool (decide (1024 < (l.length:Int)))|3=>v=vi (whenE (decide (1024 < (l.length:Int))) 9)|4=>v=.slice A l.length c|5=>v=vi l.length|6=>v=vi ((min l.length 1024:Nat):Int)|7=>v=.func (.func 92) #[] #[.pointer (some ⟨b1,0,none⟩)]|8=>v=vi (allE (cmE l) (min l.length 1024))|_=>True) (fun _ _ _ _ _ h=>h) H ?_ ?_
 ·clear H;refine al4 ?_ ?_ ?_ ?_ (al4 ?_ ?_ ?_ ?_ (al4 ?_ ?_ ?_ ?_ allI_nil))
  ·exact Op0 rfl fun _ _ _ _ hG _ H fin=>kH H (Rg ty33dsc rfl (gcell_mono hG hbl) fun _ H=>fin H iJ rfl)
  ·exact Z1 0 3 rfl rfl fun _ _ _ _ _=>Rl un33dsc rfl
  ·exact Z1 1 4 rfl rfl fun _ _ _ _ _=>Rc rfl
  ·refine Op1 2 5 rfl rfl fun _ a w G1 hG HT H fin=>?_;refine s_call en44nam H wn rfl (when_spec _ _ H.hp.ro _ 9) rfl ?_;clear H;rintro v6 G6 a w ⟨rfl,-⟩ hGm6 H;exact fin H hGm6 (rfl)
  ·exact Op0 rfl fun _ _ _ _ hG _ H fin=>kH H (Rg ty33dsc rfl (gcell_mono hG hbl) fun _ H=>fin H iJ rfl)
  ·exact Z1 4 7 rfl rfl fun _ _ _ _ _=>Rl un33dsc rfl
  ·refine Op1 5 8 rfl rfl fun _ a w G1 hG HT H fin=>?_;refine s_min H wn rfl rfl rfl ?_;clear H;intro a H;exact fin H iJ (congrArg vi (by omega))
  ·refine Op0 rfl fun _ a w G1 hG HT H fin=>?_;refine s_makeFunc H wn rfl rfl ?_;clear H;intro a H;exact fin H iJ rfl
  ·refine Op2 6 9 7 10 rfl rfl fun _ a w G1 hG HT H fin=>?_;refine s_call en63dst H wn rfl (all_spec _ _ H.hp.ro (min l.length 1024) (cmE l) _ (by omega) ((hcb.mono hG).le (Nat.min_le_left _ _))) rfl ?_;clear H;rintro v11 G11 a w rfl hGm11 H;exact fin H hGm11 (rfl)
  ·exact opB rfl
  ·exact opB rfl
  exact opB rfl
 clear H;intro a w G hGm1 H hv;obtain ⟨u6,hu6,hp6⟩:=hv 3 6 (by decide) rfl;obtain rfl:u6=vi (whenE (decide (1024 < (l.length:Int))) 9):=hp6;have H:=H.addS hu6;obtain ⟨u11,hu11,hp11⟩:=hv 8 11 (by decide) rfl;obtain rfl:u11=vi (allE (cmE l) (min l.length 1024)):=hp11;have H:=H.addS hu11;clear hv;refine s_buildSlice un127fst ty46idx [_,_] [_,_] H wn rfl rfl rfl rfl rfl (by intro i q h;match i,h with|0,h=>exact h|1,h=>exact h|n+2,h=>simp at h) rfl rfl ?_;clear H;intro b12 a w hb12 H;obtain ⟨G12,hm12,hb12',H⟩:=H.giveBox;refine s_call en39nam H wn rfl (first_spec1 _ _ H.hp.ro _ _ (two_rep hb12')) rfl ?_;clear H;rintro v13 _ a w ⟨rfl,rfl⟩ - H;refine kH H (Ra rfl ?_);clear H;intro a H;refine wl_nil ⟨rfl,?_⟩;refine K2 _ _ ?_;clear K2;refine lr H Tryz.results61 rfl ?_;exact H.hp.ret rfl
end
section
open Go.RowKit
/-- The map that tells the place of each number of a list. -/
def mapI:Nat→List Int→List MapEntry
 | _,[]=>[]
 | i,k :: r=>⟨.int .i64 k,.int .i64 (i:Int),i⟩ :: mapI (i+1) r
theorem mapI_snoc (x:Int):∀ (i:Nat) (l:List Int),mapI i (l++[x])=mapI i l++[⟨.int .i64 x,.int .i64 ((i+l.length:Nat):Int),i+l.length⟩]
 | _,[]=>rfl
 | i,k :: r=>by
  rw [List.cons_append,mapI,mapI_snoc x (i+1) r,mapI,List.cons_append,List.length_cons,show i+1+r.length=i+(r.length+1) by omega]
def idxI (x:Int):Nat→List Int→Option Nat
 | _,[]=>none
 | i,k :: r=>if k=x then some i else idxI x (i+1) r
theorem idxI_ge {x:Int}:∀ {l:List Int} {i n:Nat},idxI x i l=some n→i≤n
 | [],_,_,h=>by cases h
 | k :: r,i,n,h=>by
  rw [idxI] at h;split at h
  ·cases h;exact Nat.le_refl _
  ·have:=idxI_ge h;omega
theorem idxI_none {x:Int}:∀ {l:List Int} {i:Nat},x∉l→idxI x i l=none
 | [],_,_=>rfl
 | k :: r,i,h=>by
  rw [idxI,if_neg (fun e=>h (by simp [e])),idxI_none (fun hm=>h (List.mem_cons_of_mem _ hm))]
theorem findNow_mapI (x:Int):∀ (i j:Nat) (l:List Int),Instr.findNow (.int .i64) (.int .i64 x) (mapI i l) j=some ((idxI x i l).map fun n=>(j+(n - i),.int .i64 (n:Int)))
 | _,_,[]=>rfl
 | i,j,k :: r=>by
  have ih:=findNow_mapI x (i+1) (j+1) r
  by_cases e:k=x
  ·subst e
   simp only [mapI,Instr.findNow,Instr.sameNow,if_pos,idxI,beq_self_eq_true]
   simp
  ·have hb:(x == k)=false:=by simp;exact fun h=>e h.symm
   simp only [mapI,Instr.findNow,Instr.sameNow,if_pos,hb,idxI,if_neg e,ih]
   cases h:idxI x (i+1) r with
   | none=>rfl
   | some n =>
    have:=idxI_ge h
    simp only [Option.map_some,Option.some.injEq,Prod.mk.injEq,and_true]
    omega
abbrev bMapI (b:Nat) (l:List Int):Nat × Obj:=(b,.map (mapI 0 l).toArray l.length)
theorem mapI_push (l:List Int) (x:Int):(mapI 0 l).toArray.push ⟨.int .i64 x,.int .i64 (l.length:Int),l.length⟩=(mapI 0 (l++[x])).toArray:=by
 rw [mapI_snoc,List.push_toArray,Nat.zero_add]
end
section
open Go.RowKit
section
variable {P:Program} {N:Nat} {D:List Deferred} {w0 w w':World} {F:Nat→Prop} {G0 G G':GH} {L L' Li Lo:OL} {T:List (Nat × Value)} {a a':Act} {Q:Exit→Act→World→Prop}
variable {r:Option Nat} {ops:Array Oper} {rest:List Oper}
/-- gv, that owns the blocks B, calls what it is handed at each of xs in turn, till it says no. -/
def IterO (P:Program) (Gi:GH) (B:OL) (gv:Value) (xs:List AP):Prop :=
 ∀ (J:Nat→GH→OL→Prop) (Jx:GH→OL→Prop) (fv:Value) (G:GH) (L:OL) (w:World),fv.cells=#[fv]→(∀ b o,Gi b=some o→G b=some o)→JMono J→XMono Jx→J 0 G L→Owns G (B++L) w→Cback P fv G xs J Jx →
  CallV P gv [fv] w (RetL w G (B++L) fun _ G' L'=>J xs.length G' L'∨Jx G' L')
theorem IterO.mono {Gi Gi':GH} {B:OL} {gv:Value} {xs:List AP} (h:IterO P Gi B gv xs) (hm:∀ b o,Gi b=some o→Gi' b=some o):IterO P Gi' B gv xs :=
 fun J Jx fv G L w h0 h1=>h J Jx fv G L w h0 fun b o hb=>h1 b o (hm b o hb)
end
end
section
open Go.RowKit
section
variable {P:Program} {N:Nat} {D:List Deferred} {w0 w w':World} {F:Nat→Prop} {G0 G G':GH} {L L' Li Lo:OL} {T:List (Nat × Value)} {a a':Act} {Q:Exit→Act→World→Prop}
variable {r:Option Nat} {ops:Array Oper} {rest:List Oper}
/-- gv, that owns the blocks B, calls what it is handed at each of xs in turn, till it says no; where fin is false, it is only said what it does where it is stopped by then. -/
def IterI (P:Program) (Gi:GH) (B:OL) (gv:Value) (xs:List AP) (fin:Bool):Prop :=
 ∀ (J:Nat→GH→OL→Prop) (Jx:GH→OL→Prop) (fv:Value) (G:GH) (L:OL) (w:World),fv.cells=#[fv]→(∀ b o,Gi b=some o→G b=some o)→JMono J→XMono Jx→J 0 G L→Owns G (B++L) w→Cback P fv G xs J Jx→(fin=false→∀ g l,¬ J xs.length g l) →
  CallV P gv [fv] w (RetL w G (B++L) fun _ G' L'=>J xs.length G' L'∨Jx G' L')
theorem IterI.mono {Gi Gi':GH} {B:OL} {gv:Value} {xs:List AP} {fin:Bool} (h:IterI P Gi B gv xs fin) (hm:∀ b o,Gi b=some o→Gi' b=some o):IterI P Gi' B gv xs fin :=
 fun J Jx fv G L w h0 h1=>h J Jx fv G L w h0 fun b o hb=>h1 b o (hm b o hb)
theorem c_rangeI {fin:Bool} {B:OL} {gop:Operand} {ps:List Nat} {assign body:Code} {gf:FuncId} {caps:List Value} {xs:List AP} {Gi:GH}
  (H:St N D w0 F G0 G (B++L) T a w) (hg:ev T gop=some (.func (.func gf) #[] caps.toArray)) (en:∀ args w,(callFunc gf args).run P w=.ok (.enter gf args) w) (hit:IterI P Gi B (.func (.func gf) #[] caps.toArray) xs fin) (hGi:∀ b o,Gi b=some o→G b=some o)
  (hps:ps.all (Nat.blt · N)=true) (hlen:∀ k args g,AtAP xs k args g→args.length=ps.length)
  (J:Nat→GH→OL→Prop) (Jx:Code→GH→OL→Prop) (hno:fin=false→∀ g l,¬ J xs.length g l) (hJm:JMono J) (hJx:∀ c,XMono (Jx c)) (h0:J 0 G L) (hround:RoundOk P N ps assign body T G J Jx xs)
  (hdone:∀ Dk G1 L1 a1 w1,(∀ b o,G b=some o→G1 b=some o)→J xs.length G1 L1→St N ({ target:=.collected Dk,args:=#[] } :: D) w0 F G0 G1 ((Dk,.deferred (some [])) :: L1) T a1 w1→Q .normal a1 w1)
  (hstop:∀ Dk c G1 L1 a1 w1,(∀ b o,G b=some o→G1 b=some o)→Jx c G1 L1→St N ({ target:=.collected Dk,args:=#[] } :: D) w0 F G0 G1 ((Dk,.deferred (some [])) :: L1) T a1 w1→WP none P c Q a1 w1) :
  WP none P (.rangeFunc gop ps.toArray assign body) Q a w:=by
 refine wpIn_rangeFunc ?_
 intro fn _
 have hev:=H.ev hg
 let q:Rec:=⟨fn,a.tmps,ps.toArray,assign,body,w.heap.size⟩
 obtain ⟨W1,hW1⟩:∃ W1,W1=(w.alloc (.deferred (some []))).alloc (q.at .ready none):=⟨_,rfl⟩
 have H1:Hp w0 F G0 G (B++((w.heap.size+1,q.at .ready none) :: (w.heap.size,.deferred (some [])) :: L)) W1:=by
  have:=(H.hp.alloc (.deferred (some []))).alloc (q.at .ready none)
  rw [World.size_alloc] at this
  rw [hW1]
  refine this.perm ?_
  have e:=List.perm_append_comm (l₁:=[(w.heap.size+1,q.at .ready none),(w.heap.size,Obj.deferred (some []))]) (l₂:=B)
  have e2:=List.Perm.append_right L e
  rw [List.append_assoc,List.append_assoc] at e2
  exact e2
 refine ⟨w.heap.size+1,[{ target:=.collected w.heap.size,args:=#[] }],W1,{ target:=.fn (.func gf) caps.toArray,args:=#[.func (.yield (w.heap.size+1)) #[] #[]] },W1,gf,
  #[.func (.yield (w.heap.size+1)) #[] #[]]++caps.toArray,W1,by rw [hW1];exact run_enterLoop_outer fn a.tmps ps.toArray assign body,?_,fun _ _=>trivial,?_,FW_depth none,?_⟩
 ·simp only [resolve,rangeCall,hev]
  simp [Deferred.ofValue,Act.eval]
 ·simp [invoke,en]
 ·have hcv:=hit (fun k=>Jr (w.heap.size+1) q [(w.heap.size,.deferred (some []))] (J k)) (Jrx (w.heap.size+1) q [(w.heap.size,.deferred (some []))] Jx) (.func (.yield (w.heap.size+1)) #[] #[]) G
   ((w.heap.size+1,q.at .ready none) :: (w.heap.size,.deferred (some [])) :: L) W1 rfl hGi (fun k G G' L hm ⟨Lu,e,h⟩=>⟨Lu,e,hJm k G G' Lu hm h⟩) (fun G G' L hm ⟨c,Lu,e,h⟩=>⟨c,Lu,e,hJx c G G' Lu hm h⟩) ⟨L,rfl,h0⟩ (Hp.owns (Li:=[]) H1) (cback_yield H.asz H.get hps hlen hround) (fun e g l ⟨Lu,_,h⟩=>hno e g Lu h)
  replace hcv:=hcv.go
  have e:(do let d ← Deferred.ofValue (.func (.func gf) #[] caps.toArray) [Value.func (.yield (w.heap.size+1)) #[] #[]].toArray;invoke d.target d.args:Sem Next).run P W1=.ok (.enter gf (#[.func (.yield (w.heap.size+1)) #[] #[]]++caps.toArray)) W1:=by
   simp [Deferred.ofValue,invoke,en]
  rw [e] at hcv
  refine (callsIn_of_calls hcv).mono ?_
  rintro e w2 ⟨v,G2,L2,rfl,hch,hJ⟩
  have H2:=Hp.change (Li:=[]) H1 hch
  rcases hJ with ⟨Lu,rfl,hJ⟩|⟨c,Lu,rfl,hJ⟩
  ·have hl:=H2.own _ (List.mem_cons_self)
   have H3:=(H2.upd (i:=0) rfl (upd_putObj (q.at .exhausted none) hl)).drop (List.sublist_cons_self _ _)
   exact ⟨none,_,run_endLoop hl (by simp),hdone _ G2 Lu _ _ hch.gm hJ ⟨H.asz,H.get,by simp [H.dfr],H3⟩⟩
  ·have hl:=H2.own _ (List.mem_cons_self)
   have H3:=(H2.upd (i:=0) rfl (upd_putObj (q.at .exhausted (some c)) hl)).drop (List.sublist_cons_self _ _)
   exact ⟨some c,_,run_endLoop hl (by simp),hstop _ c G2 Lu _ _ hch.gm hJ ⟨H.asz,H.get,by simp [H.dfr],H3⟩⟩
/-- A range over a function whose state is told by ghosts. -/
theorem c_rangeJI {fin:Bool} {B:OL} {ι κ:Type} {Lc:OL} {gop:Operand} {ps:List Nat} {assign body:Code} {gf:FuncId} {caps:List Value} {xs:List AP} {Gi:GH}
  (Lv:Nat→ι→OL) (Lt:Nat→ι→OL) (inv:Nat→ι→GH→Prop) (cx:κ→Code) (Lx Lxt:κ→OL) (invx:κ→GH→Prop) (i0:ι)
  (H:St N D w0 F G0 G (B++(Lc++Lv 0 i0++Lt 0 i0)) T a w) (hg:ev T gop=some (.func (.func gf) #[] caps.toArray)) (en:∀ args w,(callFunc gf args).run P w=.ok (.enter gf args) w) (hit:IterI P Gi B (.func (.func gf) #[] caps.toArray) xs fin) (hGi:∀ b o,Gi b=some o→G b=some o)
  (hno:fin=false→∀ i g,¬ inv xs.length i g) (hps:ps.all (Nat.blt · N)=true) (hlen:∀ k args g,AtAP xs k args g→args.length=ps.length) (hinv:∀ k i (G G':GH),(∀ b o,G b=some o→G' b=some o)→inv k i G→inv k i G') (hinvx:∀ x (G G':GH),(∀ b o,G b=some o→G' b=some o)→invx x G→invx x G') (h0:inv 0 i0 G)
  (round:∀ (l:Nat) (rdy bsy:Obj) (bk:OL) (k:Nat) (args:List Value) (i:ι) (G1:GH) (w1:World) (F1:Nat→Prop) (B1:Code→Exit→Act→World→Prop) (a1:Act),AtAP xs k args G1→(∀ b o,G b=some o→G1 b=some o)→inv k i G1 →
   (∀ T' G2 L2 a2 w2 c,St N [] w1 F1 G1 G2 ((l,rdy) :: L2) T' a2 w2→(∀ w3,St N [] w1 F1 G1 G2 ((l,bsy) :: L2) T' a2 w3→WP (some l) P c (B1 c) a2 w3)→Exit.then (fun a2 w2=>∃ w3,(Instr.beginRound l).run P w2=.ok () w3∧c.wpIn (FW (some l)) 0 P (B1 c) a2 w3) (fun _ _ _=>False) .normal a2 w2) →
   (∀ i' T' G2 a2 w2 c,St N [] w1 F1 G1 G2 ((l,bsy) :: (Lc++Lv (k+1) i'++(bk++Lt (k+1) i'))) T' a2 w2→inv (k+1) i' G2→B1 c .normal a2 w2) →
   (∀ x T' G2 a2 w2 c,St N [] w1 F1 G1 G2 ((l,bsy) :: (Lc++Lx x++(bk++Lxt x))) T' a2 w2→invx x G2→(cx x=.ret→B1 c .ret a2 w2)∧∀ n,cx x=.exit n→B1 c (.exit n) a2 w2) →
   St N [] w1 F1 G1 G1 ((l,rdy) :: (Lc++Lv k i++(bk++Lt k i))) (asg ps args T) a1 w1 →
   WP (some l) P assign (Exit.then (fun a2 w2=>∃ w3,(Instr.beginRound l).run P w2=.ok () w3∧body.wpIn (FW (some l)) 0 P (B1 body) a2 w3) (fun _ _ _=>False)) a1 w1)
  (hdone:∀ Dk i G1 a1 w1,(∀ b o,G b=some o→G1 b=some o)→inv xs.length i G1→St N ({ target:=.collected Dk,args:=#[] } :: D) w0 F G0 G1 ((Dk,.deferred (some [])) :: (Lc++Lv xs.length i++Lt xs.length i)) T a1 w1→Q .normal a1 w1)
  (hstop:∀ Dk x G1 a1 w1,(∀ b o,G b=some o→G1 b=some o)→invx x G1→St N ({ target:=.collected Dk,args:=#[] } :: D) w0 F G0 G1 ((Dk,.deferred (some [])) :: (Lc++Lx x++Lxt x)) T a1 w1→WP none P (cx x) Q a1 w1) :
  WP none P (.rangeFunc gop ps.toArray assign body) Q a w:=by
 refine c_rangeI (J:=fun k g L=>∃ i,L=Lc++Lv k i++Lt k i∧inv k i g) (Jx:=fun c g L=>∃ x,c=cx x∧L=Lc++Lx x++Lxt x∧invx x g) H hg en hit hGi hps hlen (hno:=fun e g l ⟨i,_,h⟩=>hno e i g h) (fun k G G' L hm ⟨i,e,h⟩=>⟨i,e,hinv k i G G' hm h⟩) (fun c G G' L hm ⟨x,e1,e2,h⟩=>⟨x,e1,e2,hinvx x G G' hm h⟩) ⟨i0,rfl,h0⟩ ?_ ?_ ?_
 ·rintro l q bk k args G1 L1 w1 a1 hk hm ⟨i,rfl,hi⟩ H1
  have pm:∀ A B:OL,(bk++(A++B)).Perm (A++(bk++B)):=fun A B=>by
   rw [← List.append_assoc,← List.append_assoc]
   exact List.Perm.append_right B List.perm_append_comm
  refine round l (q.at .ready none) (q.at .busy none) bk k args i G1 w1 _ (fun _=>roundPost P l _) a1 hk hm hi ?_ ?_ ?_ (H1.perm (List.Perm.cons _ (pm _ _)))
  ·intro T' G2 L2 a2 w2 c H2 h
   exact c_begin H2 h
  ·intro i' T' G2 a2 w2 c H2 h2
   exact round_end none (H2.perm (List.Perm.cons _ (pm _ _).symm)) ⟨_,rfl,i',rfl,h2⟩
  ·intro x T' G2 a2 w2 c H2 h2
   have H3:=H2.perm (List.Perm.cons _ (pm _ _).symm)
   refine ⟨fun e=>?_,fun n e=>?_⟩
   ·exact round_end (some .ret) H3 ⟨_,_,rfl,x,e.symm,rfl,h2⟩
   ·exact round_end (some (.exit n)) H3 ⟨_,_,rfl,x,e.symm,rfl,h2⟩
 ·rintro Dk G1 L1 a1 w1 hm ⟨i,rfl,hi⟩ H1
  exact hdone Dk i G1 a1 w1 hm hi H1
 ·rintro Dk c G1 L1 a1 w1 hm ⟨x,rfl,rfl,hx⟩ H1
  exact hstop Dk x G1 a1 w1 hm hx H1
end
end
section
open Go.RowKit
theorem un104chn:Tryz.prog.underlying 104=some (.map 3 3):=by kernel_rfl
theorem ty31chn:Ty Tryz.prog 31 1 24 [.slice none 0 0] false:=⟨by kernel_rfl,by kernel_rfl⟩
theorem fd141_3chn:Fld Tryz.prog 141 3 3:=⟨by kernel_rfl⟩
theorem en117chn:∀ args w,(callFunc 117 args).run Tryz.prog w=.ok (.enter 117 args) w:=enters Tryz.func117 rfl (by kernel_rfl)
theorem idxI_lt {x:Int}:∀ {l:List Int} {i n:Nat},idxI x i l=some n→n < i+l.length
 | [],_,_,h=>by cases h
 | k :: r,i,n,h=>by
  rw [idxI] at h;split at h
  ·cases h;simp
  have:=idxI_lt h;simp only [List.length_cons];omega
/-- The chain of a style: at most so many of its styles. -/
def chF (l:List StyleD):Nat→Int→List StyleD
 | 0,_=>[]
 | f+1,id=>if id=0 then [] else match idxI id 0 (l.map StyleD.id) with|none=>[]|some i=>match l[i]? with|none=>[]|some s=>s :: chF l f s.base
def chL (l:List StyleD) (id:Int):List StyleD:=chF l (l.length+1) id
theorem chF_zero {l:List StyleD} {f:Nat} {id:Int} (h:id=0):chF l f id=[]:=by
 cases f with
 | zero=>rfl
 | succ f=>rw [chF,if_pos h]
theorem chF_none {l:List StyleD} {f:Nat} {id:Int} (h0:¬ id=0) (h:idxI id 0 (l.map StyleD.id)=none):chF l f id=[]:=by
 cases f with
 | zero=>rfl
 | succ f=>rw [chF,if_neg h0,h]
theorem chF_some {l:List StyleD} {f i:Nat} {id:Int} (h0:¬ id=0) (h:idxI id 0 (l.map StyleD.id)=some i) (hi:i < l.length):chF l (f+1) id=l[i] :: chF l f l[i].base:=by
 rw [chF,if_neg h0,h];dsimp only;rw [List.getElem?_eq_getElem hi]
def stP (x:StyleD):AP:=fun args g=>∃ cs,args=[.agg cs.toArray]∧RepRow g x.dat cs
theorem st_at {A:List StyleD} {k:Nat} {args:List Value} {g:GH} (h:AtAP (A.map stP) k args g):∃ (hk:k < A.length) (cs:List Value),args=[.agg cs.toArray]∧RepRow g A[k].dat cs:=by
 obtain ⟨p,hp,hargs⟩:=h;rw [List.getElem?_map] at hp;obtain ⟨q,hq,rfl⟩:=Option.map_eq_some_iff.1 hp;obtain ⟨hk,rfl⟩:=List.getElem?_eq_some_iff.1 hq;obtain ⟨cs,h1,h2⟩:=hargs;exact ⟨hk,cs,h1,h2⟩
abbrev bI (b:Nat) (n:Int):Nat × Obj:=(b,.cells #[vi n] 3 (0,0))
set_option maxHeartbeats 1000000 in
theorem chain1_iter {G:GH} {bl bi:Nat} {l:List StyleD} {id:Int} {v:Value} (hb:gcell G bl 0=some v) (hv:RepV G (.sl 6 (l.map StyleD.dat)) v) (hnd:∀ (k:Nat) (h:k < l.length),l[k].id∉(l.take k).map StyleD.id) :
  IterI Tryz.prog G [bI bi id] (.func (.func 117) #[] #[.pointer (some ⟨bl,0,none⟩),.pointer (some ⟨bi,0,none⟩)]) ((chL l id).map stP) (decide ((chL l id).length≤l.length)):=by
 intro J Jx fv G1 L w0 hfv hGi hJm hJx hJ hO hcb hfin;refine callV_func (caps:=[.pointer (some ⟨bl,0,none⟩),.pointer (some ⟨bi,0,none⟩)]) en117chn ?_;obtain ⟨A,c,rfl,hc1,hc2,-⟩:=hv.slice;have hml:maxLen=9223372036854775807:=rfl;rw [List.length_map] at *;replace hb:=gcell_mono hGi hb;replace hv:=hv.mono hGi;refine enterL (N:=46) (T:=[(0,_),(1,_),(2,_)]) Tryz.func117 rfl Tryz.ntmps117 rfl rfl hO ?_;intro a H;refine c_seqR (fun _ K1=>?_);refine s_makeMap H wn rfl ?_;clear H;intro bm a w hbm H;refine kH H (Ra rfl (Kz K1 (SQ fun _ K2=>SR fun _ K3=>Rg ty31chn rfl (by assumption) ?_)));clear H K1;intro a H;refine kH H (Rl un31sty rfl (Rm rfl (Kz K3 (SB ?_))));clear H K3;intro a H;skip;refine c_loopS (ι:=Nat) (Tc:=[(0,_),(1,_),(2,_),(4,_),(10,_),(11,_)]) (Lc:=[(_,_)]) (fun (gh:Nat)=>[(12,vi gh)]) (fun (gh:Nat)=>[bMapI bm ((l.take gh).map StyleD.id)]++L) (fun (gh:Nat)=>G1) (fun (gh:Nat)=>gh≤l.length) (fun (gh:Nat)=>l.length - gh) (0) (by exact (H.pickT (Pl:=[_,_]) (Pl':=[_,_]) [1,0] (by decide) rfl).sub ⟨rfl,rfl,rfl,rfl,rfl,rfl,rfl,trivial⟩) ?_ ?_
 ·exact Nat.zero_le _
 clear H;intro gh a w hI H;obtain ⟨k,hgh⟩:∃ x,x=gh:=⟨_,rfl⟩;subst hgh;have hk:=hI;dsimp only [List.cons_append,List.nil_append,List.append_nil] at H;refine kP H (SR fun _ K4=>Rc rfl (Kz K4 (SQ fun _ K5=>?_)));clear H K4;intro a H;refine c_cond H rfl ?_ ?_
 ·intro h13
  try have p13:=dT h13
  have hk2:k < l.length:=by omega
  obtain ⟨b,o,pA,pc,rfl,hrow,hp,hrep⟩:=style_at hv hk2;have hnin:=hnd k hk2
  have hlk:((l.take k).map StyleD.id).length=k:=by rw [List.length_map,List.length_take];omega
  have hnx:(l.take k).map StyleD.id++[l[k].id]=(l.take (k+1)).map StyleD.id:=by rw [List.take_succ_eq_append_getElem hk2,List.map_append];rfl
  refine kP H (Kc K5 (SQ fun _ K6=>SB (SR fun _ K7=>Rm rfl (Ri un31sty ty141sty rfl rfl ?_))));clear H K5;intro a H;refine s_loada ty141sty (cs:=[_,_,_,_,_,_]) H wn rfl rfl (fun j v hj=>H.hp.gcell (hrow j v hj)) rfl ?_;clear H;intro a H;refine s_alloc ty141sty H wn rfl ?_;clear H;intro b6 a w hb6 H;refine kH H (Ra rfl ?_);clear H;intro a H;refine s_store ty141sty 0 (vs:=[_,_,_,_,_,_]) _ H wn rfl rfl rfl rfl rfl rfl rfl rfl ?_;clear H;intro w H;dsimp only [List.set,setRow] at H;refine K7 _ _ ?_;clear K7;refine kP H (SC (Rm rfl (Rf fd141_0sty rfl (Ro ty3run 0 rfl rfl (Rm rfl ?_)))));clear H;intro a H;refine s_mapNew (i:=2) (ky:=vi l[k].id) (v:=vi k) un104chn un3cp H wn rfl rfl rfl rfl (by trivial) (by rw [List.toList_toArray,findNow_mapI,idxI_none hnin];rfl) ?_;clear H;intro w H
  have hpush:((mapI 0 ((l.take k).map StyleD.id)).toArray.push ⟨vi l[k].id,vi k,((l.take k).map StyleD.id).length⟩)=(mapI 0 ((l.take (k+1)).map StyleD.id)).toArray:=by rw [← hnx,← mapI_push,hlk]
  rw [hpush,show ((l.take k).map StyleD.id).length+1=((l.take (k+1)).map StyleD.id).length by rw [← hnx];simp] at H;refine kH H (Kn K6 (SC (Rd rfl (Rm rfl ?_))));clear H K6;intro a H;refine wl_nil ?_;refine loop_end ((k+1)) (by exact (H.pickT (Pl:=[_,_,_]) (Pl':=[_,_]) [1,2] (by decide) rfl).sub ⟨rfl,rfl,rfl,rfl,rfl,rfl,rfl,trivial⟩) ?_ ?_
  ·exact by omega
  first|omega|(dsimp only;omega)
 intro h13
 try have p13:=dF h13
 obtain rfl:k=l.length:=by omega
 rw [List.take_length] at H;refine c_exit ?_;refine K2 _ _ ?_;clear K2;refine c_block ?_;skip;refine c_loopS (ι:=Int × Nat × Nat × OL × GH) (Tc:=[(0,_),(1,_),(2,_),(4,_)]) (Lc:=[(_,_)]) (fun (gh:Int × Nat × Nat × OL × GH)=>[]) (fun (gh:Int × Nat × Nat × OL × GH)=>[bI bi gh.1]++gh.2.2.2.1) (fun (gh:Int × Nat × Nat × OL × GH)=>gh.2.2.2.2) (fun (gh:Int × Nat × Nat × OL × GH)=>(∀ b o,G1 b=some o→gh.2.2.2.2 b=some o)∧Now ((chL l id).map stP) stP J (chL l id).length gh.2.2.1 (chF l gh.2.1 gh.1) gh.2.2.2.2 gh.2.2.2.1∧gh.2.2.1+gh.2.1=l.length+1) (fun (gh:Int × Nat × Nat × OL × GH)=>gh.2.1) ((id,l.length+1,0,L,G1)) (by exact (H.pickT (Pl:=[_,_]) (Pl':=[_,_]) [1,0] (by decide) rfl).sub ⟨rfl,rfl,rfl,rfl,trivial⟩) ?_ ?_
 ·exact ⟨fun _ _ h=>h,⟨hJ,fun i a h=>by rw [Nat.zero_add,List.getElem?_map];rw [show chF l (l.length+1) id=chL l id from rfl] at h;rw [h];rfl,Nat.zero_add _⟩,Nat.zero_add _⟩
 clear H;intro gh a w hI H;obtain ⟨i,f,j1,Lt,g⟩:=gh;dsimp only at hI H;obtain ⟨hgm,hnow,hjf⟩:=hI;have hbg:=gcell_mono hgm hb;dsimp only [List.cons_append,List.nil_append,List.append_nil] at H;refine kP H (SQ fun _ K8=>SR fun _ K9=>Ro ty3run 1 rfl rfl (Rc rfl (Kz K9 ?_)));clear H K9;intro a H;refine c_cond H rfl ?_ ?_
 ·intro h23
  try have p23:=dT h23
  have h0:¬ i=0:=by simpa using h23
  obtain ⟨an,han⟩:∃ an,an=idxI i 0 (l.map StyleD.id):=⟨_,rfl⟩;have hfn:=findNow_mapI i 0 0 (l.map StyleD.id);rw [← han] at hfn;refine kP H (Kc K8 (SB (SR fun _ K10=>Rm rfl (Ro ty3run 1 rfl rfl ?_))));clear H K8;intro a H;refine s_lookup (i:=0) (zv:=vi 0) _ un104chn un3cp (by kernel_rfl) H wn rfl rfl rfl (by trivial) (by simpa using hfn) rfl ?_;clear H;intro a H;refine kH H (Rm rfl ?_);clear H;intro a H;(iterate 2 refine s_extract H wn rfl rfl rfl ?_;clear H;intro a H);refine kH H (Ra rfl (Ra rfl (Kz K10 (SQ fun _ K11=>SR fun _ K12=>Rm rfl (Rn rfl (Rm rfl ?_))))));clear H K10;intro a H;refine s_split H 32 rfl ?_ ?_
  ·intro h32
   try have p32:=dT h32
   obtain rfl:an=none:=by
    cases an with
    | none=>rfl
    | some n=>simp [mapV] at h32
   rw [chF_none h0 han.symm] at hnow;refine kH H (Ks h32 rfl (Ks h32 rfl (Ks h32 rfl (Ks h32 rfl (Ks h32 rfl (Ks h32 rfl (Ks h32 rfl (Pt h32 rfl (Kz K12 ?_)))))))));clear H K12;intro a H;refine c_cond_t H rfl rfl ?_;refine c_ret ?_;refine (leave0 H Tryz.results117 ?_).1;refine H.hp.retD (L':=Lt) (by repeat (first|exact List.Sublist.refl _|apply List.Sublist.cons)) (.inl ?_);have h:=hnow.len
   simp only [List.length_nil,Nat.add_zero] at h
   rw [← h];exact hnow.now
  intro h32
  try have p32:=dF h32
  obtain ⟨n,rfl⟩:∃ n,an=some n:=by
   cases an with
   | none=>simp [mapV] at h32
   | some n=>exact ⟨n,rfl⟩
  have hnl:n < l.length:=by have:=idxI_lt han.symm;simpa using this
  obtain ⟨f',rfl⟩:∃ f',f=f'+1:=by
   cases f with
   | succ f'=>exact ⟨f',rfl⟩
   | zero =>
    exfalso
    have hl:=hnow.len
    simp only [chF,List.length_nil,Nat.add_zero] at hl
    refine hfin (decide_eq_false (by omega)) g Lt ?_;rw [← hl];exact hnow.now
  rw [chF_some h0 han.symm hnl] at hnow;dsimp only [mapV,Option.map_some] at H;obtain ⟨b,o,pA,pc,rfl,hrow,hp,hrep⟩:=style_at (hv.mono hgm) hnl;refine kH H (YM h32 rfl (YR ty31chn h32 rfl (by assumption) ?_));clear H;intro a H;refine kH H (YM h32 rfl (YI un31sty ty141sty h32 rfl rfl ?_));clear H;intro a H;refine s_loada ty141sty (cs:=[_,_,_,_,_,_]) H (wg H rfl rfl h32) rfl rfl (fun j v hj=>H.hp.gcell (hrow j v hj)) rfl ?_;clear H;intro a H;refine s_callv (Li:=[_,_]) (L:=Lt) H (wg H rfl rfl h32) rfl rfl (hcb j1 _ _ _ _ ⟨_,hnow.head,_,rfl,hrep⟩ hgm hnow.now (Hp.owns (Li:=[_,_]) H.hp)) rfl ?_;clear H;rintro v38 G38 Lt38 a w ⟨b38,rfl,hb1,hb2⟩ hm38 H;have hbg:=gcell_mono hm38 hbg;have r3:=gcell_mono hm38 (hrow 3 _ rfl);refine kH H (YN h32 rfl (Pf h32 rfl (Kz K12 ?_)));clear H K12;intro a H;refine c_cond H rfl ?_ ?_
  ·intro h40
   try have p40:=dT h40
   refine c_ret ?_;refine (leave0 H Tryz.results117 ?_).1;exact H.hp.retD (L':=Lt38) (by repeat (first|exact List.Sublist.refl _|apply List.Sublist.cons)) (.inr (hb2 (by simpa using h40)))
  intro h40
  try have p40:=dF h40
  refine kP H (Kc K11 (SC (Rg ty31chn rfl (by assumption) ?_)));clear H K11;intro a H;refine kH H (Rm rfl (Ri un31sty ty141sty rfl rfl (Rf fd141_3chn rfl (Rg ty3run rfl (by assumption) ?_))));clear H;intro a H;refine s_store ty3run 1 (vs:=[_]) _ H wn rfl rfl rfl rfl rfl rfl rfl rfl ?_;clear H;intro w H;dsimp only [List.set,setRow] at H;refine wl_nil ?_;refine loop_end ((l[n].base,f',j1+1,Lt38,G38)) (by exact (H).sub ⟨rfl,rfl,rfl,rfl,trivial⟩) ?_ ?_
  ·(try dsimp only);exact ⟨fun b o h=>hm38 b o (hgm b o h),hnow.step (hb1 (by simpa using h40)),by omega⟩
  first|omega|(dsimp only;omega)
 intro h23
 try have p23:=dF h23
 refine c_exit ?_;refine (leave0 H Tryz.results117 ?_).2;rw [chF_zero (by simpa using h23)] at hnow;refine H.hp.retD (L':=Lt) (by repeat (first|exact List.Sublist.refl _|apply List.Sublist.cons)) (.inl ?_);have h:=hnow.len
 simp only [List.length_nil,Nat.add_zero] at h
 rw [← h];exact hnow.now
end
section
open Go.RowKit
theorem en88chk:∀ args w,(callFunc 88 args).run Tryz.prog w=.ok (.enter 88 args) w:=enters Tryz.func88 rfl (by kernel_rfl)
theorem en86chk:∀ args w,(callFunc 86 args).run Tryz.prog w=.ok (.enter 86 args) w:=enters Tryz.func86 rfl (by kernel_rfl)
theorem en87chk:∀ args w,(callFunc 87 args).run Tryz.prog w=.ok (.enter 87 args) w:=enters Tryz.func87 rfl (by kernel_rfl)
theorem fd141_4chk:Fld Tryz.prog 141 4 4:=⟨by kernel_rfl⟩
theorem chain_spec {G:GH} {w0:World} (hO:Owns G [] w0) (l:List StyleD) (id:Int) (v:Value) (hv:RepV G (.sl 6 (l.map StyleD.dat)) v) :
  Calls Tryz.prog 88 #[v,vi id] w0 (RetL w0 G [] fun u G' L'=>∃ bl bi,u=.func (.func 117) #[] #[.pointer (some ⟨bl,0,none⟩),.pointer (some ⟨bi,0,none⟩)]∧L'=[bI bi id]∧gcell G' bl 0=some v):=by
 obtain ⟨A,c,rfl,hc1,hc2,-⟩:=hv.slice;refine enterL (N:=6) (T:=[(0,_),(1,_)]) Tryz.func88 rfl Tryz.ntmps88 rfl rfl hO ?_;intro a H;refine c_seqR (fun _ K1=>?_);refine s_box (cs:=[_]) H wn rfl rfl rfl ?_;clear H;intro b2 a w hb2 H;refine s_box (cs:=[_]) H wn rfl rfl rfl ?_;clear H;intro b3 a w hb3 H;refine kH H (Ra rfl (Kz K1 (SR fun _ K2=>?_)));clear H K1;intro a H;refine s_makeFunc H wn rfl rfl ?_;clear H;intro a H;refine kH H (Ra rfl (Kz K2 ?_));clear H K2;intro a H;refine lr H Tryz.results88 rfl ?_;have H:=H.pickT (Pl:=[_,_]) (Pl':=[_,_]) [1,0] (by decide) rfl;obtain ⟨Ga,hma,hb2',H⟩:=H.giveBox;exact H.hp.retL ⟨b2,b3,rfl,rfl,by unfold gcell;rw [hb2'];rfl⟩
/-- The first of some errors. -/
def errF (p:Nat→Int):Nat→Nat→Int
 | _,0=>0
 | k,n+1=>if p k=0 then errF p (k+1) n else p k
theorem errF_step {p:Nat→Int} {k m:Nat} (h:k < m):errF p k (m - k)=if p k=0 then errF p (k+1) (m - (k+1)) else p k:=by
 obtain ⟨n,hn⟩:∃ n,m - k=n+1:=⟨m - k - 1,by omega⟩;rw [hn,errF,show m - (k+1)=n by omega]
theorem errF_end {p:Nat→Int} {k m:Nat} (h:m≤k):errF p k (m - k)=0:=by rw [show m - k=0 by omega];rfl
theorem errF_zero {p:Nat→Int}:∀ {n k:Nat},errF p k n=0→∀ j,k≤j→j < k+n→p j=0
 | 0,k,_,j,h1,h2=>by omega
 | n+1,k,h,j,h1,h2=>by
  rw [errF] at h;split at h
  ·rename_i hp
   by_cases e:j=k
   ·rw [e];exact hp
   exact errF_zero h j (by omega) (by omega)
  rename_i hp;exact absurd h hp
def ownAt (l:List StyleD) (k:Nat):Int:=match l[k]? with|some s=>ownS l k s|none=>0
theorem ownAt_in {l:List StyleD} {k:Nat} (h:k < l.length):ownAt l k=ownS l k l[k]:=by unfold ownAt;rw [List.getElem?_eq_getElem h]
def badRef (l:List StyleD) (s:StyleD):Bool:=(decide (s.base≠0) && !isS l s.kind s.base) || (decide (s.next≠0) && (decide (s.kind=2) || !isS l 1 s.next))
def cyc (l:List StyleD) (s:StyleD):Bool:=decide (l.length < (chL l s.id).length)
/-- The first error of a list of styles. -/
def checkS (l:List StyleD):Int:=if 128 < l.length then 9 else if errF (ownAt l) 0 l.length≠0 then errF (ownAt l) 0 l.length else if l.any (badRef l)=true then 25 else if l.any (cyc l)=true then 16 else 0
theorem own_inc {l:List StyleD} (h:errF (ownAt l) 0 l.length=0) {k:Nat} (hk:k+1 < l.length):l[k].id < l[k+1].id:=by
 have h1:=errF_zero h (k+1) (Nat.zero_le _) (by omega);rw [ownAt_in hk,ownS,ownE] at h1
 have hp:prevS l (k+1)=some l[k].id:=by rw [prevS,if_neg (by omega),Nat.add_sub_cancel,List.getElem?_eq_getElem (by omega)];rfl
 rw [hp] at h1
 split at h1
 ·cases h1
 split at h1
 ·cases h1
 split at h1
 ·cases h1
 rename_i _ h2 h3
 have h2':¬ l[k].id=l[k+1].id:=fun e=>h2 (by rw [e]);have h3':¬ l[k+1].id < l[k].id:=fun e=>h3 (decide_eq_true e)
 omega
theorem own_mono {l:List StyleD} (h:errF (ownAt l) 0 l.length=0):∀ {k j:Nat} (hk:k < l.length) (hj:j < k),l[j].id < l[k].id
 | k+1,j,hk,hj=>by
  have h1:=own_inc h hk
  by_cases e:j=k
  ·subst e;exact h1
  have:=own_mono h (k:=k) (j:=j) (by omega) (by omega)
  omega
theorem own_nodup {l:List StyleD} (h:errF (ownAt l) 0 l.length=0) (k:Nat) (hk:k < l.length):l[k].id∉(l.take k).map StyleD.id:=by
 intro hm;obtain ⟨x,hx1,hx2⟩:=List.mem_map.1 hm;obtain ⟨j,hj,rfl⟩:=List.getElem_of_mem hx1;rw [List.getElem_take] at hx2;rw [List.length_take] at hj;have:=own_mono h hk (j:=j) (by omega)
 omega
theorem any_next {α:Type} {p:α→Bool} {l:List α} {k:Nat} (hk:k < l.length) (h:(l.take k).any p=false) (hp:p l[k]=false):(l.take (k+1)).any p=false:=by
 rw [List.take_succ_eq_append_getElem hk,List.any_append,h];simp [hp]
theorem any_stop {α:Type} {p:α→Bool} {l:List α} {k:Nat} (hk:k < l.length) (hp:p l[k]=true):l.any p=true:=List.any_eq_true.2 ⟨_,List.getElem_mem hk,hp⟩
theorem any_done {α:Type} {p:α→Bool} {l:List α} {k:Nat} (hk:l.length≤k) (h:(l.take k).any p=false):¬ l.any p=true:=by
 rw [List.take_of_length_le hk] at h;rw [h];decide
set_option maxHeartbeats 1000000 in
theorem check_styles (G:GH) (w0:World) (hG:Hold G w0) (l:List StyleD) (v:Value) (hv:RepV G (.sl 6 (l.map StyleD.dat)) v) (hN:∀ s∈l,s.name.size≤4611686018427387904) :
  Calls Tryz.prog 59 #[v] w0 (Ret w0 G fun u G'=>u=vi (checkS l)):=by
 obtain ⟨A,c,rfl,hc1,hc2,-⟩:=hv.slice;have hml:maxLen=9223372036854775807:=rfl;rw [List.length_map] at *;refine eN [(0,_)] Tryz.func59 rfl Tryz.ntmps59 rfl rfl hG ?_;intro a H;refine c_seqR (fun _ K1=>?_);refine s_box (cs:=[_]) H wn rfl rfl rfl ?_;clear H;intro b1 a w hb1 H;refine s_alloc ty46idx H wn rfl ?_;clear H;intro b2 a w hb2 H;refine K1 _ _ ?_;clear K1;refine kP H (SQ fun _ K2=>SR fun _ K3=>Ro ty31chn 1 rfl rfl (Rl un31sty rfl (Rc rfl (Kz K3 ?_))));clear H K3;intro a H;refine c_cond H rfl ?_ ?_
 ·intro h12
  try have p12:=dT h12
  refine c_seqR (fun _ K4=>?_);refine s_store ty46idx 0 (vs:=[_]) _ H wn rfl rfl rfl rfl rfl rfl rfl rfl ?_;clear H;intro w H;dsimp only [List.set,setRow] at H;refine K4 _ _ ?_;clear K4;refine c_ret ?_;refine (leave1 H Tryz.results59 (.cons (rv_cell ty46idx H rfl (H.hp.ocell 0 rfl rfl)) .nil) ?_).1
  first
   | exact H.hp.ret (congrArg vi (by rw [checkS,if_pos (by omega)]))
   | exact H.hp.ret (congrArg vi (by rw [if_neg (by simpa using p22)] at heq;rw [checkS,if_neg (by omega),← heq,if_pos (by simpa using p22)]))
   | exact H.hp.ret (congrArg vi (by rw [checkS,if_neg (by omega),if_neg (by rw [hok];decide),if_pos hbad]))
   | exact H.hp.ret (congrArg vi (by rw [checkS,if_neg (by omega),if_neg (by rw [hok];decide),if_neg hbad,if_pos (any_stop hj2 hI)]))
   | exact H.hp.ret (congrArg vi (by rw [checkS,if_neg (by omega),if_neg (by rw [hok];decide),if_neg hbad,if_neg (any_done (by omega) hnc)]))
 intro h12
 try have p12:=dF h12
 refine kP H (Kc K2 (SQ fun _ K5=>SR fun _ K6=>Ro ty31chn 1 rfl rfl (Rl un31sty rfl (Rm rfl (Kz K6 (SB ?_))))));clear H K2 K6;intro a H;skip;refine c_loopS (ι:=Nat × GH) (Tc:=[(1,_),(2,_),(14,_)]) (Lc:=[(_,_),(_,_)]) (fun (gh:Nat × GH)=>[(15,vi gh.1)]) (fun (gh:Nat × GH)=>[]) (fun (gh:Nat × GH)=>gh.2) (fun (gh:Nat × GH)=>gh.1≤l.length∧errF (ownAt l) gh.1 (l.length - gh.1)=errF (ownAt l) 0 l.length∧(∀ b o,G b=some o→gh.2 b=some o)) (fun (gh:Nat × GH)=>l.length - gh.1) ((0,G)) (by exact (H).sub ⟨rfl,rfl,rfl,rfl,trivial⟩) ?_ ?_
 ·exact ⟨Nat.zero_le _,rfl,fun _ _ h=>h⟩
 clear H;intro gh a w hI H;obtain ⟨k,g⟩:=gh;dsimp only at hI H;obtain ⟨hk,heq,hgm⟩:=hI;dsimp only [List.cons_append,List.nil_append,List.append_nil] at H;refine kP H (SR fun _ K7=>Rc rfl (Kz K7 (SQ fun _ K8=>?_)));clear H K7;intro a H;refine c_cond H rfl ?_ ?_
 ·intro h16
  try have p16:=dT h16
  have hk2:k < l.length:=by omega
  rw [errF_step hk2,ownAt_in hk2] at heq;refine kP H (Kc K8 (SQ fun _ K9=>SB (SR fun _ K10=>Rm rfl (Ra rfl (Kz K10 (SR fun _ K11=>Ro ty31chn 1 rfl rfl (Rm rfl ?_)))))));clear H K8 K10;intro a H;refine s_call en86chk H wn rfl (own_spec _ _ H.hp.ro l k _ (hv.mono hgm) hk2 (hN _ (List.getElem_mem hk2))) rfl ?_;clear H;rintro v20 G20 a w rfl hm20 H;refine kH H (Ra rfl (Kz K11 (SR fun _ K12=>Rm rfl (Rc rfl (Kz K12 ?_)))));clear H K11 K12;intro a H;refine c_cond H rfl ?_ ?_
  ·intro h22
   try have p22:=dT h22
   refine kP H (SR fun _ K13=>Rm rfl ?_);clear H;intro a H;refine s_store ty46idx 0 (vs:=[_]) _ H wn rfl rfl rfl rfl rfl rfl rfl rfl ?_;clear H;intro w H;dsimp only [List.set,setRow] at H;refine K13 _ _ ?_;clear K13;refine c_ret ?_;refine (leave1 H Tryz.results59 (.cons (rv_cell ty46idx H rfl (H.hp.ocell 0 rfl rfl)) .nil) ?_).1
   first
    | exact H.hp.ret (congrArg vi (by rw [checkS,if_pos (by omega)]))
    | exact H.hp.ret (congrArg vi (by rw [if_neg (by simpa using p22)] at heq;rw [checkS,if_neg (by omega),← heq,if_pos (by simpa using p22)]))
    | exact H.hp.ret (congrArg vi (by rw [checkS,if_neg (by omega),if_neg (by rw [hok];decide),if_pos hbad]))
    | exact H.hp.ret (congrArg vi (by rw [checkS,if_neg (by omega),if_neg (by rw [hok];decide),if_neg hbad,if_pos (any_stop hj2 hI)]))
    | exact H.hp.ret (congrArg vi (by rw [checkS,if_neg (by omega),if_neg (by rw [hok];decide),if_neg hbad,if_neg (any_done (by omega) hnc)]))
  intro h22
  try have p22:=dF h22
  refine kP H (Kc K9 (SC (Rd rfl (Rm rfl ?_))));clear H K9;intro a H;refine wl_nil ?_;refine loop_end ((k+1,G20)) (by exact (H).sub ⟨rfl,rfl,rfl,rfl,trivial⟩) ?_ ?_
  ·(try dsimp only);exact ⟨by omega,by rw [if_pos (by simpa using p22)] at heq;exact heq,fun b o h=>hm20 b o (hgm b o h)⟩
  first|omega|(dsimp only;omega)
 intro h16
 try have p16:=dF h16
 have hok:errF (ownAt l) 0 l.length=0:=by rw [← heq];exact errF_end (by omega)
 clear heq;have hvg:=hv.mono hgm;refine c_exit ?_;refine K5 _ _ ?_;clear K5;refine kP H (SQ fun _ K14=>SR fun _ K15=>Ro ty31chn 1 rfl rfl (Rl un31sty rfl (Rm rfl (Kz K15 (SB ?_)))));clear H K15;intro a H;skip;refine c_loopS (ι:=Nat × GH) (Tc:=[(1,_),(2,_),(25,_),(26,_)]) (Lc:=[(_,_),(_,_)]) (fun (gh:Nat × GH)=>[(27,vi gh.1)]) (fun (gh:Nat × GH)=>[]) (fun (gh:Nat × GH)=>gh.2) (fun (gh:Nat × GH)=>gh.1≤l.length∧(l.take gh.1).any (badRef l)=false∧(∀ b o,g b=some o→gh.2 b=some o)) (fun (gh:Nat × GH)=>l.length - gh.1) ((0,g)) (by exact (H).sub ⟨rfl,rfl,rfl,rfl,rfl,trivial⟩) ?_ ?_
 ·exact ⟨Nat.zero_le _,rfl,fun _ _ h=>h⟩
 clear H;intro gh a w hI H;obtain ⟨k,g2⟩:=gh;dsimp only at hI H;obtain ⟨hk3,hno,hgm2⟩:=hI;have hvg2:=hvg.mono hgm2;dsimp only [List.cons_append,List.nil_append,List.append_nil] at H;refine kP H (SR fun _ K16=>Rc rfl (Kz K16 (SQ fun _ K17=>?_)));clear H K16;intro a H;refine c_cond H rfl ?_ ?_
 ·intro h28
  try have p28:=dT h28
  have hk4:k < l.length:=by omega
  obtain ⟨b,o,pA,pc,rfl,hrow,hp,hrep⟩:=style_at hvg2 hk4;refine kP H (Kc K17 (SQ fun _ K18=>SB (SR fun _ K19=>Ri un31sty ty141sty rfl rfl ?_)));clear H K17;intro a H;refine s_loada ty141sty (cs:=[_,_,_,_,_,_]) H wn rfl rfl (fun j v hj=>H.hp.gcell (hrow j v hj)) rfl ?_;clear H;intro a H;refine s_alloc ty141sty H wn rfl ?_;clear H;intro b6 a w hb6 H;refine s_store ty141sty 0 (vs:=[_,_,_,_,_,_]) _ H wn rfl rfl rfl rfl rfl rfl rfl rfl ?_;clear H;intro w H;dsimp only [List.set,setRow] at H;refine K19 _ _ ?_;clear K19;refine kP H (SR fun _ K20=>Rf fd141_3chn rfl (Ro ty3run 0 rfl rfl (Rc rfl (Rm rfl ?_))));clear H;intro a H;refine s_split H 34 rfl ?_ ?_
  ·intro h34
   try have p34:=dT h34
   refine kH H (YO ty31chn 2 h34 rfl rfl (YF fd141_1sty h34 rfl (YO ty3run 0 h34 rfl rfl (YF fd141_3chn h34 rfl (YO ty3run 0 h34 rfl rfl ?_)))));clear H;intro a H;refine s_call en87chk H (wg H rfl rfl h34) rfl (is_spec _ _ H.hp.ro l l[k].kind l[k].base _ hvg2) rfl ?_;clear H;rintro v40 g2 a w rfl hm40 H;replace hgm2:=fun b o (h:g b=some o)=>hm40 b o (hgm2 b o h);replace hvg2:=hvg2.mono hm40;refine kH H (YN h34 rfl (Pt h34 rfl (Rm rfl ?_)));clear H;intro a H;refine s_split H 43 rfl ?_ ?_
   ·intro h43
    try have p43:=dT h43
    refine kH H (Ks h43 rfl (Ks h43 rfl (Ks h43 rfl (Ks h43 rfl (Ku rfl (Ku rfl (Ku rfl (Ku rfl (Ku rfl (Ku rfl (Ku rfl (Ku rfl (Ku rfl (Ku rfl ?_))))))))))))));clear H;intro a H;refine kH H (Ks h43 rfl (Pt h43 rfl (Kz K20 ?_)));clear H K20;intro a H;refine c_cond_t H rfl rfl ?_;refine c_seq (fun _ K21=>?_);have hbad:l.any (badRef l)=true:=any_stop hk4 (by unfold badRef;simp_all);refine c_region ?_;refine s_store ty46idx 1 (vs:=[_]) _ H wn rfl rfl rfl rfl rfl rfl rfl rfl ?_;clear H;intro w H;dsimp only [List.set,setRow] at H;refine wl_nil ?_;refine K21 _ _ ?_;clear K21;refine c_ret ?_;refine (leave1 H Tryz.results59 (.cons (rv_cell ty46idx H rfl (H.hp.ocell 1 rfl rfl)) .nil) ?_).1
    first
     | exact H.hp.ret (congrArg vi (by rw [checkS,if_pos (by omega)]))
     | exact H.hp.ret (congrArg vi (by rw [if_neg (by simpa using p22)] at heq;rw [checkS,if_neg (by omega),← heq,if_pos (by simpa using p22)]))
     | exact H.hp.ret (congrArg vi (by rw [checkS,if_neg (by omega),if_neg (by rw [hok];decide),if_pos hbad]))
     | exact H.hp.ret (congrArg vi (by rw [checkS,if_neg (by omega),if_neg (by rw [hok];decide),if_neg hbad,if_pos (any_stop hj2 hI)]))
     | exact H.hp.ret (congrArg vi (by rw [checkS,if_neg (by omega),if_neg (by rw [hok];decide),if_neg hbad,if_neg (any_done (by omega) hnc)]))
   intro h43
   try have p43:=dF h43
   refine kH H (YF fd141_4chk h43 rfl (YO ty3run 0 h43 rfl rfl (YC h43 rfl (YM h43 rfl ?_))));clear H;intro a H;refine s_split H 47 rfl ?_ ?_
   ·intro h47
    try have p47:=dT h47
    refine kH H (YF fd141_1sty h47 rfl (YO ty3run 0 h47 rfl rfl (YC h47 rfl (YM h47 rfl ?_))));clear H;intro a H;refine s_split H 51 rfl ?_ ?_
    ·intro h51
     try have p51:=dT h51
     refine kH H (Ks h51 rfl (Ks h51 rfl (Ks h51 rfl (Ks h51 rfl (Ks h51 rfl (PT h47 h51 rfl (PT h43 h47 rfl (Pf h43 rfl (Kz K20 ?_)))))))));clear H K20;intro a H;refine c_cond_t H rfl rfl ?_;refine c_seq (fun _ K22=>?_);have hbad:l.any (badRef l)=true:=any_stop hk4 (by unfold badRef;simp_all);refine c_region ?_;refine s_store ty46idx 1 (vs:=[_]) _ H wn rfl rfl rfl rfl rfl rfl rfl rfl ?_;clear H;intro w H;dsimp only [List.set,setRow] at H;refine wl_nil ?_;refine K22 _ _ ?_;clear K22;refine c_ret ?_;refine (leave1 H Tryz.results59 (.cons (rv_cell ty46idx H rfl (H.hp.ocell 1 rfl rfl)) .nil) ?_).1
     first
      | exact H.hp.ret (congrArg vi (by rw [checkS,if_pos (by omega)]))
      | exact H.hp.ret (congrArg vi (by rw [if_neg (by simpa using p22)] at heq;rw [checkS,if_neg (by omega),← heq,if_pos (by simpa using p22)]))
      | exact H.hp.ret (congrArg vi (by rw [checkS,if_neg (by omega),if_neg (by rw [hok];decide),if_pos hbad]))
      | exact H.hp.ret (congrArg vi (by rw [checkS,if_neg (by omega),if_neg (by rw [hok];decide),if_neg hbad,if_pos (any_stop hj2 hI)]))
      | exact H.hp.ret (congrArg vi (by rw [checkS,if_neg (by omega),if_neg (by rw [hok];decide),if_neg hbad,if_neg (any_done (by omega) hnc)]))
    intro h51
    try have p51:=dF h51
    refine kH H (YO ty31chn 2 h51 rfl rfl (YF fd141_4chk h51 rfl (YO ty3run 0 h51 rfl rfl ?_)));clear H;intro a H;refine s_call en87chk H (wg H rfl rfl h51) rfl (is_spec _ _ H.hp.ro l 1 l[k].next _ hvg2) rfl ?_;clear H;rintro v55 g2 a w rfl hm55 H;replace hgm2:=fun b o (h:g b=some o)=>hm55 b o (hgm2 b o h);replace hvg2:=hvg2.mono hm55;refine kH H (YN h51 rfl (PF h47 h51 rfl (PT h43 h47 rfl (Pf h43 rfl (Kz K20 ?_)))));clear H K20;intro a H;refine c_cond H rfl ?_ ?_
    ·intro h59
     try have p59:=dT h59
     refine c_seq (fun _ K23=>?_);have hbad:l.any (badRef l)=true:=any_stop hk4 (by unfold badRef;simp_all);refine c_region ?_;refine s_store ty46idx 1 (vs:=[_]) _ H wn rfl rfl rfl rfl rfl rfl rfl rfl ?_;clear H;intro w H;dsimp only [List.set,setRow] at H;refine wl_nil ?_;refine K23 _ _ ?_;clear K23;refine c_ret ?_;refine (leave1 H Tryz.results59 (.cons (rv_cell ty46idx H rfl (H.hp.ocell 1 rfl rfl)) .nil) ?_).1
     first
      | exact H.hp.ret (congrArg vi (by rw [checkS,if_pos (by omega)]))
      | exact H.hp.ret (congrArg vi (by rw [if_neg (by simpa using p22)] at heq;rw [checkS,if_neg (by omega),← heq,if_pos (by simpa using p22)]))
      | exact H.hp.ret (congrArg vi (by rw [checkS,if_neg (by omega),if_neg (by rw [hok];decide),if_pos hbad]))
      | exact H.hp.ret (congrArg vi (by rw [checkS,if_neg (by omega),if_neg (by rw [hok];decide),if_neg hbad,if_pos (any_stop hj2 hI)]))
      | exact H.hp.ret (congrArg vi (by rw [checkS,if_neg (by omega),if_neg (by rw [hok];decide),if_neg hbad,if_neg (any_done (by omega) hnc)]))
    intro h59
    try have p59:=dF h59
    refine kP H (Kc K18 (SC (Rd rfl (Rm rfl ?_))));clear H K18;intro a H;refine wl_nil ?_;refine loop_end ((k+1,g2)) (by exact (H.pickT (Pl:=[_,_,_]) (Pl':=[_,_]) [1,2] (by decide) rfl).sub ⟨rfl,rfl,rfl,rfl,rfl,trivial⟩) ?_ ?_
    ·(try dsimp only);exact ⟨by omega,any_next hk4 hno (by unfold badRef;simp_all),hgm2⟩
    first|omega|(dsimp only;omega)
   intro h47
   try have p47:=dF h47
   refine kH H (Ks h47 rfl (Ks h47 rfl (Ks h47 rfl (Ks h47 rfl (Ku rfl (Ku rfl (Ku rfl (Ku rfl (Ku rfl (Ks h47 rfl (PF h43 h47 rfl (Pf h43 rfl (Kz K20 ?_)))))))))))));clear H K20;intro a H;refine c_cond_f H rfl rfl ?_;refine kP H (Kc K18 (SC (Rd rfl (Rm rfl ?_))));clear H K18;intro a H;refine wl_nil ?_;refine loop_end ((k+1,g2)) (by exact (H.pickT (Pl:=[_,_,_]) (Pl':=[_,_]) [1,2] (by decide) rfl).sub ⟨rfl,rfl,rfl,rfl,rfl,trivial⟩) ?_ ?_
   ·(try dsimp only);exact ⟨by omega,any_next hk4 hno (by unfold badRef;simp_all),hgm2⟩
   first|omega|(dsimp only;omega)
  intro h34
  try have p34:=dF h34
  refine kH H (Ks h34 rfl (Ks h34 rfl (Ks h34 rfl (Ks h34 rfl (Ks h34 rfl (Ks h34 rfl (Ks h34 rfl (Pf h34 rfl (Rm rfl ?_)))))))));clear H;intro a H;refine s_field fd141_4chk H (wg H rfl rfl rfl) rfl rfl ?_;clear H;intro a H;refine s_load ty3run H (wg H rfl rfl rfl) rfl (H.hp.ocell 0 rfl rfl) rfl ?_;clear H;intro a H;refine s_cmp H (wg H rfl rfl rfl) rfl rfl rfl rfl ?_;clear H;intro a H;refine s_move H (wg H rfl rfl rfl) rfl rfl ?_;clear H;intro a H;refine s_split H 47 rfl ?_ ?_
  ·intro h47
   try have p47:=dT h47
   refine kH H (YF fd141_1sty h47 rfl (YO ty3run 0 h47 rfl rfl (YC h47 rfl (YM h47 rfl ?_))));clear H;intro a H;refine s_split H 51 rfl ?_ ?_
   ·intro h51
    try have p51:=dT h51
    refine kH H (Ks h51 rfl (Ks h51 rfl (Ks h51 rfl (Ks h51 rfl (Ks h51 rfl (PT h47 h51 rfl ?_))))));clear H;intro a H;refine s_pick_t H (wg H rfl rfl rfl) rfl h47 rfl rfl ?_;clear H;intro a H;refine kH H (Pf rfl rfl (Kz K20 ?_));clear H K20;intro a H;refine c_cond_t H rfl rfl ?_;refine c_seq (fun _ K24=>?_);have hbad:l.any (badRef l)=true:=any_stop hk4 (by unfold badRef;simp_all);refine c_region ?_;refine s_store ty46idx 1 (vs:=[_]) _ H wn rfl rfl rfl rfl rfl rfl rfl rfl ?_;clear H;intro w H;dsimp only [List.set,setRow] at H;refine wl_nil ?_;refine K24 _ _ ?_;clear K24;refine c_ret ?_;refine (leave1 H Tryz.results59 (.cons (rv_cell ty46idx H rfl (H.hp.ocell 1 rfl rfl)) .nil) ?_).1
    first
     | exact H.hp.ret (congrArg vi (by rw [checkS,if_pos (by omega)]))
     | exact H.hp.ret (congrArg vi (by rw [if_neg (by simpa using p22)] at heq;rw [checkS,if_neg (by omega),← heq,if_pos (by simpa using p22)]))
     | exact H.hp.ret (congrArg vi (by rw [checkS,if_neg (by omega),if_neg (by rw [hok];decide),if_pos hbad]))
     | exact H.hp.ret (congrArg vi (by rw [checkS,if_neg (by omega),if_neg (by rw [hok];decide),if_neg hbad,if_pos (any_stop hj2 hI)]))
     | exact H.hp.ret (congrArg vi (by rw [checkS,if_neg (by omega),if_neg (by rw [hok];decide),if_neg hbad,if_neg (any_done (by omega) hnc)]))
   intro h51
   try have p51:=dF h51
   refine kH H (YO ty31chn 2 h51 rfl rfl (YF fd141_4chk h51 rfl (YO ty3run 0 h51 rfl rfl ?_)));clear H;intro a H;refine s_call en87chk H (wg H rfl rfl h51) rfl (is_spec _ _ H.hp.ro l 1 l[k].next _ hvg2) rfl ?_;clear H;rintro v55 g2 a w rfl hm55 H;replace hgm2:=fun b o (h:g b=some o)=>hm55 b o (hgm2 b o h);replace hvg2:=hvg2.mono hm55;refine kH H (YN h51 rfl (PF h47 h51 rfl ?_));clear H;intro a H;refine s_pick_t H (wg H rfl rfl rfl) rfl h47 rfl rfl ?_;clear H;intro a H;refine kH H (Pf rfl rfl (Kz K20 ?_));clear H K20;intro a H;refine c_cond H rfl ?_ ?_
   ·intro h59
    try have p59:=dT h59
    refine c_seq (fun _ K25=>?_);have hbad:l.any (badRef l)=true:=any_stop hk4 (by unfold badRef;simp_all);refine c_region ?_;refine s_store ty46idx 1 (vs:=[_]) _ H wn rfl rfl rfl rfl rfl rfl rfl rfl ?_;clear H;intro w H;dsimp only [List.set,setRow] at H;refine wl_nil ?_;refine K25 _ _ ?_;clear K25;refine c_ret ?_;refine (leave1 H Tryz.results59 (.cons (rv_cell ty46idx H rfl (H.hp.ocell 1 rfl rfl)) .nil) ?_).1
    first
     | exact H.hp.ret (congrArg vi (by rw [checkS,if_pos (by omega)]))
     | exact H.hp.ret (congrArg vi (by rw [if_neg (by simpa using p22)] at heq;rw [checkS,if_neg (by omega),← heq,if_pos (by simpa using p22)]))
     | exact H.hp.ret (congrArg vi (by rw [checkS,if_neg (by omega),if_neg (by rw [hok];decide),if_pos hbad]))
     | exact H.hp.ret (congrArg vi (by rw [checkS,if_neg (by omega),if_neg (by rw [hok];decide),if_neg hbad,if_pos (any_stop hj2 hI)]))
     | exact H.hp.ret (congrArg vi (by rw [checkS,if_neg (by omega),if_neg (by rw [hok];decide),if_neg hbad,if_neg (any_done (by omega) hnc)]))
   intro h59
   try have p59:=dF h59
   refine kP H (Kc K18 (SC (Rd rfl (Rm rfl ?_))));clear H K18;intro a H;refine wl_nil ?_;refine loop_end ((k+1,g2)) (by exact (H.pickT (Pl:=[_,_,_]) (Pl':=[_,_]) [1,2] (by decide) rfl).sub ⟨rfl,rfl,rfl,rfl,rfl,trivial⟩) ?_ ?_
   ·(try dsimp only);exact ⟨by omega,any_next hk4 hno (by unfold badRef;simp_all),hgm2⟩
   first|omega|(dsimp only;omega)
  intro h47
  try have p47:=dF h47
  refine kH H (Ks h47 rfl (Ks h47 rfl (Ks h47 rfl (Ks h47 rfl (Ku rfl (Ku rfl (Ku rfl (Ku rfl (Ku rfl (Ks h47 rfl ?_))))))))));clear H;intro a H;refine s_pick_f H (wg H rfl rfl rfl) rfl h47 rfl rfl ?_;clear H;intro a H;refine kH H (Pf rfl rfl (Kz K20 ?_));clear H K20;intro a H;refine c_cond_f H rfl rfl ?_;refine kP H (Kc K18 (SC (Rd rfl (Rm rfl ?_))));clear H K18;intro a H;refine wl_nil ?_;refine loop_end ((k+1,g2)) (by exact (H.pickT (Pl:=[_,_,_]) (Pl':=[_,_]) [1,2] (by decide) rfl).sub ⟨rfl,rfl,rfl,rfl,rfl,trivial⟩) ?_ ?_
  ·(try dsimp only);exact ⟨by omega,any_next hk4 hno (by unfold badRef;simp_all),hgm2⟩
  first|omega|(dsimp only;omega)
 intro h28
 try have p28:=dF h28
 have hbad:=any_done (by omega) hno;refine c_exit ?_;refine K14 _ _ ?_;clear K14;refine kP H (SQ fun _ K26=>SR fun _ K27=>Ro ty31chn 1 rfl rfl (Rl un31sty rfl (Rm rfl (Kz K27 (SB ?_)))));clear H K27;intro a H;skip;refine c_loopD (ι:=Nat × GH × List Nat) (Tc:=[(1,_),(2,_),(61,_),(62,_)]) (Lc:=[(_,_),(_,_)]) (fun (gh:Nat × GH × List Nat)=>mkD gh.2.2) (fun (gh:Nat × GH × List Nat)=>[(63,vi gh.1)]) (fun (gh:Nat × GH × List Nat)=>[]++(mkL gh.2.2++[])) (fun (gh:Nat × GH × List Nat)=>gh.2.1) (fun (gh:Nat × GH × List Nat)=>gh.1≤l.length∧(l.take gh.1).any (cyc l)=false∧(∀ b o,g2 b=some o→gh.2.1 b=some o)) (fun (gh:Nat × GH × List Nat)=>l.length - gh.1) ((0,g2,[])) (by exact (H).sub ⟨rfl,rfl,rfl,rfl,rfl,trivial⟩) ?_ ?_
 ·exact ⟨Nat.zero_le _,rfl,fun _ _ h=>h⟩
 clear H;intro gh a w hI H;obtain ⟨j,g3,ds⟩:=gh;dsimp only at hI H;obtain ⟨hj,hnc,hgm3⟩:=hI;have hvg3:=hvg2.mono hgm3;dsimp only [List.cons_append,List.nil_append,List.append_nil] at H;refine kP H (SR fun _ K28=>Rc rfl (Kz K28 (SQ fun _ K29=>?_)));clear H K28;intro a H;refine c_cond H rfl ?_ ?_
 ·intro h64
  try have p64:=dT h64
  have hj2:j < l.length:=by omega
  obtain ⟨b,o,pA,pc,rfl,hrow,hp,hrep⟩:=style_at hvg3 hj2;refine kP H (Kc K29 (SQ fun _ K30=>SB (SR fun _ K31=>Ri un31sty ty141sty rfl rfl ?_)));clear H K29;intro a H;refine s_loada ty141sty (cs:=[_,_,_,_,_,_]) H wn rfl rfl (fun j v hj=>H.hp.gcell (hrow j v hj)) rfl ?_;clear H;intro a H;refine s_alloc ty141sty H wn rfl ?_;clear H;intro b8 a w hb8 H;refine s_store ty141sty 0 (vs:=[_,_,_,_,_,_]) _ H wn rfl rfl rfl rfl rfl rfl rfl rfl ?_;clear H;intro w H;dsimp only [List.set,setRow] at H;refine K31 _ _ ?_;clear K31;refine c_seqR (fun _ K32=>?_);refine s_alloc ty3run H wn rfl ?_;clear H;intro b9 a w hb9 H;refine s_store ty3run 0 (vs:=[_]) _ H wn rfl rfl rfl rfl rfl rfl rfl rfl ?_;clear H;intro w H;dsimp only [List.set,setRow] at H;refine K32 _ _ ?_;clear K32;refine kP H (SR fun _ K33=>Ro ty31chn 3 rfl rfl (Rf fd141_0sty rfl (Ro ty3run 1 rfl rfl ?_)));clear H;intro a H;refine s_callL en88chk (Li:=[_,_,_,_]++mkL ds) (L:=[]) (St.un (A:=[_,_,_,_]) H) wn rfl (chain_spec (Hp.owns (Li:=[_,_,_,_]++mkL ds) (St.un (A:=[_,_,_,_]) H).hp) l l[j].id _ hvg3) rfl ?_;clear H;rintro v70 g4 L70 a w ⟨bl,bi,rfl,rfl,hbl⟩ hm70 H;have H:=(St.nilT (A:=[_,_,_,_,_]) (B:=mkL ds) (H.perm List.perm_append_comm));dsimp only [List.cons_append,List.nil_append] at H;have hit:=chain1_iter (l:=l) (id:=l[j].id) (bi:=bi) hbl (hvg3.mono hm70) (own_nodup hok);refine K33 _ _ ?_;clear K33;refine c_block ?_;skip;refine c_rangeJI (B:=[(_,_)]) (ι:=Unit) (κ:=Int) (Lc:=[(_,_),(_,_)]) (fun (k:Nat) (gh:Unit)=>[(b9,.cells #[vi k] 3 (0,0)),(b2,.cells #[vi 0] 46 (0,0))]) (fun (k:Nat) (gh:Unit)=>(mkL ds++[])) (fun (k:Nat) (gh:Unit) (g:GH)=>k≤l.length) (fun (gx:Int)=>Code.ret) (fun (gx:Int)=>[(b9,.cells #[vi gx] 3 (0,0)),(b2,.cells #[vi 16] 46 (0,0))]) (fun (gx:Int)=>(mkL ds++[])) (fun (gx:Int) (g:GH)=>cyc l l[j]=true) (()) (by exact H.pickT (Pl:=[_,_,_,_,_]) (Pl':=[_,_,_,_,_]) [0,2,4,1,3] (by decide) rfl) rfl en117chn (hit) (fun _ _ h=>h) (fun e i g h=>absurd (of_decide_eq_false e) (by rw [List.length_map] at h;omega)) rfl (fun k args g h=>by obtain ⟨_,_,rfl,_⟩:=st_at h;rfl) (fun _ _ _ _ _ h=>h) (fun _ _ _ _ h=>h) (Nat.zero_le _) ?_ ?_ ?_
  ·clear H;intro l21 rdy bsy bk k args gh G21 w21 F21 B21 a hk21 hm21 hI hbeg21 hnext21 hstop21 H;obtain ⟨hk21,cs21,rfl,hrep21⟩:=st_at hk21;dsimp only [asg,List.cons_append,List.nil_append] at H;refine c_skip ?_;refine hbeg21 _ _ _ _ _ _ (by exact H) ?_;clear H;intro w H;refine kP H (SB (SR fun _ K34=>Ro ty3run 3 rfl rfl (Rd rfl ?_)));clear H;intro a H;refine s_store ty3run 3 (vs:=[_]) _ H wn rfl rfl rfl rfl rfl rfl rfl rfl ?_;clear H;intro w H;dsimp only [List.set,setRow] at H;refine K34 _ _ ?_;clear K34;refine kP H (SR fun _ K35=>Ro ty3run 3 rfl rfl (Ro ty31chn 2 rfl rfl (Rl un31sty rfl (Rc rfl (Kz K35 ?_)))));clear H K35;intro a H;refine c_cond H rfl ?_ ?_
   ·intro h77
    try have p77:=dT h77
    refine c_seqR (fun _ K36=>?_);refine s_store ty46idx 4 (vs:=[_]) _ H wn rfl rfl rfl rfl rfl rfl rfl rfl ?_;clear H;intro w H;dsimp only [List.set,setRow] at H;refine K36 _ _ ?_;clear K36;refine c_ret ?_;refine (hstop21 ((k:Int)+1) _ _ _ _ _ (by exact H) ?_).1 rfl;exact decide_eq_true (by omega)
   intro h77
   try have p77:=dF h77
   refine c_skip ?_;refine hnext21 (()) _ _ _ _ _ (by exact H) ?_
   omega
  ·clear H;intro Dk21 gh Gd21 a w hm21 hI H;dsimp only [List.cons_append,List.nil_append,List.append_nil] at H;refine K30 _ _ ?_;clear K30;refine kP H (SC (Rd rfl (Rm rfl ?_)));clear H;intro a H;refine wl_nil ?_;refine loopD_end ((j+1,Gd21,Dk21 :: ds)) (by exact (H.pickT (Pl:=[_,_,_,_,_]) (Pl':=[_,_,_]) [4,2,0] (by decide) rfl).sub ⟨rfl,rfl,rfl,rfl,rfl,trivial⟩) ?_ ?_
   ·(try dsimp only);exact ⟨by omega,any_next hj2 hnc (decide_eq_false (by rw [List.length_map] at hI;omega)),fun b o h=>hm21 b o (hm70 b o (hgm3 b o h))⟩
   first|omega|(dsimp only;omega)
  clear H;intro Dk21 gx Gd21 a w hm21 hI H;obtain ⟨x,hgh⟩:∃ x,x=gx:=⟨_,rfl⟩;subst hgh;dsimp only [List.cons_append,List.nil_append,List.append_nil] at H;refine c_ret ?_;refine (leaveM H 0 rfl ?_).1;clear H;intro a w H;dsimp only [List.eraseIdx_cons_succ,List.eraseIdx_cons_zero] at H;refine (leaveMs (Lh:=[_,_,_,_]) _ H ?_).1;clear H;intro a w H;dsimp only [List.cons_append,List.nil_append] at H;refine (leave1 H Tryz.results59 (.cons (rv_cell ty46idx H rfl (H.hp.ocell 3 rfl rfl)) .nil) ?_).1
  first
   | exact H.hp.ret (congrArg vi (by rw [checkS,if_pos (by omega)]))
   | exact H.hp.ret (congrArg vi (by rw [if_neg (by simpa using p22)] at heq;rw [checkS,if_neg (by omega),← heq,if_pos (by simpa using p22)]))
   | exact H.hp.ret (congrArg vi (by rw [checkS,if_neg (by omega),if_neg (by rw [hok];decide),if_pos hbad]))
   | exact H.hp.ret (congrArg vi (by rw [checkS,if_neg (by omega),if_neg (by rw [hok];decide),if_neg hbad,if_pos (any_stop hj2 hI)]))
   | exact H.hp.ret (congrArg vi (by rw [checkS,if_neg (by omega),if_neg (by rw [hok];decide),if_neg hbad,if_neg (any_done (by omega) hnc)]))
 intro h64
 try have p64:=dF h64
 refine c_exit ?_;refine K26 _ _ ?_;clear K26;refine c_seqR (fun _ K37=>?_);refine s_store ty46idx 0 (vs:=[_]) _ H wn rfl rfl rfl rfl rfl rfl rfl rfl ?_;clear H;intro w H;dsimp only [List.set,setRow] at H;refine K37 _ _ ?_;clear K37;refine c_ret ?_;refine (leaveMs (Lh:=[_,_]) _ H ?_).1;clear H;intro a w H;dsimp only [List.cons_append,List.nil_append] at H;refine (leave1 H Tryz.results59 (.cons (rv_cell ty46idx H rfl (H.hp.ocell 0 rfl rfl)) .nil) ?_).1
 first
  | exact H.hp.ret (congrArg vi (by rw [checkS,if_pos (by omega)]))
  | exact H.hp.ret (congrArg vi (by rw [if_neg (by simpa using p22)] at heq;rw [checkS,if_neg (by omega),← heq,if_pos (by simpa using p22)]))
  | exact H.hp.ret (congrArg vi (by rw [checkS,if_neg (by omega),if_neg (by rw [hok];decide),if_pos hbad]))
  | exact H.hp.ret (congrArg vi (by rw [checkS,if_neg (by omega),if_neg (by rw [hok];decide),if_neg hbad,if_pos (any_stop hj2 hI)]))
  | exact H.hp.ret (congrArg vi (by rw [checkS,if_neg (by omega),if_neg (by rw [hok];decide),if_neg hbad,if_neg (any_done (by omega) hnc)]))
end
section
open Go.RowKit
theorem ty34dsv:Ty Tryz.prog 34 1 24 [.slice none 0 0] false:=⟨by kernel_rfl,by kernel_rfl⟩
theorem un34dsv:Tryz.prog.underlying 34=some (.slice 175):=by kernel_rfl
theorem ty175dsv:Ty Tryz.prog 175 2 32 [.string ⟨#[]⟩,.string ⟨#[]⟩] true:=⟨by kernel_rfl,by kernel_rfl⟩
theorem fd175_0dsv:Fld Tryz.prog 175 0 0:=⟨by kernel_rfl⟩
theorem en98dsv:∀ args w,(callFunc 98 args).run Tryz.prog w=.ok (.enter 98 args) w:=enters Tryz.func98 rfl (by kernel_rfl)
theorem fd175_1dsv:Fld Tryz.prog 175 1 1:=⟨by kernel_rfl⟩
theorem fd36_0dsv:Fld Tryz.prog 36 0 0:=⟨by kernel_rfl⟩
theorem en59dsv:∀ args w,(callFunc 59 args).run Tryz.prog w=.ok (.enter 59 args) w:=enters Tryz.func59 rfl (by kernel_rfl)
theorem fd36_1dsv:Fld Tryz.prog 36 1 1:=⟨by kernel_rfl⟩
theorem en60dsv:∀ args w,(callFunc 60 args).run Tryz.prog w=.ok (.enter 60 args) w:=enters Tryz.func60 rfl (by kernel_rfl)
theorem fd36_2dsv:Fld Tryz.prog 36 2 2:=⟨by kernel_rfl⟩
theorem en61dsv:∀ args w,(callFunc 61 args).run Tryz.prog w=.ok (.enter 61 args) w:=enters Tryz.func61 rfl (by kernel_rfl)
theorem fd36_3dsv:Fld Tryz.prog 36 3 3:=⟨by kernel_rfl⟩
theorem en62dsv:∀ args w,(callFunc 62 args).run Tryz.prog w=.ok (.enter 62 args) w:=enters Tryz.func62 rfl (by kernel_rfl)
theorem en97dsv:∀ args w,(callFunc 97 args).run Tryz.prog w=.ok (.enter 97 args) w:=enters Tryz.func97 rfl (by kernel_rfl)
theorem va_at {G:GH} {l:List VaD} {A:Option Addr} {n c k:Nat} (hv:RepV G (.sl 2 (l.map VaD.dat)) (.slice A n c)) (hk:k < l.length):∃ b o,A=some ⟨b,o,none⟩∧(∀ j u,l[k].cells[j]?=some u→gcell G b (o+k*2+j)=some u):=by
 obtain ⟨A',c',he,_,_,hg⟩:=hv.slice
 injection he with e1 e2 e3
 subst e1;obtain ⟨b,o,cs,h1,h2,h3,h4⟩:=hg k l[k].dat (by simp [hk]);have:=va_of h4;subst this;exact ⟨b,o,h1,h3⟩
def vaE0 (k:Nat) (x:VaD) (pn:ByteArray):Int:=firstE [whenE (!cpNm x.name) 13,whenE (decide (0 < (k:Int)) && (x.name.toList == pn.toList)) 7,whenE (decide (0 < (k:Int)) && Op.bytesLess x.name.toList pn.toList) 6,txE x.value]
def vaE (l:List VaD) (k:Nat):Int:=match l[k]? with|some x=>vaE0 k x ((l[k - 1]?.map VaD.name).getD ⟨#[]⟩)|none=>0
set_option maxHeartbeats 2000000 in
theorem va_cb {G:GH} {bl:Nat} {l:List VaD} {A:Option Addr} {n c:Nat} (hb:gcell G bl 0=some (.slice A n c)) (hv:RepV G (.sl 2 (l.map VaD.dat)) (.slice A n c)) (hl:l.length≤4294967296) (ht:∀ x∈l,x.name.size < 4611686018427387904∧x.value.size < 4611686018427387904):IxCb (.func (.func 97) #[] #[.pointer (some ⟨bl,0,none⟩)]) G l.length (vaE l):=by
 intro k hk G1 w0 hm hG;refine callV_func (caps:=[.pointer (some ⟨bl,0,none⟩)]) en97dsv ?_;replace hb:=gcell_mono hm hb;replace hv:=hv.mono hm
 obtain rfl:n=l.length:=by have:=hv.len;simpa using this
 obtain ⟨b,o,rfl,hrow⟩:=va_at hv hk
 have hk1:k - 1 < l.length:=by omega
 obtain ⟨b',o',he',hrow'⟩:=va_at hv hk1
 injection he' with he'
 injection he' with e1 e2
 subst e1;subst e2;have hte:=ht _ (List.getElem_mem hk)
 have he:vaE l k=vaE0 k l[k] l[k - 1].name:=by unfold vaE;rw [List.getElem?_eq_getElem hk,List.getElem?_eq_getElem hk1];rfl
 obtain ⟨x,hx⟩:∃ x,x=l[k]:=⟨_,rfl⟩;obtain ⟨y,hy⟩:∃ y,y=l[k - 1]:=⟨_,rfl⟩;rw [← hx] at hrow hte he;rw [← hy] at hrow' he;refine eN [(0,_),(1,_)] Tryz.func97 rfl Tryz.ntmps97 rfl rfl hG ?_;intro a H;refine kP H (SR fun _ K1=>Ra rfl (Kz K1 (SQ fun _ K2=>?_)));clear H K1;intro a H;have H:=H.sub (T':=[(0,_),(1,_)]) ⟨rfl,rfl,trivial⟩
 by_cases c0:0 < (k:Int)
 ·skip;refine c_drawI (hmx) [[],[],[0,1],[0,1,2],[0,1,2,3],[0,1,2,3,4],[0,1,2,3,4,5],(List.range 7),[],[8],(List.range 10),(List.range 11),(List.range 11),(List.range 13),(List.range 14),(List.range 15),(List.range 11),(List.range 11),(List.range 11++[17]),(List.range 11++[17,18]),(List.range 11++[16,17,18,19]),(List.range 11++[16,17,18,19,20]),(List.range 11++[16,17,18,19,20,21]),(List.range 23),(List.range 24),(List.range 25),[],[26],(List.range 28),(List.range 29),(List.range 29),(List.range 31),(List.range 32),(List.range 33),(List.range 29),(List.range 29),(List.range 29++[35]),(List.range 29++[35,36]),(List.range 29++[34,35,36,37]),(List.range 29++[34,35,36,37,38]),(List.range 29++[34,35,36,37,38,39]),(List.range 41),(List.range 42),(List.range 43),[],[],[44,45],[44,45,46],[44,45,46,47],(List.range 49),(List.range 50),(List.range 51),(List.range 52)] [50,51,52] (by kernel_rfl) (by kernel_rfl) (fun (ix_:Nat) (v:Value) (G:GH)=>match ix_ with|0=>v=.slice (some ⟨b,o,none⟩) l.length c|1=>v=vi k|2=>v=.pointer (some ⟨b,o+k*2,none⟩)|3=>v=.pointer (some ⟨b,o+k*2+0,none⟩)|4=>v=.string x.name|5=>v=.bool (cpNm x.name)|6=>v=.bool (!cpNm x.name)|7=>v=vi (whenE (!cpNm x.name) 13)|8=>v=vi k|9=>v=.bool (decide (0 < (k:Int)))|10=>v=.bool (decide (0 < (k:Int)))|11=>v=.slice (some ⟨b,o,none⟩) l.length c|12=>v=vi k|13=>v=.pointer (some ⟨b,o+k*2,none⟩)|14=>v=.pointer (some ⟨b,o+k*2+0,none⟩)|15=>v=.string x.name|16=>v=.slice (some ⟨b,o,none⟩) l.length c|17=>v=vi k|18=>v=vi ((max k 1:Nat):Int)|19=>v=vi ((k - 1:Nat):Int)|20=>v=.pointer (some ⟨b,o+(k - 1)*2,none⟩)|21=>v=.pointer (some ⟨b,o+(k - 1)*2+0,none⟩)|22=>v=.string y.name|23=>v=.bool (x.name.toList == y.name.toList)|24=>v=.bool (decide (0 < (k:Int)) && (x.name.toList == y.name.toList))|25=>v=vi (whenE (decide (0 < (k:Int)) && (x.name.toList == y.name.toList)) 7)|26=>v=vi k|27=>v=.bool (decide (0 < (k:Int)))|28=>v=.bool (decide (0 < (k:Int)))|29=>v=.slice (some ⟨b,o,none⟩) l.length c|30=>v=vi k|31=>v=.pointer (some ⟨b,o+k*2,none⟩)|32=>v=.pointer (some ⟨b,o+k*2+0,none⟩)|33=>v=.string x.name|34=>v=.slice (some ⟨b,o,none⟩) l.length c|35=>v=vi k|36=>v=vi ((max k 1:Nat):Int)|37=>v=vi ((k - 1:Nat):Int)|38=>v=.pointer (some ⟨b,o+(k - 1)*2,none⟩)|39=>v=.pointer (some ⟨b,o+(k - 1)*2+0,none⟩)|40=>v=.string y.name|41=>v=.bool (Op.bytesLess x.name.toList y.name.toList)|42=>v=.bool (decide (0 < (k:Int)) && Op.bytesLess x.name.toList y.name.toList)|43=>v=vi (whenE (decide (0 < (k:Int)) && Op.bytesLess x.name.toList y.name.toList) 6)|44=>v=.slice (some ⟨b,o,none⟩) l.length c|45=>v=vi k|46=>v=.pointer (some ⟨b,o+k*2,none⟩)|47=>v=.pointer (some ⟨b,o+k*2+1,none⟩)|48=>v=.string x.value|49=>v=vi (txE x.value)|_=>True) (fun _ _ _ _ _ h=>h) H ?_ ?_
  ·clear H;refine al4 ?_ ?_ ?_ ?_ (al4 ?_ ?_ ?_ ?_ (al4 ?_ ?_ ?_ ?_ (al4 ?_ ?_ ?_ ?_ (al4 ?_ ?_ ?_ ?_ (al4 ?_ ?_ ?_ ?_ (al4 ?_ ?_ ?_ ?_ (al4 ?_ ?_ ?_ ?_ (al4 ?_ ?_ ?_ ?_ (al4 ?_ ?_ ?_ ?_ (al4 ?_ ?_ ?_ ?_ (al4 ?_ ?_ ?_ ?_ (al4 ?_ ?_ ?_ ?_ (allI_cons ?_ allI_nil)))))))))))))
   ·exact Op0 rfl fun _ _ _ _ hG _ H fin=>kH H (Rg ty34dsv rfl (gcell_mono hG hb) fun _ H=>fin H iJ rfl)
   ·exact Z0 rfl rfl fun _ _ _ _ _=>Rm rfl
   ·exact Z2 0 4 1 5 rfl rfl fun _ _ _ _ _=>Ri un34dsv ty175dsv rfl rfl
   ·exact Z1 2 6 rfl rfl fun _ _ _ _ _=>Rf fd175_0dsv rfl
   ·exact Op1 3 7 rfl rfl fun _ _ _ _ hG _ H fin=>kH H (Rg ty9run rfl (gcell_mono hG (hrow 0 _ rfl)) fun _ H=>fin H iJ rfl)
   ·refine Op1 4 8 rfl rfl fun _ a w G1 hG HT H fin=>?_;refine s_call en98dsv H wn rfl (cpNm_spec _ _ H.hp.ro x.name hte.1) rfl ?_;clear H;rintro v9 G9 a w ⟨rfl,-⟩ hGm9 H;exact fin H hGm9 (rfl)
   ·exact Z1 5 9 rfl rfl fun _ _ _ _ _=>Rn rfl
   ·refine Op1 6 10 rfl rfl fun _ a w G1 hG HT H fin=>?_;refine s_call en44nam H wn rfl (when_spec _ _ H.hp.ro _ 13) rfl ?_;clear H;rintro v11 G11 a w ⟨rfl,-⟩ hGm11 H;exact fin H hGm11 (rfl)
   ·exact Z0 rfl rfl fun _ _ _ _ _=>Rm rfl
   ·exact Z1 8 12 rfl rfl fun _ _ _ _ _=>Rc rfl
   ·exact Z1 9 13 rfl rfl fun _ _ _ _ _=>Rm rfl
   ·exact Op1 10 14 rfl rfl fun _ _ _ _ hG _ H fin=>kH H (YR ty34dsv (decide_eq_true c0) rfl (gcell_mono hG hb) fun _ H=>fin H iJ rfl)
   ·exact Op1 10 14 rfl rfl fun _ _ _ _ hG _ H fin=>kH H (YM (decide_eq_true c0) rfl fun _ H=>fin H iJ rfl)
   ·exact Op3 11 15 12 16 10 14 rfl rfl fun _ _ _ _ hG _ H fin=>kH H (YI un34dsv ty175dsv (decide_eq_true c0) rfl rfl fun _ H=>fin H iJ rfl)
   ·exact Op2 13 17 10 14 rfl rfl fun _ _ _ _ hG _ H fin=>kH H (YF fd175_0dsv (decide_eq_true c0) rfl fun _ H=>fin H iJ rfl)
   ·exact Op2 14 18 10 14 rfl rfl fun _ _ _ _ hG _ H fin=>kH H (YR ty9run (decide_eq_true c0) rfl (gcell_mono hG (hrow 0 _ rfl)) fun _ H=>fin H iJ rfl)
   ·exact Op1 10 14 rfl rfl fun _ _ _ _ hG _ H fin=>kH H (YR ty34dsv (decide_eq_true c0) rfl (gcell_mono hG hb) fun _ H=>fin H iJ rfl)
   ·exact Op1 10 14 rfl rfl fun _ _ _ _ hG _ H fin=>kH H (YM (decide_eq_true c0) rfl fun _ H=>fin H iJ rfl)
   ·refine Op2 17 21 10 14 rfl rfl fun _ a w G1 hG HT H fin=>?_;refine s_max H (wg H rfl rfl (decide_eq_true c0)) rfl rfl rfl ?_;clear H;intro a H;exact fin H iJ (by first|rfl|exact congrArg vi (by omega))
   ·refine Op2 18 22 10 14 rfl rfl fun _ a w G1 hG HT H fin=>?_;refine s_sub _ H (wg H rfl rfl (decide_eq_true c0)) rfl rfl rfl (by omega) (by omega) rfl ?_;clear H;intro a H;exact fin H iJ (by first|rfl|exact congrArg vi (by omega))
   ·exact Op3 16 20 19 23 10 14 rfl rfl fun _ _ _ _ hG _ H fin=>kH H (YI un34dsv ty175dsv (decide_eq_true c0) rfl rfl fun _ H=>fin H iJ rfl)
   ·exact Op2 20 24 10 14 rfl rfl fun _ _ _ _ hG _ H fin=>kH H (YF fd175_0dsv (decide_eq_true c0) rfl fun _ H=>fin H iJ rfl)
   ·exact Op2 21 25 10 14 rfl rfl fun _ _ _ _ hG _ H fin=>kH H (YR ty9run (decide_eq_true c0) rfl (gcell_mono hG (hrow' 0 _ rfl)) fun _ H=>fin H iJ rfl)
   ·refine Op3 15 19 22 26 10 14 rfl rfl fun _ a w G1 hG HT H fin=>?_;refine s_eqstr H (wg H rfl rfl (decide_eq_true c0)) rfl rfl rfl ?_;clear H;intro a H;exact fin H iJ rfl
   ·refine Op2 10 14 23 27 rfl rfl fun _ a w G1 hG HT H fin=>?_;refine kH H (Pt (decide_eq_true c0) rfl ?_);clear H;intro a H;exact fin H iJ (congrArg Value.bool (by first|(rw [decide_eq_true c0,Bool.true_and];done)|(rw [decide_eq_false c0,Bool.false_and];done)))
   ·refine Op1 24 28 rfl rfl fun _ a w G1 hG HT H fin=>?_;refine s_call en44nam H wn rfl (when_spec _ _ H.hp.ro _ 7) rfl ?_;clear H;rintro v29 G29 a w ⟨rfl,-⟩ hGm29 H;exact fin H hGm29 (rfl)
   ·exact Z0 rfl rfl fun _ _ _ _ _=>Rm rfl
   ·exact Z1 26 30 rfl rfl fun _ _ _ _ _=>Rc rfl
   ·exact Z1 27 31 rfl rfl fun _ _ _ _ _=>Rm rfl
   ·exact Op1 28 32 rfl rfl fun _ _ _ _ hG _ H fin=>kH H (YR ty34dsv (decide_eq_true c0) rfl (gcell_mono hG hb) fun _ H=>fin H iJ rfl)
   ·exact Op1 28 32 rfl rfl fun _ _ _ _ hG _ H fin=>kH H (YM (decide_eq_true c0) rfl fun _ H=>fin H iJ rfl)
   ·exact Op3 29 33 30 34 28 32 rfl rfl fun _ _ _ _ hG _ H fin=>kH H (YI un34dsv ty175dsv (decide_eq_true c0) rfl rfl fun _ H=>fin H iJ rfl)
   ·exact Op2 31 35 28 32 rfl rfl fun _ _ _ _ hG _ H fin=>kH H (YF fd175_0dsv (decide_eq_true c0) rfl fun _ H=>fin H iJ rfl)
   ·exact Op2 32 36 28 32 rfl rfl fun _ _ _ _ hG _ H fin=>kH H (YR ty9run (decide_eq_true c0) rfl (gcell_mono hG (hrow 0 _ rfl)) fun _ H=>fin H iJ rfl)
   ·exact Op1 28 32 rfl rfl fun _ _ _ _ hG _ H fin=>kH H (YR ty34dsv (decide_eq_true c0) rfl (gcell_mono hG hb) fun _ H=>fin H iJ rfl)
   ·exact Op1 28 32 rfl rfl fun _ _ _ _ hG _ H fin=>kH H (YM (decide_eq_true c0) rfl fun _ H=>fin H iJ rfl)
   ·refine Op2 35 39 28 32 rfl rfl fun _ a w G1 hG HT H fin=>?_;refine s_max H (wg H rfl rfl (decide_eq_true c0)) rfl rfl rfl ?_;clear H;intro a H;exact fin H iJ (by first|rfl|exact congrArg vi (by omega))
   ·refine Op2 36 40 28 32 rfl rfl fun _ a w G1 hG HT H fin=>?_;refine s_sub _ H (wg H rfl rfl (decide_eq_true c0)) rfl rfl rfl (by omega) (by omega) rfl ?_;clear H;intro a H;exact fin H iJ (by first|rfl|exact congrArg vi (by omega))
   ·exact Op3 34 38 37 41 28 32 rfl rfl fun _ _ _ _ hG _ H fin=>kH H (YI un34dsv ty175dsv (decide_eq_true c0) rfl rfl fun _ H=>fin H iJ rfl)
   ·exact Op2 38 42 28 32 rfl rfl fun _ _ _ _ hG _ H fin=>kH H (YF fd175_0dsv (decide_eq_true c0) rfl fun _ H=>fin H iJ rfl)
   ·exact Op2 39 43 28 32 rfl rfl fun _ _ _ _ hG _ H fin=>kH H (YR ty9run (decide_eq_true c0) rfl (gcell_mono hG (hrow' 0 _ rfl)) fun _ H=>fin H iJ rfl)
   ·refine Op3 33 37 40 44 28 32 rfl rfl fun _ a w G1 hG HT H fin=>?_;refine s_lssstr H (wg H rfl rfl (decide_eq_true c0)) rfl rfl rfl ?_;clear H;intro a H;exact fin H iJ rfl
   ·refine Op2 28 32 41 45 rfl rfl fun _ a w G1 hG HT H fin=>?_;refine kH H (Pt (decide_eq_true c0) rfl ?_);clear H;intro a H;exact fin H iJ (congrArg Value.bool (by first|(rw [decide_eq_true c0,Bool.true_and];done)|(rw [decide_eq_false c0,Bool.false_and];done)))
   ·refine Op1 42 46 rfl rfl fun _ a w G1 hG HT H fin=>?_;refine s_call en44nam H wn rfl (when_spec _ _ H.hp.ro _ 6) rfl ?_;clear H;rintro v47 G47 a w ⟨rfl,-⟩ hGm47 H;exact fin H hGm47 (rfl)
   ·exact Op0 rfl fun _ _ _ _ hG _ H fin=>kH H (Rg ty34dsv rfl (gcell_mono hG hb) fun _ H=>fin H iJ rfl)
   ·exact Z0 rfl rfl fun _ _ _ _ _=>Rm rfl
   ·exact Z2 44 48 45 49 rfl rfl fun _ _ _ _ _=>Ri un34dsv ty175dsv rfl rfl
   ·exact Z1 46 50 rfl rfl fun _ _ _ _ _=>Rf fd175_1dsv rfl
   ·exact Op1 47 51 rfl rfl fun _ _ _ _ hG _ H fin=>kH H (Rg ty9run rfl (gcell_mono hG (hrow 1 _ rfl)) fun _ H=>fin H iJ rfl)
   ·refine Op1 48 52 rfl rfl fun _ a w G1 hG HT H fin=>?_;refine s_call en96dsc H wn rfl (text_spec1 _ _ H.hp.ro x.value hte.2) rfl ?_;clear H;rintro v53 G53 a w rfl hGm53 H;exact fin H hGm53 (rfl)
   ·exact opB rfl
   ·exact opB rfl
   exact opB rfl
  clear H;intro a w G hGm1 H hv;obtain ⟨u11,hu11,hp11⟩:=hv 7 11 (by decide) rfl;obtain rfl:u11=vi (whenE (!cpNm x.name) 13):=hp11;have H:=H.addS hu11;obtain ⟨u29,hu29,hp29⟩:=hv 25 29 (by decide) rfl;obtain rfl:u29=vi (whenE (decide (0 < (k:Int)) && (x.name.toList == y.name.toList)) 7):=hp29;have H:=H.addS hu29;obtain ⟨u47,hu47,hp47⟩:=hv 43 47 (by decide) rfl;obtain rfl:u47=vi (whenE (decide (0 < (k:Int)) && Op.bytesLess x.name.toList y.name.toList) 6):=hp47;have H:=H.addS hu47;obtain ⟨u53,hu53,hp53⟩:=hv 49 53 (by decide) rfl;obtain rfl:u53=vi (txE x.value):=hp53;have H:=H.addS hu53;clear hv;refine s_buildSlice un127fst ty46idx [_,_,_,_] [_,_,_,_] H wn rfl rfl rfl rfl rfl (by intro i q h;match i,h with|0,h=>exact h|1,h=>exact h|2,h=>exact h|3,h=>exact h|n+4,h=>simp at h) rfl rfl ?_;clear H;intro b54 a w hb54 H;obtain ⟨G54,hm54,hb54',H⟩:=H.giveBox;refine s_call en39nam H wn rfl (first_spec1 _ _ H.hp.ro _ _ (ints_rep [whenE (!cpNm x.name) 13,whenE (decide (0 < (k:Int)) && (x.name.toList == y.name.toList)) 7,whenE (decide (0 < (k:Int)) && Op.bytesLess x.name.toList y.name.toList) 6,txE x.value] hb54' (show 4≤maxLen by decide))) rfl ?_;clear H;rintro v55 _ a w ⟨rfl,rfl⟩ - H;refine kH H (Ra rfl ?_);clear H;intro a H;refine wl_nil ⟨rfl,?_⟩;refine K2 _ _ ?_;clear K2;refine lr H Tryz.results97 rfl ?_;exact H.hp.ret (by rw [he];rfl)
 skip;refine c_drawI (hmx) [[],[],[0,1],[0,1,2],[0,1,2,3],[0,1,2,3,4],[0,1,2,3,4,5],(List.range 7),[],[8],(List.range 10),(List.range 11),(List.range 11),(List.range 13),(List.range 14),(List.range 15),(List.range 11),(List.range 11),(List.range 11++[17]),(List.range 11++[17,18]),(List.range 11++[16,17,18,19]),(List.range 11++[16,17,18,19,20]),(List.range 11++[16,17,18,19,20,21]),(List.range 23),(List.range 24),(List.range 25),[],[26],(List.range 28),(List.range 29),(List.range 29),(List.range 31),(List.range 32),(List.range 33),(List.range 29),(List.range 29),(List.range 29++[35]),(List.range 29++[35,36]),(List.range 29++[34,35,36,37]),(List.range 29++[34,35,36,37,38]),(List.range 29++[34,35,36,37,38,39]),(List.range 41),(List.range 42),(List.range 43),[],[],[44,45],[44,45,46],[44,45,46,47],(List.range 49),(List.range 50),(List.range 51),(List.range 52)] [50,51,52] (by kernel_rfl) (by kernel_rfl) (fun (ix_:Nat) (v:Value) (G:GH)=>match ix_ with|0=>v=.slice (some ⟨b,o,none⟩) l.length c|1=>v=vi k|2=>v=.pointer (some ⟨b,o+k*2,none⟩)|3=>v=.pointer (some ⟨b,o+k*2+0,none⟩)|4=>v=.string x.name|5=>v=.bool (cpNm x.name)|6=>v=.bool (!cpNm x.name)|7=>v=vi (whenE (!cpNm x.name) 13)|8=>v=vi k|9=>v=.bool (decide (0 < (k:Int)))|10=>v=.bool (decide (0 < (k:Int)))|11=>v=undef|12=>v=undef|13=>v=undef|14=>v=undef|15=>v=undef|16=>v=undef|17=>v=undef|18=>v=undef|19=>v=undef|20=>v=undef|21=>v=undef|22=>v=undef|23=>v=undef|24=>v=.bool (decide (0 < (k:Int)) && (x.name.toList == y.name.toList))|25=>v=vi (whenE (decide (0 < (k:Int)) && (x.name.toList == y.name.toList)) 7)|26=>v=vi k|27=>v=.bool (decide (0 < (k:Int)))|28=>v=.bool (decide (0 < (k:Int)))|29=>v=undef|30=>v=undef|31=>v=undef|32=>v=undef|33=>v=undef|34=>v=undef|35=>v=undef|36=>v=undef|37=>v=undef|38=>v=undef|39=>v=undef|40=>v=undef|41=>v=undef|42=>v=.bool (decide (0 < (k:Int)) && Op.bytesLess x.name.toList y.name.toList)|43=>v=vi (whenE (decide (0 < (k:Int)) && Op.bytesLess x.name.toList y.name.toList) 6)|44=>v=.slice (some ⟨b,o,none⟩) l.length c|45=>v=vi k|46=>v=.pointer (some ⟨b,o+k*2,none⟩)|47=>v=.pointer (some ⟨b,o+k*2+1,none⟩)|48=>v=.string x.value|49=>v=vi (txE x.value)|_=>True) (fun _ _ _ _ _ h=>h) H ?_ ?_
 ·clear H;refine al4 ?_ ?_ ?_ ?_ (al4 ?_ ?_ ?_ ?_ (al4 ?_ ?_ ?_ ?_ (al4 ?_ ?_ ?_ ?_ (al4 ?_ ?_ ?_ ?_ (al4 ?_ ?_ ?_ ?_ (al4 ?_ ?_ ?_ ?_ (al4 ?_ ?_ ?_ ?_ (al4 ?_ ?_ ?_ ?_ (al4 ?_ ?_ ?_ ?_ (al4 ?_ ?_ ?_ ?_ (al4 ?_ ?_ ?_ ?_ (al4 ?_ ?_ ?_ ?_ (allI_cons ?_ allI_nil)))))))))))))
  ·exact Op0 rfl fun _ _ _ _ hG _ H fin=>kH H (Rg ty34dsv rfl (gcell_mono hG hb) fun _ H=>fin H iJ rfl)
  ·exact Z0 rfl rfl fun _ _ _ _ _=>Rm rfl
  ·exact Z2 0 4 1 5 rfl rfl fun _ _ _ _ _=>Ri un34dsv ty175dsv rfl rfl
  ·exact Z1 2 6 rfl rfl fun _ _ _ _ _=>Rf fd175_0dsv rfl
  ·exact Op1 3 7 rfl rfl fun _ _ _ _ hG _ H fin=>kH H (Rg ty9run rfl (gcell_mono hG (hrow 0 _ rfl)) fun _ H=>fin H iJ rfl)
  ·refine Op1 4 8 rfl rfl fun _ a w G1 hG HT H fin=>?_;refine s_call en98dsv H wn rfl (cpNm_spec _ _ H.hp.ro x.name hte.1) rfl ?_;clear H;rintro v9 G9 a w ⟨rfl,-⟩ hGm9 H;exact fin H hGm9 (rfl)
  ·exact Z1 5 9 rfl rfl fun _ _ _ _ _=>Rn rfl
  ·refine Op1 6 10 rfl rfl fun _ a w G1 hG HT H fin=>?_;refine s_call en44nam H wn rfl (when_spec _ _ H.hp.ro _ 13) rfl ?_;clear H;rintro v11 G11 a w ⟨rfl,-⟩ hGm11 H;exact fin H hGm11 (rfl)
  ·exact Z0 rfl rfl fun _ _ _ _ _=>Rm rfl
  ·exact Z1 8 12 rfl rfl fun _ _ _ _ _=>Rc rfl
  ·exact Z1 9 13 rfl rfl fun _ _ _ _ _=>Rm rfl
  ·exact skI 10 (decide_eq_false c0) rfl rfl
  ·exact skI 10 (decide_eq_false c0) rfl rfl
  ·exact skI 10 (decide_eq_false c0) rfl rfl
  ·exact skI 10 (decide_eq_false c0) rfl rfl
  ·exact skI 10 (decide_eq_false c0) rfl rfl
  ·exact skI 10 (decide_eq_false c0) rfl rfl
  ·exact skI 10 (decide_eq_false c0) rfl rfl
  ·exact skI 10 (decide_eq_false c0) rfl rfl
  ·exact skI 10 (decide_eq_false c0) rfl rfl
  ·exact skI 10 (decide_eq_false c0) rfl rfl
  ·exact skI 10 (decide_eq_false c0) rfl rfl
  ·exact skI 10 (decide_eq_false c0) rfl rfl
  ·exact skI 10 (decide_eq_false c0) rfl rfl
  ·refine Op2 10 14 23 27 rfl rfl fun _ a w G1 hG HT H fin=>?_;refine kH H (Pf (decide_eq_false c0) rfl ?_);clear H;intro a H;exact fin H iJ (congrArg Value.bool (by first|(rw [decide_eq_true c0,Bool.true_and];done)|(rw [decide_eq_false c0,Bool.false_and];done)))
  ·refine Op1 24 28 rfl rfl fun _ a w G1 hG HT H fin=>?_;refine s_call en44nam H wn rfl (when_spec _ _ H.hp.ro _ 7) rfl ?_;clear H;rintro v29 G29 a w ⟨rfl,-⟩ hGm29 H;exact fin H hGm29 (rfl)
  ·exact Z0 rfl rfl fun _ _ _ _ _=>Rm rfl
  ·exact Z1 26 30 rfl rfl fun _ _ _ _ _=>Rc rfl
  ·exact Z1 27 31 rfl rfl fun _ _ _ _ _=>Rm rfl
  ·exact skI 28 (decide_eq_false c0) rfl rfl
  ·exact skI 28 (decide_eq_false c0) rfl rfl
  ·exact skI 28 (decide_eq_false c0) rfl rfl
  ·exact skI 28 (decide_eq_false c0) rfl rfl
  ·exact skI 28 (decide_eq_false c0) rfl rfl
  ·exact skI 28 (decide_eq_false c0) rfl rfl
  ·exact skI 28 (decide_eq_false c0) rfl rfl
  ·exact skI 28 (decide_eq_false c0) rfl rfl
  ·exact skI 28 (decide_eq_false c0) rfl rfl
  ·exact skI 28 (decide_eq_false c0) rfl rfl
  ·exact skI 28 (decide_eq_false c0) rfl rfl
  ·exact skI 28 (decide_eq_false c0) rfl rfl
  ·exact skI 28 (decide_eq_false c0) rfl rfl
  ·refine Op2 28 32 41 45 rfl rfl fun _ a w G1 hG HT H fin=>?_;refine kH H (Pf (decide_eq_false c0) rfl ?_);clear H;intro a H;exact fin H iJ (congrArg Value.bool (by first|(rw [decide_eq_true c0,Bool.true_and];done)|(rw [decide_eq_false c0,Bool.false_and];done)))
  ·refine Op1 42 46 rfl rfl fun _ a w G1 hG HT H fin=>?_;refine s_call en44nam H wn rfl (when_spec _ _ H.hp.ro _ 6) rfl ?_;clear H;rintro v47 G47 a w ⟨rfl,-⟩ hGm47 H;exact fin H hGm47 (rfl)
  ·exact Op0 rfl fun _ _ _ _ hG _ H fin=>kH H (Rg ty34dsv rfl (gcell_mono hG hb) fun _ H=>fin H iJ rfl)
  ·exact Z0 rfl rfl fun _ _ _ _ _=>Rm rfl
  ·exact Z2 44 48 45 49 rfl rfl fun _ _ _ _ _=>Ri un34dsv ty175dsv rfl rfl
  ·exact Z1 46 50 rfl rfl fun _ _ _ _ _=>Rf fd175_1dsv rfl
  ·exact Op1 47 51 rfl rfl fun _ _ _ _ hG _ H fin=>kH H (Rg ty9run rfl (gcell_mono hG (hrow 1 _ rfl)) fun _ H=>fin H iJ rfl)
  ·refine Op1 48 52 rfl rfl fun _ a w G1 hG HT H fin=>?_;refine s_call en96dsc H wn rfl (text_spec1 _ _ H.hp.ro x.value hte.2) rfl ?_;clear H;rintro v53 G53 a w rfl hGm53 H;exact fin H hGm53 (rfl)
  ·exact opB rfl
  ·exact opB rfl
  exact opB rfl
 clear H;intro a w G hGm1 H hv;obtain ⟨u11,hu11,hp11⟩:=hv 7 11 (by decide) rfl;obtain rfl:u11=vi (whenE (!cpNm x.name) 13):=hp11;have H:=H.addS hu11;obtain ⟨u29,hu29,hp29⟩:=hv 25 29 (by decide) rfl;obtain rfl:u29=vi (whenE (decide (0 < (k:Int)) && (x.name.toList == y.name.toList)) 7):=hp29;have H:=H.addS hu29;obtain ⟨u47,hu47,hp47⟩:=hv 43 47 (by decide) rfl;obtain rfl:u47=vi (whenE (decide (0 < (k:Int)) && Op.bytesLess x.name.toList y.name.toList) 6):=hp47;have H:=H.addS hu47;obtain ⟨u53,hu53,hp53⟩:=hv 49 53 (by decide) rfl;obtain rfl:u53=vi (txE x.value):=hp53;have H:=H.addS hu53;clear hv;refine s_buildSlice un127fst ty46idx [_,_,_,_] [_,_,_,_] H wn rfl rfl rfl rfl rfl (by intro i q h;match i,h with|0,h=>exact h|1,h=>exact h|2,h=>exact h|3,h=>exact h|n+4,h=>simp at h) rfl rfl ?_;clear H;intro b54 a w hb54 H;obtain ⟨G54,hm54,hb54',H⟩:=H.giveBox;refine s_call en39nam H wn rfl (first_spec1 _ _ H.hp.ro _ _ (ints_rep [whenE (!cpNm x.name) 13,whenE (decide (0 < (k:Int)) && (x.name.toList == y.name.toList)) 7,whenE (decide (0 < (k:Int)) && Op.bytesLess x.name.toList y.name.toList) 6,txE x.value] hb54' (show 4≤maxLen by decide))) rfl ?_;clear H;rintro v55 _ a w ⟨rfl,rfl⟩ - H;refine kH H (Ra rfl ?_);clear H;intro a H;refine wl_nil ⟨rfl,?_⟩;refine K2 _ _ ?_;clear K2;refine lr H Tryz.results97 rfl ?_;exact H.hp.ret (by rw [he];rfl)
def chkVas (l:List VaD):Int:=firstE [whenE (decide (128 < (l.length:Int))) 9,allE (vaE l) (min l.length 128)]
theorem checkVars_spec (G:GH) (w0:World) (hG:Hold G w0) (l:List VaD) (v:Value) (hv:RepV G (.sl 2 (l.map VaD.dat)) v) (hl:l.length≤4294967296) (ht:∀ x∈l,x.name.size < 4611686018427387904∧x.value.size < 4611686018427387904) :
  Calls Tryz.prog 62 #[v] w0 (Ret w0 G fun u G'=>u=vi (chkVas l)):=by
 obtain ⟨A,c,rfl,hc1,hc2,-⟩:=hv.slice;rw [List.length_map] at *;refine eN [(0,_)] Tryz.func62 rfl Tryz.ntmps62 rfl rfl hG ?_;intro a H;refine c_seqR (fun _ K1=>?_);refine s_box (cs:=[_]) H wn rfl rfl rfl ?_;clear H;intro b1 a w hb1 H;refine kH H (Ra rfl (Kz K1 (SQ fun _ K2=>?_)));clear H K1;intro a H;have H:=H.sub (T':=[(1,_)]) ⟨rfl,trivial⟩;obtain ⟨Ga,hma,hb1',H⟩:=H.giveBox
 have hbl:gcell Ga b1 0=some (.slice A l.length c):=by unfold gcell;rw [hb1'];rfl
 have hcb:=va_cb hbl (hv.mono hma) hl ht;refine c_drawI (hmx) [[],[0],[0,1],[0,1,2],[],[4],[4,5],[],(List.range 8),(List.range 9),(List.range 10),(List.range 11)] [9,10,11] (by kernel_rfl) (by kernel_rfl) (fun (ix_:Nat) (v:Value) (G:GH)=>match ix_ with|0=>v=.slice A l.length c|1=>v=vi l.length|2=>v=.bool (decide (128 < (l.length:Int)))|3=>v=vi (whenE (decide (128 < (l.length:Int))) 9)|4=>v=.slice A l.length c|5=>v=vi l.length|6=>v=vi ((min l.length 128:Nat):Int)|7=>v=.func (.func 97) #[] #[.pointer (some ⟨b1,0,none⟩)]|8=>v=vi (allE (vaE l) (min l.length 128))|_=>True) (fun _ _ _ _ _ h=>h) H ?_ ?_
 ·clear H;refine al4 ?_ ?_ ?_ ?_ (al4 ?_ ?_ ?_ ?_ (al4 ?_ ?_ ?_ ?_ allI_nil))
  ·exact Op0 rfl fun _ _ _ _ hG _ H fin=>kH H (Rg ty34dsv rfl (gcell_mono hG hbl) fun _ H=>fin H iJ rfl)
  ·exact Z1 0 3 rfl rfl fun _ _ _ _ _=>Rl un34dsv rfl
  ·exact Z1 1 4 rfl rfl fun _ _ _ _ _=>Rc rfl
  ·refine Op1 2 5 rfl rfl fun _ a w G1 hG HT H fin=>?_;refine s_call en44nam H wn rfl (when_spec _ _ H.hp.ro _ 9) rfl ?_;clear H;rintro v6 G6 a w ⟨rfl,-⟩ hGm6 H;exact fin H hGm6 (rfl)
  ·exact Op0 rfl fun _ _ _ _ hG _ H fin=>kH H (Rg ty34dsv rfl (gcell_mono hG hbl) fun _ H=>fin H iJ rfl)
  ·exact Z1 4 7 rfl rfl fun _ _ _ _ _=>Rl un34dsv rfl
  ·refine Op1 5 8 rfl rfl fun _ a w G1 hG HT H fin=>?_;refine s_min H wn rfl rfl rfl ?_;clear H;intro a H;exact fin H iJ (congrArg vi (by omega))
  ·refine Op0 rfl fun _ a w G1 hG HT H fin=>?_;refine s_makeFunc H wn rfl rfl ?_;clear H;intro a H;exact fin H iJ rfl
  ·refine Op2 6 9 7 10 rfl rfl fun _ a w G1 hG HT H fin=>?_;refine s_call en63dst H wn rfl (all_spec _ _ H.hp.ro (min l.length 128) (vaE l) _ (by omega) ((hcb.mono hG).le (Nat.min_le_left _ _))) rfl ?_;clear H;rintro v11 G11 a w rfl hGm11 H;exact fin H hGm11 (rfl)
  ·exact opB rfl
  ·exact opB rfl
  exact opB rfl
 clear H;intro a w G hGm1 H hv;obtain ⟨u6,hu6,hp6⟩:=hv 3 6 (by decide) rfl;obtain rfl:u6=vi (whenE (decide (128 < (l.length:Int))) 9):=hp6;have H:=H.addS hu6;obtain ⟨u11,hu11,hp11⟩:=hv 8 11 (by decide) rfl;obtain rfl:u11=vi (allE (vaE l) (min l.length 128)):=hp11;have H:=H.addS hu11;clear hv;refine s_buildSlice un127fst ty46idx [_,_] [_,_] H wn rfl rfl rfl rfl rfl (by intro i q h;match i,h with|0,h=>exact h|1,h=>exact h|n+2,h=>simp at h) rfl rfl ?_;clear H;intro b12 a w hb12 H;obtain ⟨G12,hm12,hb12',H⟩:=H.giveBox;refine s_call en39nam H wn rfl (first_spec1 _ _ H.hp.ro _ _ (two_rep hb12')) rfl ?_;clear H;rintro v13 _ a w ⟨rfl,rfl⟩ - H;refine kH H (Ra rfl ?_);clear H;intro a H;refine wl_nil ⟨rfl,?_⟩;refine K2 _ _ ?_;clear K2;refine lr H Tryz.results62 rfl ?_;exact H.hp.ret rfl
/-- Settings. -/
structure StgD where
 styles:List StyleD
 lists:List LiD
 comments:List CmD
 vars:List VaD
structure StgR (G:GH) (s:StgD) (a b c d:Value):Prop where
 st:RepV G (.sl 6 (s.styles.map StyleD.dat)) a
 li:RepV G (.sl 2 (s.lists.map LiD.dat)) b
 cm:RepV G (.sl 6 (s.comments.map CmD.dat)) c
 va:RepV G (.sl 2 (s.vars.map VaD.dat)) d
/-- Bounds that no machine passes. -/
structure StgZ (s:StgD):Prop where
 sn:∀ x∈s.styles,x.name.size≤4611686018427387904
 ln:s.lists.length≤4294967296
 lt:∀ x∈s.lists,∀ y∈x.levels,y.tmpl.size < 4611686018427387904
 cn:s.comments.length≤4294967296
 ct:∀ x∈s.comments,x.author.size < 4611686018427387904∧x.text.size < 4611686018427387904
 vn:s.vars.length≤4294967296
 vt:∀ x∈s.vars,x.name.size < 4611686018427387904∧x.value.size < 4611686018427387904
def chkStg (s:StgD):Int:=firstE [checkS s.styles,chkLis s.lists,chkCms s.comments,chkVas s.vars]
theorem checkSettings_spec (G:GH) (w0:World) (hG:Hold G w0) (s:StgD) (a b c d:Value) (hR:StgR G s a b c d) (hz:StgZ s) :
  Calls Tryz.prog 40 #[.agg #[a,b,c,d]] w0 (Ret w0 G fun u G'=>u=vi (chkStg s)):=by
 obtain ⟨sA,sn,sc,rfl⟩:=hR.st.form;obtain ⟨lA,ln,lc,rfl⟩:=hR.li.form;obtain ⟨cA,cn,cc,rfl⟩:=hR.cm.form;obtain ⟨vA,vn,vc,rfl⟩:=hR.va.form;refine eN [(0,_)] Tryz.func40 rfl Tryz.ntmps40 rfl rfl hG ?_;intro a H;refine c_seqR (fun _ K1=>?_);refine s_box (cs:=[_,_,_,_]) H wn rfl rfl rfl ?_;clear H;intro b1 a w hb1 H;refine kH H (Ra rfl (Kz K1 (SQ fun _ K2=>?_)));clear H K1;intro a H;have H:=H.sub (T':=[(1,_)]) ⟨rfl,trivial⟩;obtain ⟨Ga,hma,hb1',H⟩:=H.giveBox
 have hc0:gcell Ga b1 0=some (.slice sA sn sc):=by unfold gcell;rw [hb1'];rfl
 have hc1:gcell Ga b1 1=some (.slice lA ln lc):=by unfold gcell;rw [hb1'];rfl
 have hc2:gcell Ga b1 2=some (.slice cA cn cc):=by unfold gcell;rw [hb1'];rfl
 have hc3:gcell Ga b1 3=some (.slice vA vn vc):=by unfold gcell;rw [hb1'];rfl
 refine c_drawI (hmx) [[],[0],[0,1],[],[3],[0,1,2,3,4],[],[6],(List.range 8),[],[9],(List.range 11),(List.range 12),(List.range 13),(List.range 14)] [12,13,14] (by kernel_rfl) (by kernel_rfl) (fun (ix_:Nat) (v:Value) (G:GH)=>match ix_ with|0=>v=.pointer (some ⟨b1,0,none⟩)|1=>v=.slice sA sn sc|2=>v=vi (checkS s.styles)|3=>v=.pointer (some ⟨b1,1,none⟩)|4=>v=.slice lA ln lc|5=>v=vi (chkLis s.lists)|6=>v=.pointer (some ⟨b1,2,none⟩)|7=>v=.slice cA cn cc|8=>v=vi (chkCms s.comments)|9=>v=.pointer (some ⟨b1,3,none⟩)|10=>v=.slice vA vn vc|11=>v=vi (chkVas s.vars)|_=>True) (fun _ _ _ _ _ h=>h) H ?_ ?_
 ·clear H;refine al4 ?_ ?_ ?_ ?_ (al4 ?_ ?_ ?_ ?_ (al4 ?_ ?_ ?_ ?_ (allI_cons ?_ (allI_cons ?_ (allI_cons ?_ allI_nil)))))
  ·exact Z0 rfl rfl fun _ _ _ _ _=>Rf fd36_0dsv rfl
  ·exact Op1 0 3 rfl rfl fun _ _ _ _ hG _ H fin=>kH H (Rg ty31chn rfl (gcell_mono hG hc0) fun _ H=>fin H iJ rfl)
  ·refine Op1 1 4 rfl rfl fun _ a w G1 hG HT H fin=>?_;refine s_call en59dsv H wn rfl (check_styles _ _ H.hp.ro s.styles _ ((hR.st.mono hma).mono hG) hz.sn) rfl ?_;clear H;rintro v5 G5 a w rfl hGm5 H;exact fin H hGm5 (rfl)
  ·exact Z0 rfl rfl fun _ _ _ _ _=>Rf fd36_1dsv rfl
  ·exact Op1 3 6 rfl rfl fun _ _ _ _ hG _ H fin=>kH H (Rg ty32dst rfl (gcell_mono hG hc1) fun _ H=>fin H iJ rfl)
  ·refine Op1 4 7 rfl rfl fun _ a w G1 hG HT H fin=>?_;refine s_call en60dsv H wn rfl (checkLists_spec _ _ H.hp.ro s.lists _ ((hR.li.mono hma).mono hG) hz.ln hz.lt) rfl ?_;clear H;rintro v8 G8 a w rfl hGm8 H;exact fin H hGm8 (rfl)
  ·exact Z0 rfl rfl fun _ _ _ _ _=>Rf fd36_2dsv rfl
  ·exact Op1 6 9 rfl rfl fun _ _ _ _ hG _ H fin=>kH H (Rg ty33dsc rfl (gcell_mono hG hc2) fun _ H=>fin H iJ rfl)
  ·refine Op1 7 10 rfl rfl fun _ a w G1 hG HT H fin=>?_;refine s_call en61dsv H wn rfl (checkComments_spec _ _ H.hp.ro s.comments _ ((hR.cm.mono hma).mono hG) hz.cn hz.ct) rfl ?_;clear H;rintro v11 G11 a w rfl hGm11 H;exact fin H hGm11 (rfl)
  ·exact Z0 rfl rfl fun _ _ _ _ _=>Rf fd36_3dsv rfl
  ·exact Op1 9 12 rfl rfl fun _ _ _ _ hG _ H fin=>kH H (Rg ty34dsv rfl (gcell_mono hG hc3) fun _ H=>fin H iJ rfl)
  ·refine Op1 10 13 rfl rfl fun _ a w G1 hG HT H fin=>?_;refine s_call en62dsv H wn rfl (checkVars_spec _ _ H.hp.ro s.vars _ ((hR.va.mono hma).mono hG) hz.vn hz.vt) rfl ?_;clear H;rintro v14 G14 a w rfl hGm14 H;exact fin H hGm14 (rfl)
  ·exact opB rfl
  ·exact opB rfl
  exact opB rfl
 clear H;intro a w G hGm1 H hv;obtain ⟨u5,hu5,hp5⟩:=hv 2 5 (by decide) rfl;obtain rfl:u5=vi (checkS s.styles):=hp5;have H:=H.addS hu5;obtain ⟨u8,hu8,hp8⟩:=hv 5 8 (by decide) rfl;obtain rfl:u8=vi (chkLis s.lists):=hp8;have H:=H.addS hu8;obtain ⟨u11,hu11,hp11⟩:=hv 8 11 (by decide) rfl;obtain rfl:u11=vi (chkCms s.comments):=hp11;have H:=H.addS hu11;obtain ⟨u14,hu14,hp14⟩:=hv 11 14 (by decide) rfl;obtain rfl:u14=vi (chkVas s.vars):=hp14;have H:=H.addS hu14;clear hv;refine s_buildSlice un127fst ty46idx [_,_,_,_] [_,_,_,_] H wn rfl rfl rfl rfl rfl (by intro i q h;match i,h with|0,h=>exact h|1,h=>exact h|2,h=>exact h|3,h=>exact h|n+4,h=>simp at h) rfl rfl ?_;clear H;intro b15 a w hb15 H;obtain ⟨G15,hm15,hb15',H⟩:=H.giveBox;refine s_call en39nam H wn rfl (first_spec1 _ _ H.hp.ro _ _ (ints_rep [checkS s.styles,chkLis s.lists,chkCms s.comments,chkVas s.vars] hb15' (show 4≤maxLen by decide))) rfl ?_;clear H;rintro v16 _ a w ⟨rfl,rfl⟩ - H;refine kH H (Ra rfl ?_);clear H;intro a H;refine wl_nil ⟨rfl,?_⟩;refine K2 _ _ ?_;clear K2;refine lr H Tryz.results40 rfl ?_;exact H.hp.ret rfl
end
section
open Go.RowKit
/-- The entries of a map that was filled in an order. -/
def mapK:Nat→List (Int × Value)→List MapEntry
 | _,[]=>[]
 | i,(k,v) :: r=>⟨.int .i64 k,v,i⟩ :: mapK (i+1) r
theorem mapK_snoc (x:Int × Value):∀ (i:Nat) (l:List (Int × Value)),mapK i (l++[x])=mapK i l++[⟨.int .i64 x.1,x.2,i+l.length⟩]
 | _,[]=>rfl
 | i,k :: r=>by
  rw [List.cons_append,mapK,mapK_snoc x (i+1) r,mapK,List.cons_append,List.length_cons,show i+1+r.length=i+(r.length+1) by omega]
def lkK (x:Int):List (Int × Value)→Option Value
 | []=>none
 | (k,v) :: r=>if k=x then some v else lkK x r
theorem lkK_none {x:Int}:∀ {l:List (Int × Value)},x∉l.map (·.1)→lkK x l=none
 | [],_=>rfl
 | (k,v) :: r,h=>by
  rw [lkK,if_neg (fun e=>h (by simp [e])),lkK_none (fun hm=>h (List.mem_cons_of_mem _ hm))]
theorem findNow_mapK (x:Int):∀ (i j:Nat) (l:List (Int × Value)),∃ an,Instr.findNow (.int .i64) (.int .i64 x) (mapK i l) j=some an∧an.map (·.2)=lkK x l
 | _,_,[]=>⟨none,rfl,rfl⟩
 | i,j,(k,v) :: r=>by
  obtain ⟨an,h1,h2⟩:=findNow_mapK x (i+1) (j+1) r
  by_cases e:k=x
  ·subst e
   exact ⟨some (j,v),by simp only [mapK,Instr.findNow,Instr.sameNow,if_pos,beq_self_eq_true],by rw [lkK,if_pos rfl];rfl⟩
  ·have hb:(x == k)=false:=by simp;exact fun h=>e h.symm
   exact ⟨an,by simpa only [mapK,Instr.findNow,Instr.sameNow,if_pos,hb] using h1,by rw [lkK,if_neg e];exact h2⟩
abbrev mpK (l:List (Int × Value)):Obj:=.map (mapK 0 l).toArray l.length
section
variable {N:Nat} {D:List Deferred} {w0:World} {F:Nat→Prop} {G0 G:GH} {L:OL} {T:List (Nat × Value)}
variable {r:Option Nat} {P:Program} {ops:Array Oper} {Q:Exit→Act→World→Prop} {rest:List Oper} {a:Act} {w:World}
variable {d:Nat} {ty:TypeId} {pos:String} {aft:Array Edge} {g:Option (Nat × Bool)}
theorem s_lookupK {t kt et:TypeId} {x y:Operand} {b:Nat} {l:List (Int × Value)} {ky:Int} {zv:Value} (hm:P.underlying t=some (.map kt et)) (hk:P.underlying kt=some (.int .i64)) (hz:(P.info? et).map (fun i=>i.zero)=some (some zv)) (H:St N D w0 F G0 G L T a w)
  (hw:Region.wanted ⟨some d,.lookup t x y false,ty,pos,aft,g⟩ (yielded ops a.tmps)=true) (hx:ev T x=some (.map (some b))) (hy:ev T y=some (.int .i64 ky)) (hb:w.heap[b]?=some (mpK l)) (hd:Nat.blt d N=true)
  (k:∀ a',St N D w0 F G0 G L ((d,(lkK ky l).getD zv) :: T) a' w→WL r P ops Q rest a' w):WL r P ops Q (⟨some d,.lookup t x y false,ty,pos,aft,g⟩ :: rest) a w:=by
 obtain ⟨an,hf,han⟩:=findNow_mapK ky 0 0 l
 obtain ⟨inf,hi1,hi2⟩:=Option.map_eq_some_iff.1 hz
 refine wl_value (v:=(lkK ky l).getD zv) (w':=w) hw rfl ?_ (k _ (H.put hd _ H.hp))
 have hkey:MapKept.IsKey (.int .i64) (.int .i64 ky):=by trivial
 have hf2:Instr.findNow (.int .i64) (.int .i64 ky) (mapK 0 l).toArray.toList 0=some an:=by simpa using hf
 replace hb:w.heap[b]?=some (.map (mapK 0 l).toArray l.length):=hb
 generalize (mapK 0 l).toArray=es at hb hf2
 have h1:=MapKept.run_checkKey (P:=P) (w:=w) hk hkey es.isEmpty 9999
 have h2:=MapKept.run_findKey (P:=P) (w:=w) hk hf2
 rw [← han]
 cases an with
 | none=>simp [execOp,Instr.lookup,H.ev hx,H.ev hy,Sem.run_bind,run_und hm,MapKept.run_getObj_map hb,h1,h2,Result.andThen,zeroValue,run_info hi1,hi2]
 | some q=>simp [execOp,Instr.lookup,H.ev hx,H.ev hy,Sem.run_bind,run_und hm,MapKept.run_getObj_map hb,h1,h2,Result.andThen]
/-- A key that is not there yet. -/
theorem s_putK {t kt et:TypeId} {x y z:Operand} {b i:Nat} {l:List (Int × Value)} {ky:Int} {v:Value} (hm:P.underlying t=some (.map kt et)) (hk:P.underlying kt=some (.int .i64)) (H:St N D w0 F G0 G L T a w)
  (hw:Region.wanted ⟨none,.mapUpdate t x y z,ty,pos,aft,g⟩ (yielded ops a.tmps)=true) (hx:ev T x=some (.map (some b))) (hy:ev T y=some (.int .i64 ky)) (hzv:ev T z=some v) (hi:L[i]?=some (b,mpK l)) (hn:lkK ky l=none)
  (k:∀ w',St N D w0 F G0 G (L.set i (b,mpK (l++[(ky,v)]))) T a w'→WL r P ops Q rest a w'):WL r P ops Q (⟨none,.mapUpdate t x y z,ty,pos,aft,g⟩ :: rest) a w:=by
 obtain ⟨an,hf,han⟩:=findNow_mapK ky 0 0 l
 have hnone:an=none:=by
  rw [hn] at han
  cases an with
  | none=>rfl
  | some q=>cases han
 subst hnone
 refine s_mapNew (i:=i) hm hk H hw hx hy hzv hi (by trivial) (by simpa using hf) ?_
 intro w' H'
 have e:(mapK 0 l).toArray.push ⟨.int .i64 ky,v,l.length⟩=(mapK 0 (l++[(ky,v)])).toArray:=by
  rw [mapK_snoc,List.push_toArray,Nat.zero_add]
 refine k w' ?_
 rw [e] at H'
 rw [mpK,List.length_append]
 exact H'
end
end
section
open Go.RowKit
theorem un105nck:Tryz.prog.underlying 105=some (.map 3 4):=by kernel_rfl
theorem ty135nck:Ty Tryz.prog 135 3 32 [.int .i64 0,.string ⟨#[]⟩,.int .i64 0] true:=⟨by kernel_rfl,by kernel_rfl⟩
theorem sr107nck:Srt Tryz.prog 107 [(0,1),(1,1),(2,1),(3,1),(4,1),(5,1)] [.map none,.map none,.map none,.map none,.map none,.int .i64 0]:=⟨by kernel_rfl,by kernel_rfl⟩
theorem fd38_3nck:Fld Tryz.prog 38 3 7:=⟨by kernel_rfl⟩
theorem fd107_0nck:Fld Tryz.prog 107 0 0:=⟨by kernel_rfl⟩
theorem ty104nck:Ty Tryz.prog 104 1 8 [.map none] false:=⟨by kernel_rfl,by kernel_rfl⟩
theorem fd107_1nck:Fld Tryz.prog 107 1 1:=⟨by kernel_rfl⟩
theorem ty105nck:Ty Tryz.prog 105 1 8 [.map none] false:=⟨by kernel_rfl,by kernel_rfl⟩
theorem fd38_2nck:Fld Tryz.prog 38 2 6:=⟨by kernel_rfl⟩
theorem ty30nck:Ty Tryz.prog 30 1 24 [.slice none 0 0] false:=⟨by kernel_rfl,by kernel_rfl⟩
theorem un30nck:Tryz.prog.underlying 30=some (.slice 135):=by kernel_rfl
theorem fd107_2nck:Fld Tryz.prog 107 2 2:=⟨by kernel_rfl⟩
theorem fd135_0nck:Fld Tryz.prog 135 0 0:=⟨by kernel_rfl⟩
structure RvD where
 id:Int
 author:ByteArray
 time:Int
def RvD.dat (x:RvD):List Dat:=[li x.id,.lf (.string x.author),li x.time]
abbrev RvD.cells (x:RvD):List Value:=[vi x.id,.string x.author,vi x.time]
theorem rv_of {G:GH} {x:RvD} {cs:List Value} (h:RepRow G x.dat cs):cs=x.cells:=by
 simp only [RvD.dat,RepRow,RepV] at h
 obtain ⟨_,_,rfl,⟨rfl,_⟩,_,_,rfl,⟨rfl,_⟩,_,_,rfl,⟨rfl,_⟩,rfl⟩:=h
 rfl
theorem rv_at {G:GH} {l:List RvD} {A:Option Addr} {n c k:Nat} (hv:RepV G (.sl 3 (l.map RvD.dat)) (.slice A n c)) (hk:k < l.length):∃ b o,A=some ⟨b,o,none⟩∧(∀ j u,l[k].cells[j]?=some u→gcell G b (o+k*3+j)=some u):=by
 obtain ⟨A',c',he,_,_,hg⟩:=hv.slice
 injection he with e1 e2 e3
 subst e1;obtain ⟨b,o,cs,h1,h2,h3,h4⟩:=hg k l[k].dat (by simp [hk]);have:=rv_of h4;subst this;exact ⟨b,o,h1,h3⟩
/-- A checker's block. -/
abbrev ckB (b ms ml mr mb mu:Nat) (n:Int):Nat × Obj:=(b,.cells #[.map (some ms),.map (some ml),.map (some mr),.map (some mb),.map (some mu),vi n] 107 (0,0))
def mSty (l:List StyleD):List (Int × Value):=l.map fun s=>(s.id,vi s.kind)
def mSet (l:List Int):List (Int × Value):=l.map fun k=>(k,.bool true)
/-- What a checker holds of a document's tables. -/
structure CkG (G:GH) (st:List StyleD) (li:List LiD) (rv:List RvD) (ms ml mr mu:Nat):Prop where
 sty:G ms=some (mpK (mSty st))
 lis:G ml=some (mpK (mSet (li.map LiD.id)))
 rev:G mr=some (mpK (mSet (rv.map RvD.id)))
 use:G mu=some (mpK [])
theorem CkG.mono {G G':GH} {st:List StyleD} {li:List LiD} {rv:List RvD} {ms ml mr mu:Nat} (h:CkG G st li rv ms ml mr mu) (hm:∀ b o,G b=some o→G' b=some o):CkG G' st li rv ms ml mr mu:=⟨hm _ _ h.sty,hm _ _ h.lis,hm _ _ h.rev,hm _ _ h.use⟩
def Fresh (l:List Int):Prop:=∀ (k:Nat) (h:k < l.length),l[k]∉l.take k
theorem mSty_snoc {l:List StyleD} {k:Nat} (h:k < l.length):mSty (l.take (k+1))=mSty (l.take k)++[(l[k].id,vi l[k].kind)]:=by rw [mSty,List.take_succ_eq_append_getElem h,List.map_append];rfl
theorem mSet_snoc {l:List Int} {k:Nat} (h:k < l.length):mSet (l.take (k+1))=mSet (l.take k)++[(l[k],.bool true)]:=by rw [mSet,List.take_succ_eq_append_getElem h,List.map_append];rfl
theorem mSty_new {l:List StyleD} {k:Nat} (f:Fresh (l.map StyleD.id)) (h:k < l.length):lkK l[k].id (mSty (l.take k))=none:=by
 refine lkK_none ?_;have:=f k (by simpa using h)
 simpa [mSty,List.map_take,List.map_map,Function.comp_def] using this
theorem mSet_new {l:List Int} {k:Nat} (f:Fresh l) (h:k < l.length):lkK l[k] (mSet (l.take k))=none:=by
 refine lkK_none ?_;have:=f k h
 simpa [mSet,List.map_map,Function.comp_def] using this
theorem newChecker_spec (G:GH) (w0:World) (hO:Owns G [] w0) (D:DocV) (st:List StyleD) (li:List LiD) (rv:List RvD) (hst:RepV G (.sl 6 (st.map StyleD.dat)) (sl3 D.s1)) (hli:RepV G (.sl 2 (li.map LiD.dat)) (sl3 D.s2)) (hrv:RepV G (.sl 3 (rv.map RvD.dat)) (sl3 D.r))
  (f1:Fresh (st.map StyleD.id)) (f2:Fresh (li.map LiD.id)) (f3:Fresh (rv.map RvD.id)) (z1:st.length≤4294967296) (z2:li.length≤4294967296) (z3:rv.length≤4294967296) :
  Calls Tryz.prog 42 #[D.val] w0 (RetL w0 G [] fun u G' L'=>∃ b ms ml mr mb mu,u=.pointer (some ⟨b,0,none⟩)∧L'=[ckB b ms ml mr mb mu 0,(mb,mpK [])]∧CkG G' st li rv ms ml mr mu):=by
 obtain ⟨df,dp,dd,dy,⟨rA,rn,rc⟩,⟨sA,sn,sc⟩,⟨lA,ln,lc⟩,d3,d4,ins,mv⟩:=D;dsimp only at hst hli hrv
 obtain rfl:sn=st.length:=by have:=hst.len;simpa using this
 obtain rfl:ln=li.length:=by have:=hli.len;simpa using this
 obtain rfl:rn=rv.length:=by have:=hrv.len;simpa using this
 have hml:maxLen=9223372036854775807:=rfl;refine enterL (N:=64) (T:=[(0,_)]) Tryz.func42 rfl Tryz.ntmps42 rfl rfl hO ?_;intro a H;refine c_seqR (fun _ K1=>?_);refine s_box (cs:=[_,_,_,_,_,_,_,_,_,_,_]) H wn rfl rfl rfl ?_;clear H;intro b1 a w hb1 H;refine kH H (Ra rfl (Kz K1 (SQ fun _ K2=>?_)));clear H K1;intro a H;obtain ⟨Ga,hma,hb1',H⟩:=H.giveBox
 have hc7:gcell Ga b1 7=some (.slice sA st.length sc):=by unfold gcell;rw [hb1'];rfl
 have hc8:gcell Ga b1 8=some (.slice lA li.length lc):=by unfold gcell;rw [hb1'];rfl
 have hc6:gcell Ga b1 6=some (.slice rA rv.length rc):=by unfold gcell;rw [hb1'];rfl
 replace hst:=hst.mono hma;replace hli:=hli.mono hma;replace hrv:=hrv.mono hma;refine c_region ?_;refine s_makeMap H wn rfl ?_;clear H;intro b10 a w hb10 H;refine s_makeMap H wn rfl ?_;clear H;intro b11 a w hb11 H;refine s_makeMap H wn rfl ?_;clear H;intro b12 a w hb12 H;refine s_makeMap H wn rfl ?_;clear H;intro b13 a w hb13 H;refine s_makeMap H wn rfl ?_;clear H;intro b14 a w hb14 H;refine s_build sr107nck [_,_,_,_,_,_] H wn rfl rfl rfl rfl ?_;clear H;intro a H;refine s_box (cs:=[_,_,_,_,_,_]) H wn rfl rfl rfl ?_;clear H;intro b16 a w hb16 H;refine kH H (Ra rfl (Kn K2 (SQ fun _ K3=>SR fun _ K4=>Rf fd38_3nck rfl (Rf fd36_0dsv rfl (Rg ty31chn rfl (by assumption) ?_)))));clear H K2;intro a H;refine kH H (Rl un31sty rfl (Rm rfl (Kz K4 (SB ?_))));clear H K4;intro a H;skip;refine c_loopS (ι:=Nat × GH) (Tc:=[(1,_),(3,_),(19,_),(20,_)]) (Lc:=[(_,_),(_,_),(_,_),(_,_),(_,_)]) (fun (gh:Nat × GH)=>[(21,vi gh.1)]) (fun (gh:Nat × GH)=>[(b10,mpK (mSty (st.take gh.1)))]) (fun (gh:Nat × GH)=>gh.2) (fun (gh:Nat × GH)=>gh.1≤st.length∧(∀ b o,Ga b=some o→gh.2 b=some o)) (fun (gh:Nat × GH)=>st.length - gh.1) ((0,Ga)) (by exact (H).sub ⟨rfl,rfl,rfl,rfl,rfl,trivial⟩) ?_ ?_
 ·exact ⟨Nat.zero_le _,fun _ _ h=>h⟩
 clear H;intro gh a w hI H;obtain ⟨k,g1⟩:=gh;dsimp only at hI H;obtain ⟨hk,hmg1⟩:=hI;dsimp only [List.cons_append,List.nil_append,List.append_nil] at H;refine kP H (SR fun _ K5=>Rc rfl (Kz K5 (SQ fun _ K6=>?_)));clear H K5;intro a H;refine c_cond H rfl ?_ ?_
 ·intro h22
  try have p22:=dT h22
  have hk2:k < st.length:=by omega
  obtain ⟨xb,xo,pA,pc,rfl,hrow,-,-⟩:=style_at (hst.mono hmg1) hk2;have hnew:=mSty_new f1 hk2;refine kP H (Kc K6 (SQ fun _ K7=>SB (SR fun _ K8=>Ri un31sty ty141sty rfl rfl ?_)));clear H K6;intro a H;refine s_loada ty141sty (cs:=_) H wn rfl rfl (fun j v hj=>H.hp.gcell (hrow j v hj)) rfl ?_;clear H;intro a H;refine s_alloc ty141sty H wn rfl ?_;clear H;intro b5 a w hb5 H;refine s_store ty141sty 0 (vs:=[_,_,_,_,_,_]) _ H wn rfl rfl rfl rfl rfl rfl rfl rfl ?_;clear H;intro w H;dsimp only [List.set,setRow] at H;refine K8 _ _ ?_;clear K8;refine c_drawI (hmx) [[],[0],[0,1],[0,1,2],[],[4],[],[6],(List.range 8)] [8] (by kernel_rfl) (by kernel_rfl) (fun (ix_:Nat) (v:Value) (G:GH)=>match ix_ with|0=>v=.pointer (some ⟨b16,0,none⟩)|1=>v=.pointer (some ⟨b16,0,none⟩)|2=>v=.pointer (some ⟨b16,0,none⟩)|3=>v=.map (some b10)|4=>v=.pointer (some ⟨b5,0,none⟩)|5=>v=vi st[k].id|6=>v=.pointer (some ⟨b5,1,none⟩)|7=>v=vi st[k].kind|_=>True) (fun _ _ _ _ _ h=>h) H ?_ ?_
  ·clear H;refine al4 ?_ ?_ ?_ ?_ (al4 ?_ ?_ ?_ ?_ (allI_cons ?_ allI_nil))
   ·exact Z0 rfl rfl fun _ _ _ _ _=>Rm rfl
   ·exact Z1 0 25 rfl rfl fun _ _ _ _ _=>Rk rfl
   ·exact Z1 1 26 rfl rfl fun _ _ _ _ _=>Rf fd107_0nck rfl
   ·exact Z1 2 27 rfl rfl fun _ _ _ _ _=>Ro ty104nck 1 rfl rfl
   ·exact Z0 rfl rfl fun _ _ _ _ _=>Rf fd141_0sty rfl
   ·exact Z1 4 29 rfl rfl fun _ _ _ _ _=>Ro ty3run 0 rfl rfl
   ·exact Z0 rfl rfl fun _ _ _ _ _=>Rf fd141_1sty rfl
   ·exact Z1 6 31 rfl rfl fun _ _ _ _ _=>Ro ty3run 0 rfl rfl
   exact opB rfl
  clear H;intro a w G hGm5 H hv;obtain ⟨u28,hu28,hp28⟩:=hv 3 28 (by decide) rfl;obtain rfl:u28=.map (some b10):=hp28;have H:=H.addS hu28;obtain ⟨u30,hu30,hp30⟩:=hv 5 30 (by decide) rfl;obtain rfl:u30=vi st[k].id:=hp30;have H:=H.addS hu30;obtain ⟨u32,hu32,hp32⟩:=hv 7 32 (by decide) rfl;obtain rfl:u32=vi st[k].kind:=hp32;have H:=H.addS hu32;clear hv;refine s_putK (i:=6) un104chn un3cp H wn rfl rfl rfl rfl hnew ?_;clear H;intro w H;dsimp only [List.set,List.append,List.cons_append,List.nil_append] at H;rw [← mSty_snoc hk2] at H;refine wl_nil ⟨rfl,?_⟩;refine K7 _ _ ?_;clear K7;refine kP H (SC (Rd rfl (Rm rfl ?_)));clear H;intro a H;refine wl_nil ?_;refine loop_end ((k+1,G)) (by exact (H.pickT (Pl:=[_,_,_,_,_,_,_]) (Pl':=[_,_,_,_,_,_]) [1,2,3,4,5,6] (by decide) rfl).sub ⟨rfl,rfl,rfl,rfl,rfl,trivial⟩) ?_ ?_
  ·(try dsimp only);exact ⟨by omega,fun b o h=>hGm5 b o (hmg1 b o h)⟩
  first|omega|(dsimp only;omega)
 intro h22
 try have p22:=dF h22
 obtain rfl:k=st.length:=by omega
 rw [List.take_length] at H;have hc8g:=gcell_mono hmg1 hc8;refine c_exit ?_;refine K3 _ _ ?_;clear K3;refine kP H (SQ fun _ K9=>SR fun _ K10=>Rf fd38_3nck rfl (Rf fd36_1dsv rfl (Rg ty32dst rfl (by assumption) ?_)));clear H;intro a H;refine kH H (Rl un32dst rfl (Rm rfl (Kz K10 (SB ?_))));clear H K10;intro a H;skip;refine c_loopS (ι:=Nat × GH) (Tc:=[(1,_),(3,_),(36,_),(37,_)]) (Lc:=[(_,_),(_,_),(_,_),(_,_),(_,_)]) (fun (gh:Nat × GH)=>[(38,vi gh.1)]) (fun (gh:Nat × GH)=>[(b11,mpK (mSet ((li.map LiD.id).take gh.1)))]) (fun (gh:Nat × GH)=>gh.2) (fun (gh:Nat × GH)=>gh.1≤li.length∧(∀ b o,g1 b=some o→gh.2 b=some o)) (fun (gh:Nat × GH)=>li.length - gh.1) ((0,g1)) (by exact (H.pickT (Pl:=[_,_,_,_,_,_]) (Pl':=[_,_,_,_,_,_]) [0,1,2,3,5,4] (by decide) rfl).sub ⟨rfl,rfl,rfl,rfl,rfl,trivial⟩) ?_ ?_
 ·exact ⟨Nat.zero_le _,fun _ _ h=>h⟩
 clear H;intro gh a w hI H;obtain ⟨k,g2⟩:=gh;dsimp only at hI H;obtain ⟨hk,hmg2⟩:=hI;dsimp only [List.cons_append,List.nil_append,List.append_nil] at H;refine kP H (SR fun _ K11=>Rc rfl (Kz K11 (SQ fun _ K12=>?_)));clear H K11;intro a H;refine c_cond H rfl ?_ ?_
 ·intro h39
  try have p39:=dT h39
  have hk2:k < li.length:=by omega
  obtain ⟨xb,xo,B,d,rfl,hrow,-⟩:=li_at ((hli.mono hmg1).mono hmg2) hk2
  have hk3:k < (li.map LiD.id).length:=by simpa using hk2
  have hnew:=mSet_new f2 hk3
  have hgk:(li.map LiD.id)[k]=li[k].id:=by simp
  rw [hgk] at hnew;refine kP H (Kc K12 (SQ fun _ K13=>SB (SR fun _ K14=>Ri un32dst ty144dst rfl rfl ?_)));clear H K12;intro a H;refine s_loada ty144dst (cs:=_) H wn rfl rfl (fun j v hj=>H.hp.gcell (hrow j v hj)) rfl ?_;clear H;intro a H;refine s_alloc ty144dst H wn rfl ?_;clear H;intro b7 a w hb7 H;refine s_store ty144dst 0 (vs:=[_,_]) _ H wn rfl rfl rfl rfl rfl rfl rfl rfl ?_;clear H;intro w H;dsimp only [List.set,setRow] at H;refine K14 _ _ ?_;clear K14;refine c_drawI (hmx) [[],[0],[0,1],[0,1,2],[],[4],[0,1,2,3,4,5]] [6] (by kernel_rfl) (by kernel_rfl) (fun (ix_:Nat) (v:Value) (G:GH)=>match ix_ with|0=>v=.pointer (some ⟨b16,0,none⟩)|1=>v=.pointer (some ⟨b16,0,none⟩)|2=>v=.pointer (some ⟨b16,1,none⟩)|3=>v=.map (some b11)|4=>v=.pointer (some ⟨b7,0,none⟩)|5=>v=vi li[k].id|_=>True) (fun _ _ _ _ _ h=>h) H ?_ ?_
  ·clear H;refine al4 ?_ ?_ ?_ ?_ (allI_cons ?_ (allI_cons ?_ (allI_cons ?_ allI_nil)))
   ·exact Z0 rfl rfl fun _ _ _ _ _=>Rm rfl
   ·exact Z1 0 42 rfl rfl fun _ _ _ _ _=>Rk rfl
   ·exact Z1 1 43 rfl rfl fun _ _ _ _ _=>Rf fd107_1nck rfl
   ·exact Z1 2 44 rfl rfl fun _ _ _ _ _=>Ro ty105nck 1 rfl rfl
   ·exact Z0 rfl rfl fun _ _ _ _ _=>Rf fd144_0dst rfl
   ·exact Z1 4 46 rfl rfl fun _ _ _ _ _=>Ro ty3run 0 rfl rfl
   exact opB rfl
  clear H;intro a w G hGm10 H hv;obtain ⟨u45,hu45,hp45⟩:=hv 3 45 (by decide) rfl;obtain rfl:u45=.map (some b11):=hp45;have H:=H.addS hu45;obtain ⟨u47,hu47,hp47⟩:=hv 5 47 (by decide) rfl;obtain rfl:u47=vi li[k].id:=hp47;have H:=H.addS hu47;clear hv;refine s_putK (i:=6) un105nck un3cp H wn rfl rfl rfl rfl hnew ?_;clear H;intro w H;dsimp only [List.set,List.append,List.cons_append,List.nil_append] at H;rw [← hgk,← mSet_snoc hk3] at H;refine wl_nil ⟨rfl,?_⟩;refine K13 _ _ ?_;clear K13;refine kP H (SC (Rd rfl (Rm rfl ?_)));clear H;intro a H;refine wl_nil ?_;refine loop_end ((k+1,G)) (by exact (H.pickT (Pl:=[_,_,_,_,_,_,_]) (Pl':=[_,_,_,_,_,_]) [1,2,3,4,5,6] (by decide) rfl).sub ⟨rfl,rfl,rfl,rfl,rfl,trivial⟩) ?_ ?_
  ·(try dsimp only);exact ⟨by omega,fun b o h=>hGm10 b o (hmg2 b o h)⟩
  first|omega|(dsimp only;omega)
 intro h39
 try have p39:=dF h39
 obtain rfl:k=li.length:=by omega
 rw [List.take_of_length_le (by simp)] at H;have hc6g:=gcell_mono hmg2 (gcell_mono hmg1 hc6);refine c_exit ?_;refine K9 _ _ ?_;clear K9;refine kP H (SQ fun _ K15=>SR fun _ K16=>Rf fd38_2nck rfl (Rg ty30nck rfl (by assumption) ?_));clear H;intro a H;refine kH H (Rl un30nck rfl (Rm rfl (Kz K16 (SB ?_))));clear H K16;intro a H;skip;refine c_loopS (ι:=Nat × GH) (Tc:=[(3,_),(50,_),(51,_)]) (Lc:=[(_,_),(_,_),(_,_),(_,_),(_,_)]) (fun (gh:Nat × GH)=>[(52,vi gh.1)]) (fun (gh:Nat × GH)=>[(b12,mpK (mSet ((rv.map RvD.id).take gh.1)))]) (fun (gh:Nat × GH)=>gh.2) (fun (gh:Nat × GH)=>gh.1≤rv.length∧(∀ b o,g2 b=some o→gh.2 b=some o)) (fun (gh:Nat × GH)=>rv.length - gh.1) ((0,g2)) (by exact (H.pickT (Pl:=[_,_,_,_,_,_]) (Pl':=[_,_,_,_,_,_]) [0,1,2,4,5,3] (by decide) rfl).sub ⟨rfl,rfl,rfl,rfl,trivial⟩) ?_ ?_
 ·exact ⟨Nat.zero_le _,fun _ _ h=>h⟩
 clear H;intro gh a w hI H;obtain ⟨k,g3⟩:=gh;dsimp only at hI H;obtain ⟨hk,hmg3⟩:=hI;dsimp only [List.cons_append,List.nil_append,List.append_nil] at H;refine kP H (SR fun _ K17=>Rc rfl (Kz K17 (SQ fun _ K18=>?_)));clear H K17;intro a H;refine c_cond H rfl ?_ ?_
 ·intro h53
  try have p53:=dT h53
  have hk2:k < rv.length:=by omega
  obtain ⟨xb,xo,rfl,hrow⟩:=rv_at (((hrv.mono hmg1).mono hmg2).mono hmg3) hk2
  have hk3:k < (rv.map RvD.id).length:=by simpa using hk2
  have hnew:=mSet_new f3 hk3
  have hgk:(rv.map RvD.id)[k]=rv[k].id:=by simp
  rw [hgk] at hnew;refine kP H (Kc K18 (SQ fun _ K19=>SB (SR fun _ K20=>Ri un30nck ty135nck rfl rfl ?_)));clear H K18;intro a H;refine s_loada ty135nck (cs:=_) H wn rfl rfl (fun j v hj=>H.hp.gcell (hrow j v hj)) rfl ?_;clear H;intro a H;refine s_alloc ty135nck H wn rfl ?_;clear H;intro b9 a w hb9 H;refine s_store ty135nck 0 (vs:=[_,_,_]) _ H wn rfl rfl rfl rfl rfl rfl rfl rfl ?_;clear H;intro w H;dsimp only [List.set,setRow] at H;refine K20 _ _ ?_;clear K20;refine c_drawI (hmx) [[],[0],[0,1],[0,1,2],[],[4],[0,1,2,3,4,5]] [6] (by kernel_rfl) (by kernel_rfl) (fun (ix_:Nat) (v:Value) (G:GH)=>match ix_ with|0=>v=.pointer (some ⟨b16,0,none⟩)|1=>v=.pointer (some ⟨b16,0,none⟩)|2=>v=.pointer (some ⟨b16,2,none⟩)|3=>v=.map (some b12)|4=>v=.pointer (some ⟨b9,0,none⟩)|5=>v=vi rv[k].id|_=>True) (fun _ _ _ _ _ h=>h) H ?_ ?_
  ·clear H;refine al4 ?_ ?_ ?_ ?_ (allI_cons ?_ (allI_cons ?_ (allI_cons ?_ allI_nil)))
   ·exact Z0 rfl rfl fun _ _ _ _ _=>Rm rfl
   ·exact Z1 0 56 rfl rfl fun _ _ _ _ _=>Rk rfl
   ·exact Z1 1 57 rfl rfl fun _ _ _ _ _=>Rf fd107_2nck rfl
   ·exact Z1 2 58 rfl rfl fun _ _ _ _ _=>Ro ty105nck 1 rfl rfl
   ·exact Z0 rfl rfl fun _ _ _ _ _=>Rf fd135_0nck rfl
   ·exact Z1 4 60 rfl rfl fun _ _ _ _ _=>Ro ty3run 0 rfl rfl
   exact opB rfl
  clear H;intro a w G hGm15 H hv;obtain ⟨u59,hu59,hp59⟩:=hv 3 59 (by decide) rfl;obtain rfl:u59=.map (some b12):=hp59;have H:=H.addS hu59;obtain ⟨u61,hu61,hp61⟩:=hv 5 61 (by decide) rfl;obtain rfl:u61=vi rv[k].id:=hp61;have H:=H.addS hu61;clear hv;refine s_putK (i:=6) un105nck un3cp H wn rfl rfl rfl rfl hnew ?_;clear H;intro w H;dsimp only [List.set,List.append,List.cons_append,List.nil_append] at H;rw [← hgk,← mSet_snoc hk3] at H;refine wl_nil ⟨rfl,?_⟩;refine K19 _ _ ?_;clear K19;refine kP H (SC (Rd rfl (Rm rfl ?_)));clear H;intro a H;refine wl_nil ?_;refine loop_end ((k+1,G)) (by exact (H.pickT (Pl:=[_,_,_,_,_,_,_]) (Pl':=[_,_,_,_,_,_]) [1,2,3,4,5,6] (by decide) rfl).sub ⟨rfl,rfl,rfl,rfl,trivial⟩) ?_ ?_
  ·(try dsimp only);exact ⟨by omega,fun b o h=>hGm15 b o (hmg3 b o h)⟩
  first|omega|(dsimp only;omega)
 intro h53
 try have p53:=dF h53
 obtain rfl:k=rv.length:=by omega
 rw [List.take_of_length_le (by simp)] at H;refine c_exit ?_;refine K15 _ _ ?_;clear K15;refine kP H (SR fun _ K21=>Rm rfl (Ra rfl (Kz K21 ?_)));clear H K21;intro a H;refine c_ret ?_;have H:=H.pickT (Pl:=[_,_,_,_,_,_]) (Pl':=[_,_,_,_,_,_]) [3,4,5,1,0,2] (by decide) rfl;obtain ⟨Gs,hms,hs,H⟩:=H.giveBox;obtain ⟨Gl,hml2,hl,H⟩:=H.giveBox;obtain ⟨Gr,hmr,hr,H⟩:=H.giveBox;obtain ⟨Gu,hmu,hu,H⟩:=H.giveBox;refine lv H Tryz.results42 rfl ?_;exact H.hp.retL ⟨b16,b10,b11,b12,b13,b14,rfl,rfl,⟨hmu _ _ (hmr _ _ (hml2 _ _ hs)),hmu _ _ (hmr _ _ hl),hmu _ _ hr,hu⟩⟩
end
section
open Go.RowKit
theorem fd107_4cid:Fld Tryz.prog 107 4 4:=⟨by kernel_rfl⟩
theorem fd107_3cid:Fld Tryz.prog 107 3 3:=⟨by kernel_rfl⟩
theorem lk_set (x:Int):∀ l:List Int,(lkK x (mSet l)).getD (.bool false)=.bool (decide (x∈l))
 | []=>rfl
 | k :: r=>by
  have ih:=lk_set x r;rw [mSet,List.map_cons,lkK]
  by_cases e:k=x
  ·subst e;simp
  rw [if_neg e,show (r.map fun k=>(k,Value.bool true))=mSet r from rfl,ih]
  simp [show x≠k from fun h=>e h.symm]
def stK (st:List StyleD) (v:Int):Int:=((st.find? fun s=>decide (s.id=v)).map StyleD.kind).getD 0
theorem lk_sty (x:Int):∀ l:List StyleD,(lkK x (mSty l)).getD (vi 0)=vi (stK l x)
 | []=>rfl
 | s :: r=>by
  have ih:=lk_sty x r;rw [mSty,List.map_cons,lkK]
  by_cases e:s.id=x
  ·subst e;simp [stK]
  rw [if_neg e,show (r.map fun s=>(s.id,vi s.kind))=mSty r from rfl,ih]
  simp [stK,e]
/-- The error of an id behind others, and the ids with it. -/
def idE (bef:List Int) (x:Int):Int:=if ¬ (1≤x∧x≤1073741824) then 18 else if x∈bef then 7 else 0
def idB (bef:List Int) (x:Int):List Int:=if idE bef x=0 then bef++[x] else bef
theorem mSet_app (l:List Int) (x:Int):mSet (l++[x])=mSet l++[(x,.bool true)]:=by simp [mSet]
theorem ckId_spec (G:GH) (L:OL) (w0:World) (st:List StyleD) (li:List LiD) (rv:List RvD) (b ms ml mr mb mu:Nat) (n:Int) (bef:List Int) (x:Int) (hck:CkG G st li rv ms ml mr mu) (hO:Owns G (ckB b ms ml mr mb mu n :: (mb,mpK (mSet bef)) :: L) w0) :
  Calls Tryz.prog 102 #[.pointer (some ⟨b,0,none⟩),vi x] w0 (RetL w0 G (ckB b ms ml mr mb mu n :: (mb,mpK (mSet bef)) :: L) fun u G' L'=>u=vi (idE bef x)∧L'=ckB b ms ml mr mb mu n :: (mb,mpK (mSet (idB bef x))) :: L∧G=G'):=by
 refine enterL (N:=29) (T:=[(0,_),(1,_)]) Tryz.func102 rfl Tryz.ntmps102 rfl rfl hO ?_;intro a H;refine kP H (SR fun _ K1=>Ra rfl (Kz K1 (SQ fun _ K2=>SB (SR fun _ K3=>Rm rfl ?_))));clear H K1;intro a H;refine s_call en68fst H wn rfl (in_spec _ _ H.hp.ro x 1 1073741824) rfl ?_;clear H;rintro v7 _ a w ⟨rfl,rfl⟩ - H;refine kH H (Rn rfl (Rm rfl ?_));clear H;intro a H;refine s_split H 9 rfl ?_ ?_
 ·intro h9
  try have p9:=dT h9
  refine kH H (Ks h9 rfl (Ks h9 rfl (Ks h9 rfl (Ks h9 rfl (Ks h9 rfl (Ks h9 rfl (Pt h9 rfl (Ra rfl (Kz K3 ?_)))))))));clear H K3;intro a H;refine c_cond_t H rfl rfl ?_;refine c_seq (fun _ K4=>?_)
  have e:idE bef x=18:=by rw [idE,if_pos (by first|(simp_all;done)|(simp_all;omega))]
  refine kP H (SC (Ra rfl (Kn K4 ?_)));clear H K4;intro a H;refine lr H Tryz.results102 rfl ?_
  first
   | exact H.hp.retL ⟨by rw [e],by rw [idB,if_pos e],rfl⟩
   | exact H.hp.retL ⟨by rw [e],by rw [idB,if_neg (by rw [e];decide)],rfl⟩
 intro h9
 try have p9:=dF h9
 refine kH H (YM h9 rfl ?_);clear H;intro a H;refine s_nilCheck H (wg H rfl rfl h9) rfl rfl ?_;clear H;intro a H;refine kH H (YF fd107_4cid h9 rfl (YO ty105nck 0 h9 rfl rfl (YM h9 rfl ?_)));clear H;intro a H;refine s_lookupK (zv:=.bool false) un105nck un3cp (by kernel_rfl) H (wg H rfl rfl h9) rfl rfl (H.hp.ro _ _ hck.use) rfl ?_;clear H;intro a H;rw [show (lkK x []).getD (Value.bool false)=.bool false from rfl] at H;refine kH H (Pf h9 rfl (Ra rfl (Kz K3 ?_)));clear H K3;intro a H;refine c_cond H rfl ?_ ?_
 ·intro h5
  try have p5:=dT h5
  refine c_seq (fun _ K5=>?_)
  have e:idE bef x=18:=by rw [idE,if_pos (by first|(simp_all;done)|(simp_all;omega))]
  refine kP H (SC (Ra rfl (Kn K5 ?_)));clear H K5;intro a H;refine lr H Tryz.results102 rfl ?_
  first
   | exact H.hp.retL ⟨by rw [e],by rw [idB,if_pos e],rfl⟩
   | exact H.hp.retL ⟨by rw [e],by rw [idB,if_neg (by rw [e];decide)],rfl⟩
 intro h5
 try have p5:=dF h5
 have hin:decide (1≤x∧x≤1073741824)=true:=by simp_all
 refine kP H (SR fun _ K6=>Rm rfl (Rk rfl (Rf fd107_3cid rfl (Ro ty105nck 0 rfl rfl (Rm rfl ?_)))));clear H;intro a H;refine s_lookupK (zv:=.bool false) un105nck un3cp (by kernel_rfl) H wn rfl rfl (H.hp.own _ (List.mem_cons_of_mem _ List.mem_cons_self)) rfl ?_;clear H;intro a H;rw [lk_set] at H;refine kH H (Ra rfl (Kz K6 ?_));clear H K6;intro a H;refine c_cond H rfl ?_ ?_
 ·intro h17
  try have p17:=dT h17
  refine c_seq (fun _ K7=>?_)
  have e:idE bef x=7:=by rw [idE,if_neg (by simpa using hin),if_pos (of_decide_eq_true h17)]
  refine kP H (SC (Ra rfl (Kn K7 ?_)));clear H K7;intro a H;refine lr H Tryz.results102 rfl ?_
  first
   | exact H.hp.retL ⟨by rw [e],by rw [idB,if_pos e],rfl⟩
   | exact H.hp.retL ⟨by rw [e],by rw [idB,if_neg (by rw [e];decide)],rfl⟩
 intro h17
 try have p17:=dF h17
 have hx:x∉bef:=of_decide_eq_false h17;have hnew:lkK x (mSet bef)=none:=lkK_none (by simpa [mSet,List.map_map,Function.comp_def] using hx)
 have e:idE bef x=0:=by rw [idE,if_neg (by simpa using hin),if_neg hx]
 refine kP H (Kc K2 (SR fun _ K8=>Rm rfl (Rk rfl (Rf fd107_3cid rfl (Ro ty105nck 0 rfl rfl (Rm rfl ?_))))));clear H K2;intro a H;refine s_putK (i:=1) un105nck un3cp H wn rfl rfl rfl rfl hnew ?_;clear H;intro w H;dsimp only [List.set] at H;rw [← mSet_app] at H;refine K8 _ _ ?_;clear K8;refine kP H (SR fun _ K9=>Ra rfl (Kz K9 ?_));clear H K9;intro a H;refine lr H Tryz.results102 rfl ?_
 first
  | exact H.hp.retL ⟨by rw [e],by rw [idB,if_pos e],rfl⟩
  | exact H.hp.retL ⟨by rw [e],by rw [idB,if_neg (by rw [e];decide)],rfl⟩
/-- The error of a value that is an id. -/
def refE (st:List StyleD) (lis:List Int) (key v:Int):Int :=
 if key=20∨key=1 then whenE (decide (v≠0∧stK st v≠(if key=1 then 2 else 1))) 25 else if key=33 then whenE (decide (v≠0∧v∉lis)) 26 else 0
theorem ckRef_spec (G:GH) (w0:World) (hG:Hold G w0) (st:List StyleD) (li:List LiD) (rv:List RvD) (b ms ml mr mb mu:Nat) (n:Int) (key v:Int) (hck:CkG G st li rv ms ml mr mu) (hb:G b=some (ckB b ms ml mr mb mu n).2) :
  Calls Tryz.prog 70 #[.pointer (some ⟨b,0,none⟩),vi key,vi v] w0 (Ret w0 G fun u G'=>u=vi (refE st (li.map LiD.id) key v)∧G=G'):=by
 have hc0:gcell G b 0=some (.map (some ms)):=by unfold gcell;rw [hb];rfl
 have hc1:gcell G b 1=some (.map (some ml)):=by unfold gcell;rw [hb];rfl
 refine eN [(0,_),(1,_),(2,_)] Tryz.func70 rfl Tryz.ntmps70 rfl rfl hG ?_;intro a H;refine kP H (SR fun _ K1=>Ra rfl (Kz K1 (SQ fun _ K2=>SR fun _ K3=>Rm rfl (Kz K3 (SB (SQ fun _ K4=>SR fun _ K5=>Rc rfl (Ra rfl (Kz K5 ?_))))))));clear H K1 K3 K5;intro a H;refine c_cond H rfl ?_ ?_
 ·intro h9
  try have p9:=dT h9
  refine c_skip ?_;refine K4 _ _ ?_;clear K4;refine c_cond_t H rfl h9 ?_;refine kP H (SR fun _ K6=>Ra rfl (Kz K6 (SQ fun _ K7=>SR fun _ K8=>Rm rfl (Rc rfl (Kz K8 ?_)))));clear H K6 K8;intro a H;refine c_cond H rfl ?_ ?_
  ·intro h13
   try have p13:=dT h13
   refine kP H (SC (Ra rfl (Kn K7 (SR fun _ K9=>Rm rfl (Rc rfl (Rm rfl ?_))))));clear H K7;intro a H;refine s_split H 16 rfl ?_ ?_
   ·intro h16
    try have p16:=dT h16
    refine kH H (YM h16 rfl ?_);clear H;intro a H;refine s_nilCheck H (wg H rfl rfl h16) rfl rfl ?_;clear H;intro a H;refine kH H (YF fd107_0nck h16 rfl (YR ty104nck h16 rfl (by assumption) ?_));clear H;intro a H;refine kH H (YM h16 rfl ?_);clear H;intro a H;refine s_lookupK (zv:=vi 0) un104chn un3cp (by kernel_rfl) H (wg H rfl rfl h16) rfl rfl (H.hp.ro _ _ hck.sty) rfl ?_;clear H;intro a H;rw [lk_sty] at H;refine kH H (YM h16 rfl (YC h16 rfl (Pt h16 rfl ?_)));clear H;intro a H;refine s_call en44nam H wn rfl (when_spec _ _ H.hp.ro _ 25) rfl ?_;clear H;rintro v26 _ a w ⟨rfl,rfl⟩ - H;refine kH H (Ra rfl (Kz K9 ?_));clear H K9;intro a H;refine lr H Tryz.results70 rfl ?_
    exact H.hp.ret ⟨congrArg vi (by unfold refE;(repeat' split) <;> first|rfl|(simp_all;done)|(exfalso;simp_all;done)|(congr 1;rw [Bool.eq_iff_iff];simp only [Bool.not_eq_true',decide_eq_false_iff_not,decide_eq_true_eq];exact ⟨fun h=>⟨p31,h⟩,fun h=>h.2⟩)),rfl⟩
   intro h16
   try have p16:=dF h16
   refine kH H (Ks h16 rfl (Ks h16 rfl (Ks h16 rfl (Ks h16 rfl (Ks h16 rfl (Ks h16 rfl (Ks h16 rfl (Ks h16 rfl (Pf h16 rfl ?_)))))))));clear H;intro a H;refine s_call en44nam H wn rfl (when_spec _ _ H.hp.ro _ 25) rfl ?_;clear H;rintro v26 _ a w ⟨rfl,rfl⟩ - H;refine kH H (Ra rfl (Kz K9 ?_));clear H K9;intro a H;refine lr H Tryz.results70 rfl ?_
   exact H.hp.ret ⟨congrArg vi (by unfold refE;(repeat' split) <;> first|rfl|(simp_all;done)|(exfalso;simp_all;done)|(congr 1;rw [Bool.eq_iff_iff];simp only [Bool.not_eq_true',decide_eq_false_iff_not,decide_eq_true_eq];exact ⟨fun h=>⟨p31,h⟩,fun h=>h.2⟩)),rfl⟩
  intro h13
  try have p13:=dF h13
  refine kP H (Kc K7 (SR fun _ K10=>Rm rfl (Rc rfl (Rm rfl ?_))));clear H K7;intro a H;refine s_split H 16 rfl ?_ ?_
  ·intro h16
   try have p16:=dT h16
   refine kH H (YM h16 rfl ?_);clear H;intro a H;refine s_nilCheck H (wg H rfl rfl h16) rfl rfl ?_;clear H;intro a H;refine kH H (YF fd107_0nck h16 rfl (YR ty104nck h16 rfl (by assumption) ?_));clear H;intro a H;refine kH H (YM h16 rfl ?_);clear H;intro a H;refine s_lookupK (zv:=vi 0) un104chn un3cp (by kernel_rfl) H (wg H rfl rfl h16) rfl rfl (H.hp.ro _ _ hck.sty) rfl ?_;clear H;intro a H;rw [lk_sty] at H;refine kH H (YM h16 rfl (YC h16 rfl (Pt h16 rfl ?_)));clear H;intro a H;refine s_call en44nam H wn rfl (when_spec _ _ H.hp.ro _ 25) rfl ?_;clear H;rintro v26 _ a w ⟨rfl,rfl⟩ - H;refine kH H (Ra rfl (Kz K10 ?_));clear H K10;intro a H;refine lr H Tryz.results70 rfl ?_
   exact H.hp.ret ⟨congrArg vi (by unfold refE;(repeat' split) <;> first|rfl|(simp_all;done)|(exfalso;simp_all;done)|(congr 1;rw [Bool.eq_iff_iff];simp only [Bool.not_eq_true',decide_eq_false_iff_not,decide_eq_true_eq];exact ⟨fun h=>⟨p31,h⟩,fun h=>h.2⟩)),rfl⟩
  intro h16
  try have p16:=dF h16
  refine kH H (Ks h16 rfl (Ks h16 rfl (Ks h16 rfl (Ks h16 rfl (Ks h16 rfl (Ks h16 rfl (Ks h16 rfl (Ks h16 rfl (Pf h16 rfl ?_)))))))));clear H;intro a H;refine s_call en44nam H wn rfl (when_spec _ _ H.hp.ro _ 25) rfl ?_;clear H;rintro v26 _ a w ⟨rfl,rfl⟩ - H;refine kH H (Ra rfl (Kz K10 ?_));clear H K10;intro a H;refine lr H Tryz.results70 rfl ?_
  exact H.hp.ret ⟨congrArg vi (by unfold refE;(repeat' split) <;> first|rfl|(simp_all;done)|(exfalso;simp_all;done)|(congr 1;rw [Bool.eq_iff_iff];simp only [Bool.not_eq_true',decide_eq_false_iff_not,decide_eq_true_eq];exact ⟨fun h=>⟨p31,h⟩,fun h=>h.2⟩)),rfl⟩
 intro h9
 try have p9:=dF h9
 refine kP H (SC (Rc rfl (Ra rfl (Kn K4 ?_))));clear H K4;intro a H;refine c_cond H rfl ?_ ?_
 ·intro h9
  try have p9:=dT h9
  refine kP H (SR fun _ K11=>Ra rfl (Kz K11 (SQ fun _ K12=>SR fun _ K13=>Rm rfl (Rc rfl (Kz K13 ?_)))));clear H K11 K13;intro a H;refine c_cond H rfl ?_ ?_
  ·intro h13
   try have p13:=dT h13
   refine kP H (SC (Ra rfl (Kn K12 (SR fun _ K14=>Rm rfl (Rc rfl (Rm rfl ?_))))));clear H K12;intro a H;refine s_split H 16 rfl ?_ ?_
   ·intro h16
    try have p16:=dT h16
    refine kH H (YM h16 rfl ?_);clear H;intro a H;refine s_nilCheck H (wg H rfl rfl h16) rfl rfl ?_;clear H;intro a H;refine kH H (YF fd107_0nck h16 rfl (YR ty104nck h16 rfl (by assumption) ?_));clear H;intro a H;refine kH H (YM h16 rfl ?_);clear H;intro a H;refine s_lookupK (zv:=vi 0) un104chn un3cp (by kernel_rfl) H (wg H rfl rfl h16) rfl rfl (H.hp.ro _ _ hck.sty) rfl ?_;clear H;intro a H;rw [lk_sty] at H;refine kH H (YM h16 rfl (YC h16 rfl (Pt h16 rfl ?_)));clear H;intro a H;refine s_call en44nam H wn rfl (when_spec _ _ H.hp.ro _ 25) rfl ?_;clear H;rintro v26 _ a w ⟨rfl,rfl⟩ - H;refine kH H (Ra rfl (Kz K14 ?_));clear H K14;intro a H;refine lr H Tryz.results70 rfl ?_
    exact H.hp.ret ⟨congrArg vi (by unfold refE;(repeat' split) <;> first|rfl|(simp_all;done)|(exfalso;simp_all;done)|(congr 1;rw [Bool.eq_iff_iff];simp only [Bool.not_eq_true',decide_eq_false_iff_not,decide_eq_true_eq];exact ⟨fun h=>⟨p31,h⟩,fun h=>h.2⟩)),rfl⟩
   intro h16
   try have p16:=dF h16
   refine kH H (Ks h16 rfl (Ks h16 rfl (Ks h16 rfl (Ks h16 rfl (Ks h16 rfl (Ks h16 rfl (Ks h16 rfl (Ks h16 rfl (Pf h16 rfl ?_)))))))));clear H;intro a H;refine s_call en44nam H wn rfl (when_spec _ _ H.hp.ro _ 25) rfl ?_;clear H;rintro v26 _ a w ⟨rfl,rfl⟩ - H;refine kH H (Ra rfl (Kz K14 ?_));clear H K14;intro a H;refine lr H Tryz.results70 rfl ?_
   exact H.hp.ret ⟨congrArg vi (by unfold refE;(repeat' split) <;> first|rfl|(simp_all;done)|(exfalso;simp_all;done)|(congr 1;rw [Bool.eq_iff_iff];simp only [Bool.not_eq_true',decide_eq_false_iff_not,decide_eq_true_eq];exact ⟨fun h=>⟨p31,h⟩,fun h=>h.2⟩)),rfl⟩
  intro h13
  try have p13:=dF h13
  refine kP H (Kc K12 (SR fun _ K15=>Rm rfl (Rc rfl (Rm rfl ?_))));clear H K12;intro a H;refine s_split H 16 rfl ?_ ?_
  ·intro h16
   try have p16:=dT h16
   refine kH H (YM h16 rfl ?_);clear H;intro a H;refine s_nilCheck H (wg H rfl rfl h16) rfl rfl ?_;clear H;intro a H;refine kH H (YF fd107_0nck h16 rfl (YR ty104nck h16 rfl (by assumption) ?_));clear H;intro a H;refine kH H (YM h16 rfl ?_);clear H;intro a H;refine s_lookupK (zv:=vi 0) un104chn un3cp (by kernel_rfl) H (wg H rfl rfl h16) rfl rfl (H.hp.ro _ _ hck.sty) rfl ?_;clear H;intro a H;rw [lk_sty] at H;refine kH H (YM h16 rfl (YC h16 rfl (Pt h16 rfl ?_)));clear H;intro a H;refine s_call en44nam H wn rfl (when_spec _ _ H.hp.ro _ 25) rfl ?_;clear H;rintro v26 _ a w ⟨rfl,rfl⟩ - H;refine kH H (Ra rfl (Kz K15 ?_));clear H K15;intro a H;refine lr H Tryz.results70 rfl ?_
   exact H.hp.ret ⟨congrArg vi (by unfold refE;(repeat' split) <;> first|rfl|(simp_all;done)|(exfalso;simp_all;done)|(congr 1;rw [Bool.eq_iff_iff];simp only [Bool.not_eq_true',decide_eq_false_iff_not,decide_eq_true_eq];exact ⟨fun h=>⟨p31,h⟩,fun h=>h.2⟩)),rfl⟩
  intro h16
  try have p16:=dF h16
  refine kH H (Ks h16 rfl (Ks h16 rfl (Ks h16 rfl (Ks h16 rfl (Ks h16 rfl (Ks h16 rfl (Ks h16 rfl (Ks h16 rfl (Pf h16 rfl ?_)))))))));clear H;intro a H;refine s_call en44nam H wn rfl (when_spec _ _ H.hp.ro _ 25) rfl ?_;clear H;rintro v26 _ a w ⟨rfl,rfl⟩ - H;refine kH H (Ra rfl (Kz K15 ?_));clear H K15;intro a H;refine lr H Tryz.results70 rfl ?_
  exact H.hp.ret ⟨congrArg vi (by unfold refE;(repeat' split) <;> first|rfl|(simp_all;done)|(exfalso;simp_all;done)|(congr 1;rw [Bool.eq_iff_iff];simp only [Bool.not_eq_true',decide_eq_false_iff_not,decide_eq_true_eq];exact ⟨fun h=>⟨p31,h⟩,fun h=>h.2⟩)),rfl⟩
 intro h9
 try have p9:=dF h9
 refine kP H (SR fun _ K16=>Rc rfl (Ra rfl (Kz K16 ?_)));clear H K16;intro a H;refine c_cond H rfl ?_ ?_
 ·intro h27
  try have p27:=dT h27
  refine kP H (SR fun _ K17=>Rm rfl (Rc rfl (Rm rfl ?_)));clear H;intro a H;refine s_split H 31 rfl ?_ ?_
  ·intro h31
   try have p31:=dT h31
   refine kH H (YM h31 rfl ?_);clear H;intro a H;refine s_nilCheck H (wg H rfl rfl h31) rfl rfl ?_;clear H;intro a H;refine kH H (YF fd107_1nck h31 rfl (YR ty105nck h31 rfl (by assumption) ?_));clear H;intro a H;refine kH H (YM h31 rfl ?_);clear H;intro a H;refine s_lookupK (zv:=.bool false) un105nck un3cp (by kernel_rfl) H (wg H rfl rfl h31) rfl rfl (H.hp.ro _ _ hck.lis) rfl ?_;clear H;intro a H;rw [lk_set] at H;refine kH H (YN h31 rfl (Pt h31 rfl ?_));clear H;intro a H;refine s_call en44nam H wn rfl (when_spec _ _ H.hp.ro _ 26) rfl ?_;clear H;rintro v40 _ a w ⟨rfl,rfl⟩ - H;refine kH H (Ra rfl (Kz K17 ?_));clear H K17;intro a H;refine lr H Tryz.results70 rfl ?_
   exact H.hp.ret ⟨congrArg vi (by unfold refE;(repeat' split) <;> first|rfl|(simp_all;done)|(exfalso;simp_all;done)|(congr 1;rw [Bool.eq_iff_iff];simp only [Bool.not_eq_true',decide_eq_false_iff_not,decide_eq_true_eq];exact ⟨fun h=>⟨p31,h⟩,fun h=>h.2⟩)),rfl⟩
  intro h31
  try have p31:=dF h31
  refine kH H (Ks h31 rfl (Ks h31 rfl (Ks h31 rfl (Ks h31 rfl (Ks h31 rfl (Ks h31 rfl (Ks h31 rfl (Pf h31 rfl ?_))))))));clear H;intro a H;refine s_call en44nam H wn rfl (when_spec _ _ H.hp.ro _ 26) rfl ?_;clear H;rintro v40 _ a w ⟨rfl,rfl⟩ - H;refine kH H (Ra rfl (Kz K17 ?_));clear H K17;intro a H;refine lr H Tryz.results70 rfl ?_
  exact H.hp.ret ⟨congrArg vi (by unfold refE;(repeat' split) <;> first|rfl|(simp_all;done)|(exfalso;simp_all;done)|(congr 1;rw [Bool.eq_iff_iff];simp only [Bool.not_eq_true',decide_eq_false_iff_not,decide_eq_true_eq];exact ⟨fun h=>⟨p31,h⟩,fun h=>h.2⟩)),rfl⟩
 intro h27
 try have p27:=dF h27
 refine kP H (Kc K2 (SR fun _ K18=>Ra rfl (Kz K18 ?_)));clear H K2 K18;intro a H;refine lr H Tryz.results70 rfl ?_
 exact H.hp.ret ⟨congrArg vi (by unfold refE;(repeat' split) <;> first|rfl|(simp_all;done)|(exfalso;simp_all;done)|(congr 1;rw [Bool.eq_iff_iff];simp only [Bool.not_eq_true',decide_eq_false_iff_not,decide_eq_true_eq];exact ⟨fun h=>⟨p31,h⟩,fun h=>h.2⟩)),rfl⟩
end
section
open Go.RowKit
section
variable {N:Nat} {D:List Deferred} {w0:World} {F:Nat→Prop} {G0 G G':GH} {L L':OL} {T:List (Nat × Value)}
variable {r:Option Nat} {P:Program} {ops:Array Oper} {Q:Exit→Act→World→Prop} {rest:List Oper} {a:Act} {w w':World}
theorem wl_meet {ι:Type} {Tc:List (Nat × Value)} {l:List Oper} (k:Nat) (Tv:ι→List (Nat × Value)) (Pr:ι→Prop) (_:St N D w0 F G0 G L Tc a w)
  (h1:(∀ i a w,Pr i→St N D w0 F G0 G L (Tv i++Tc) a w→WL r P ops Q (l.drop k) a w)→WL r P ops Q l a w)
  (h2:∀ i a w,Pr i→St N D w0 F G0 G L (Tv i++Tc) a w→WL r P ops Q (l.drop k) a w):WL r P ops Q l a w:=h1 h2
theorem Change.back (h:Change w w' G G' L L'):Change w w' G G L L' :=
 ⟨h.os,h.tape,h.output,h.size,h.fr,fun _ _ h=>h,fun _ _ h=>.inl h,⟨fun k o hk=>h.owns.ro k o (h.gm k o hk),h.owns.own,fun p hp=>(by
  have hs:=h.owns.sep p hp
  cases hg:G p.1 with
  | none=>rfl
  | some o=>have:=h.gm _ _ hg;rw [hs] at this;cases this),h.owns.nd⟩,h.lx⟩
theorem RetL.back {R:Value→GH→OL→Prop} {R':Value→OL→Prop} (hR:∀ v G' L',R v G' L'→R' v L') {e:Ending} (h:RetL w G L R e w'):RetL w G L (fun v G' L'=>G=G'∧R' v L') e w':=by
 obtain ⟨v,G',L',rfl,hc,hr⟩:=h
 exact ⟨v,G,L',rfl,hc.back,rfl,hR _ _ _ hr⟩
theorem Calls.backL {f:FuncId} {args:Array Value} {R:Value→GH→OL→Prop} {R':Value→OL→Prop} (h:Calls P f args w (RetL w G L R)) (hR:∀ v G' L',R v G' L'→R' v L'):Calls P f args w (RetL w G L fun v G' L'=>G=G'∧R' v L') :=
 h.mono fun _ _=>RetL.back hR
theorem Ret.back {R:Value→GH→Prop} {e:Ending} (h:Ret w G R e w'):Ret w G (fun v G'=>(∃ g,R v g)∧G=G') e w':=by
 obtain ⟨v,G',rfl,hb,hX,hr⟩:=h
 exact ⟨v,G,rfl,hb,⟨fun _ _ h=>h,fun _ _ h=>.inl h,fun k o hk=>hX.2.2 k o (hX.1 k o hk)⟩,⟨G',hr⟩,rfl⟩
theorem backR {f:FuncId} {args:Array Value} {R:Value→GH→Prop} (h:Calls P f args w (Ret w G R)):Calls P f args w (Ret w G fun v G'=>(∃ g,R v g)∧G=G'):=h.mono fun _ _=>Ret.back
/-- A block that a call only reads may be lent to it as if it were read alone. -/
theorem Owns.add {b:Nat} {o:Obj} (h:Owns G ((b,o) :: L) w):Hold (G.add b o) w:=fun k o' hk=>by
 unfold GH.add at hk
 split at hk
 ·next e=>cases hk;subst e;exact h.own _ List.mem_cons_self
 ·exact h.ro k o' hk
theorem ret_lend {b:Nat} {o:Obj} {R:Value→GH→Prop} {R':Value→Prop} (hO:Owns G ((b,o) :: L) w) (hR:∀ v G',R v G'→R' v) {e:Ending} (h:Ret w (G.add b o) R e w'):RetL w G ((b,o) :: L) (fun v G' L'=>G=G'∧L'=(b,o) :: L∧R' v) e w':=by
 obtain ⟨v,G',rfl,hb,hX,hr⟩:=h
 exact ⟨v,G,_,rfl,(hO.hp.below hb).toChange,rfl,rfl,hR _ _ hr⟩
end
end
section
open Go.RowKit
abbrev DelD.cells (x:DelD):List Value:=[vi x.rev,vi x.move]
abbrev LayerD.cells (x:LayerD):List Value:=[vi x.rev,vi x.key,vi x.before,.bool x.had]
theorem del_of {G:GH} {x:DelD} {cs:List Value} (h:RepRow G x.dat cs):cs=x.cells:=by
 simp only [DelD.dat,RepRow,RepV] at h
 obtain ⟨_,_,rfl,⟨rfl,_⟩,_,_,rfl,⟨rfl,_⟩,rfl⟩:=h
 rfl
theorem layer_of {G:GH} {x:LayerD} {cs:List Value} (h:RepRow G x.dat cs):cs=x.cells:=by
 simp only [LayerD.dat,RepRow,RepV] at h
 obtain ⟨_,_,rfl,⟨rfl,_⟩,_,_,rfl,⟨rfl,_⟩,_,_,rfl,⟨rfl,_⟩,_,_,rfl,⟨rfl,_⟩,rfl⟩:=h
 rfl
theorem PropD.eq_iff (a b:PropD):(a.key=b.key∧a.value=b.value)↔a=b:=by cases a;cases b;simp
theorem DelD.eq_iff (a b:DelD):(a.rev=b.rev∧a.move=b.move)↔a=b:=by cases a;cases b;simp
theorem LayerD.eq_iff (a b:LayerD):(a.rev=b.rev∧a.key=b.key∧a.before=b.before∧a.had=b.had)↔a=b:=by cases a;cases b;simp
instance:DecidableEq PropD:=fun a b=>decidable_of_iff _ (PropD.eq_iff a b)
instance:DecidableEq DelD:=fun a b=>decidable_of_iff _ (DelD.eq_iff a b)
instance:DecidableEq LayerD:=fun a b=>decidable_of_iff _ (LayerD.eq_iff a b)
theorem HeadD.eq_iff (a b:HeadD):(((a.props=b.props∧a.marks.ins=b.marks.ins)∧a.marks.move=b.marks.move)∧a.marks.dels=b.marks.dels)∧a.marks.layers=b.marks.layers↔a=b:=by
 obtain ⟨p,i,m,d,l⟩:=a;obtain ⟨p2,i2,m2,d2,l2⟩:=b
 simp [and_assoc]
instance:DecidableEq HeadD:=fun a b=>decidable_of_iff _ (HeadD.eq_iff a b)
abbrev hdV (h:HeadD) (p d l:Value):Value:=.agg #[p,vi h.marks.ins,vi h.marks.move,d,l]
end
section
open Go.RowKit
theorem fd178_0hdr:Fld Tryz.prog 178 0 0:=⟨by kernel_rfl⟩
theorem fd178_1hdr:Fld Tryz.prog 178 1 1:=⟨by kernel_rfl⟩
theorem fd178_3hdr:Fld Tryz.prog 178 3 3:=⟨by kernel_rfl⟩
theorem fd178_2hdr:Fld Tryz.prog 178 2 2:=⟨by kernel_rfl⟩
theorem en70hdr:∀ args w,(callFunc 70 args).run Tryz.prog w=.ok (.enter 70 args) w:=enters Tryz.func70 rfl (by kernel_rfl)
/-- What a checker knows: styles, the lists' ids, the revisions' ids. -/
structure CkP where
 st:List StyleD
 lis:List Int
 rvs:List Int
abbrev ckP (st:List StyleD) (li:List LiD) (rv:List RvD):CkP:=⟨st,li.map LiD.id,rv.map RvD.id⟩
theorem layer_at {G:GH} {l:List LayerD} {A:Option Addr} {n c k:Nat} (hv:RepV G (.sl 4 (l.map LayerD.dat)) (.slice A n c)) (hk:k < l.length):∃ b o,A=some ⟨b,o,none⟩∧(∀ j u,l[k].cells[j]?=some u→gcell G b (o+k*4+j)=some u):=by
 obtain ⟨A',c',he,_,_,hg⟩:=hv.slice
 injection he with e1 e2 e3
 subst e1;obtain ⟨b,o,cs,h1,h2,h3,h4⟩:=hg k l[k].dat (by simp [hk]);have:=layer_of h4;subst this;exact ⟨b,o,h1,h3⟩
theorem del_at {G:GH} {l:List DelD} {A:Option Addr} {n c k:Nat} (hv:RepV G (.sl 2 (l.map DelD.dat)) (.slice A n c)) (hk:k < l.length):∃ b o,A=some ⟨b,o,none⟩∧(∀ j u,l[k].cells[j]?=some u→gcell G b (o+k*2+j)=some u):=by
 obtain ⟨A',c',he,_,_,hg⟩:=hv.slice
 injection he with e1 e2 e3
 subst e1;obtain ⟨b,o,cs,h1,h2,h3,h4⟩:=hg k l[k].dat (by simp [hk]);have:=del_of h4;subst this;exact ⟨b,o,h1,h3⟩
def layE0 (C:CkP) (e:Int) (k:Nat) (x:LayerD) (pk:Int):Int :=
 if x.rev∉C.rvs then 22 else if fitsS e x.key=false then 4 else if 0 < k∧x.key < pk then 6 else if x.had=false then whenE (decide (x.before≠0)) 21 else firstE [chkVS x.key x.before,refE C.st C.lis x.key x.before]
def layE (C:CkP) (e:Int) (l:List LayerD) (k:Nat):Int:=match l[k]? with|some x=>layE0 C e k x ((l[k - 1]?.map LayerD.key).getD 0)|none=>0
theorem layer_spec (G:GH) (w0:World) (hG:Hold G w0) (st:List StyleD) (li:List LiD) (rv:List RvD) (b ms ml mr mb mu:Nat) (n:Int) (hck:CkG G st li rv ms ml mr mu) (hb:G b=some (ckB b ms ml mr mb mu n).2)
  (e:Int) (l:List LayerD) (v:Value) (hv:RepV G (.sl 4 (l.map LayerD.dat)) v) (k:Nat) (hk:k < l.length) :
  Calls Tryz.prog 72 #[.pointer (some ⟨b,0,none⟩),vi e,v,vi k] w0 (Ret w0 G fun u G'=>u=vi (layE (ckP st li rv) e l k)):=by
 have hc2:gcell G b 2=some (.map (some mr)):=by unfold gcell;rw [hb];rfl
 obtain ⟨A,c,rfl,hl1,hl2,-⟩:=hv.slice;have hml:maxLen=9223372036854775807:=rfl;rw [List.length_map] at *;obtain ⟨xb,xo,rfl,hrow⟩:=layer_at hv hk
 have hk1:k - 1 < l.length:=by omega
 obtain ⟨b',o',he',hrow'⟩:=layer_at hv hk1
 injection he' with he'
 injection he' with e1 e2
 subst e1;subst e2
 have he:layE (ckP st li rv) e l k=layE0 (ckP st li rv) e k l[k] l[k - 1].key:=by unfold layE;rw [List.getElem?_eq_getElem hk,List.getElem?_eq_getElem hk1];rfl
 obtain ⟨x,hx⟩:∃ x,x=l[k]:=⟨_,rfl⟩;obtain ⟨y,hy⟩:∃ y,y=l[k - 1]:=⟨_,rfl⟩;rw [← hx] at hrow he;rw [← hy] at hrow' he;have hq:=hrow' 1 _ rfl;refine eN [(0,_),(1,_),(2,_),(3,_)] Tryz.func72 rfl Tryz.ntmps72 rfl rfl hG ?_;intro a H;refine kP H (SR fun _ K1=>Ra rfl (Kz K1 (SR fun _ K2=>Rm rfl (Rm rfl (Ri un25run ty178run rfl rfl ?_)))));clear H K1;intro a H;refine s_loada ty178run (cs:=x.cells) H wn rfl rfl (fun j v hj=>H.hp.gcell (hrow j v hj)) rfl ?_;clear H;intro a H;refine s_alloc ty178run H wn rfl ?_;clear H;intro b9 a w hb9 H;refine s_store ty178run 0 (vs:=[_,_,_,_]) _ H wn rfl rfl rfl rfl rfl rfl rfl rfl ?_;clear H;intro w H;dsimp only [List.set,setRow] at H;refine K2 _ _ ?_;clear K2;refine kP H (SQ fun _ K3=>SB (SQ fun _ K4=>?_));clear H;intro a H;refine c_drawI (hmx) [[],[0],[0,1],[0,1,2],[],[4],[0,1,2,3,4,5],(List.range 7),(List.range 8)] [8] (by kernel_rfl) (by kernel_rfl) (fun (ix_:Nat) (v:Value) (G:GH)=>match ix_ with|0=>v=.pointer (some ⟨b,0,none⟩)|1=>v=.pointer (some ⟨b,0,none⟩)|2=>v=.pointer (some ⟨b,2,none⟩)|3=>v=.map (some mr)|4=>v=.pointer (some ⟨b9,0,none⟩)|5=>v=vi x.rev|6=>v=.bool (decide (x.rev∈rv.map RvD.id))|7=>v=.bool (!decide (x.rev∈rv.map RvD.id))|_=>True) (fun _ _ _ _ _ h=>h) H ?_ ?_
 ·clear H;refine al4 ?_ ?_ ?_ ?_ (al4 ?_ ?_ ?_ ?_ (allI_cons ?_ allI_nil))
  ·exact Z0 rfl rfl fun _ _ _ _ _=>Rm rfl
  ·exact Z1 0 15 rfl rfl fun _ _ _ _ _=>Rk rfl
  ·exact Z1 1 16 rfl rfl fun _ _ _ _ _=>Rf fd107_2nck rfl
  ·exact Op1 2 17 rfl rfl fun _ _ _ _ hG _ H fin=>kH H (Rg ty105nck rfl (gcell_mono hG hc2) fun _ H=>fin H iJ rfl)
  ·exact Z0 rfl rfl fun _ _ _ _ _=>Rf fd178_0hdr rfl
  ·exact Z1 4 19 rfl rfl fun _ _ _ _ _=>Ro ty3run 0 rfl rfl
  ·refine Op2 3 18 5 20 rfl rfl fun _ a w G1 hG HT H fin=>?_;refine s_lookupK (zv:=.bool false) un105nck un3cp (by kernel_rfl) H wn rfl rfl (H.hp.ro _ _ (hG _ _ hck.rev)) rfl ?_;clear H;intro a H;rw [lk_set] at H;exact fin H iJ rfl
  ·exact Z1 6 21 rfl rfl fun _ _ _ _ _=>Rn rfl
  exact opB rfl
 clear H;intro a w G hGm2 H hv;obtain ⟨u22,hu22,hp22⟩:=hv 7 22 (by decide) rfl;obtain rfl:u22=.bool (!decide (x.rev∈rv.map RvD.id)):=hp22;have H:=H.addS hu22;clear hv;refine kH H (Ra rfl ?_);clear H;intro a H;refine wl_nil ⟨rfl,?_⟩;refine K4 _ _ ?_;clear K4;refine c_cond H rfl ?_ ?_
 ·intro h14
  try have p14:=dT h14
  refine kP H (SR fun _ K5=>Ra rfl (Kz K5 ?_));clear H K5;intro a H;refine lr H Tryz.results72 rfl ?_
  exact H.hp.ret (by rw [he];refine congrArg vi ?_;clear he hrow hrow' hq hx hy;unfold layE0;(repeat' split) <;> first|rfl|(simp_all;done)|(exfalso;simp_all;done))
 intro h14
 try have p14:=dF h14
 refine kP H (SR fun _ K6=>Rm rfl (Rf fd178_1hdr rfl (Ro ty3run 0 rfl rfl ?_)));clear H;intro a H;refine s_call en99prc H wn rfl (backR (fits_spec _ _ H.hp.ro e x.key)) rfl ?_;clear H;rintro v27 _ a w ⟨⟨_,rfl⟩,rfl⟩ - H;refine kH H (Rn rfl (Ra rfl (Kz K6 ?_)));clear H K6;intro a H;refine c_cond H rfl ?_ ?_
 ·intro h23
  try have p23:=dT h23
  refine kP H (SR fun _ K7=>Ra rfl (Kz K7 ?_));clear H K7;intro a H;refine lr H Tryz.results72 rfl ?_
  exact H.hp.ret (by rw [he];refine congrArg vi ?_;clear he hrow hrow' hq hx hy;unfold layE0;(repeat' split) <;> first|rfl|(simp_all;done)|(exfalso;simp_all;done))
 intro h23
 try have p23:=dF h23
 refine c_seq (fun _ K8=>?_);replace hq:=gcell_mono hGm2 hq
 by_cases c0:0 < (k:Int)
 ·skip
  by_cases c1:x.key < y.key
  ·skip;refine c_drawI (hmx) [[],[0],[0,1],[0,1,2],[0,1,2,3],[0,1,2],[0,1,2],[0,1,2,6],[0,1,2,5,6,7],[0,1,2,5,6,7,8],[0,1,2,5,6,7,8,9],(List.range 11),(List.range 12),(List.range 13)] [13] (by kernel_rfl) (by kernel_rfl) (fun (ix_:Nat) (v:Value) (G:GH)=>match ix_ with|0=>v=vi k|1=>v=.bool (decide (0 < (k:Int)))|2=>v=.bool (decide (0 < (k:Int)))|3=>v=.pointer (some ⟨b9,1,none⟩)|4=>v=vi x.key|5=>v=.slice (some ⟨xb,xo,none⟩) l.length c|6=>v=vi k|7=>v=vi ((k - 1:Nat):Int)|8=>v=.pointer (some ⟨xb,xo+(k - 1)*4,none⟩)|9=>v=.pointer (some ⟨xb,xo+(k - 1)*4+1,none⟩)|10=>v=vi y.key|11=>v=.bool (decide (x.key < y.key))|12=>v=.bool (decide (x.key < y.key))|_=>True) (fun _ _ _ _ _ h=>h) H ?_ ?_
   ·clear H;refine al4 ?_ ?_ ?_ ?_ (al4 ?_ ?_ ?_ ?_ (al4 ?_ ?_ ?_ ?_ (allI_cons ?_ (allI_cons ?_ allI_nil))))
    ·exact Z0 rfl rfl fun _ _ _ _ _=>Rm rfl
    ·exact Z1 0 30 rfl rfl fun _ _ _ _ _=>Rc rfl
    ·exact Z1 1 31 rfl rfl fun _ _ _ _ _=>Rm rfl
    ·exact Op1 2 32 rfl rfl fun _ _ _ _ hG _ H fin=>kH H (YF fd178_1hdr (decide_eq_true c0) rfl fun _ H=>fin H iJ rfl)
    ·exact Op2 3 33 2 32 rfl rfl fun _ _ _ _ hG _ H fin=>kH H (YO ty3run 0 (decide_eq_true c0) rfl rfl fun _ H=>fin H iJ rfl)
    ·exact Op1 2 32 rfl rfl fun _ _ _ _ hG _ H fin=>kH H (YM (decide_eq_true c0) rfl fun _ H=>fin H iJ rfl)
    ·exact Op1 2 32 rfl rfl fun _ _ _ _ hG _ H fin=>kH H (YM (decide_eq_true c0) rfl fun _ H=>fin H iJ rfl)
    ·refine Op2 6 36 2 32 rfl rfl fun _ a w G1 hG HT H fin=>?_;refine s_sub _ H (wg H rfl rfl (decide_eq_true c0)) rfl rfl rfl (by omega) (by omega) rfl ?_;clear H;intro a H;exact fin H iJ (by first|rfl|exact congrArg vi (by omega))
    ·exact Op3 5 35 7 37 2 32 rfl rfl fun _ _ _ _ hG _ H fin=>kH H (YI un25run ty178run (decide_eq_true c0) rfl rfl fun _ H=>fin H iJ rfl)
    ·exact Op2 8 38 2 32 rfl rfl fun _ _ _ _ hG _ H fin=>kH H (YF fd178_1hdr (decide_eq_true c0) rfl fun _ H=>fin H iJ rfl)
    ·exact Op2 9 39 2 32 rfl rfl fun _ _ _ _ hG _ H fin=>kH H (YR ty3run (decide_eq_true c0) rfl (gcell_mono hG hq) fun _ H=>fin H iJ rfl)
    ·exact Op3 4 34 10 40 2 32 rfl rfl fun _ _ _ _ hG _ H fin=>kH H (YC (decide_eq_true c0) rfl fun _ H=>fin H iJ rfl)
    ·exact Op2 2 32 11 41 rfl rfl fun _ _ _ _ hG _ H fin=>kH H (Pt (decide_eq_true c0) rfl fun _ H=>fin H iJ rfl)
    exact opB rfl
   clear H;intro a w G hGm6 H hv;obtain ⟨u42,hu42,hp42⟩:=hv 12 42 (by decide) rfl;obtain rfl:u42=.bool (decide (x.key < y.key)):=hp42;have H:=H.addS hu42;clear hv;refine kH H (Ra rfl ?_);clear H;intro a H;refine wl_nil ⟨rfl,?_⟩;refine K8 _ _ ?_;clear K8;refine c_cond_t H rfl (decide_eq_true c1) ?_;refine c_seq (fun _ K9=>?_);have hz:0 < k∧x.key < y.key:=⟨by omega,c1⟩;refine kP H (SC (Ra rfl (Kn K9 ?_)));clear H K9;intro a H;refine lr H Tryz.results72 rfl ?_
   exact H.hp.ret (by rw [he];refine congrArg vi ?_;clear he hrow hrow' hq hx hy;unfold layE0;(repeat' split) <;> first|rfl|(simp_all;done)|(exfalso;simp_all;done))
  skip;refine c_drawI (hmx) [[],[0],[0,1],[0,1,2],[0,1,2,3],[0,1,2],[0,1,2],[0,1,2,6],[0,1,2,5,6,7],[0,1,2,5,6,7,8],[0,1,2,5,6,7,8,9],(List.range 11),(List.range 12),(List.range 13)] [13] (by kernel_rfl) (by kernel_rfl) (fun (ix_:Nat) (v:Value) (G:GH)=>match ix_ with|0=>v=vi k|1=>v=.bool (decide (0 < (k:Int)))|2=>v=.bool (decide (0 < (k:Int)))|3=>v=.pointer (some ⟨b9,1,none⟩)|4=>v=vi x.key|5=>v=.slice (some ⟨xb,xo,none⟩) l.length c|6=>v=vi k|7=>v=vi ((k - 1:Nat):Int)|8=>v=.pointer (some ⟨xb,xo+(k - 1)*4,none⟩)|9=>v=.pointer (some ⟨xb,xo+(k - 1)*4+1,none⟩)|10=>v=vi y.key|11=>v=.bool (decide (x.key < y.key))|12=>v=.bool (decide (x.key < y.key))|_=>True) (fun _ _ _ _ _ h=>h) H ?_ ?_
  ·clear H;refine al4 ?_ ?_ ?_ ?_ (al4 ?_ ?_ ?_ ?_ (al4 ?_ ?_ ?_ ?_ (allI_cons ?_ (allI_cons ?_ allI_nil))))
   ·exact Z0 rfl rfl fun _ _ _ _ _=>Rm rfl
   ·exact Z1 0 30 rfl rfl fun _ _ _ _ _=>Rc rfl
   ·exact Z1 1 31 rfl rfl fun _ _ _ _ _=>Rm rfl
   ·exact Op1 2 32 rfl rfl fun _ _ _ _ hG _ H fin=>kH H (YF fd178_1hdr (decide_eq_true c0) rfl fun _ H=>fin H iJ rfl)
   ·exact Op2 3 33 2 32 rfl rfl fun _ _ _ _ hG _ H fin=>kH H (YO ty3run 0 (decide_eq_true c0) rfl rfl fun _ H=>fin H iJ rfl)
   ·exact Op1 2 32 rfl rfl fun _ _ _ _ hG _ H fin=>kH H (YM (decide_eq_true c0) rfl fun _ H=>fin H iJ rfl)
   ·exact Op1 2 32 rfl rfl fun _ _ _ _ hG _ H fin=>kH H (YM (decide_eq_true c0) rfl fun _ H=>fin H iJ rfl)
   ·refine Op2 6 36 2 32 rfl rfl fun _ a w G1 hG HT H fin=>?_;refine s_sub _ H (wg H rfl rfl (decide_eq_true c0)) rfl rfl rfl (by omega) (by omega) rfl ?_;clear H;intro a H;exact fin H iJ (by first|rfl|exact congrArg vi (by omega))
   ·exact Op3 5 35 7 37 2 32 rfl rfl fun _ _ _ _ hG _ H fin=>kH H (YI un25run ty178run (decide_eq_true c0) rfl rfl fun _ H=>fin H iJ rfl)
   ·exact Op2 8 38 2 32 rfl rfl fun _ _ _ _ hG _ H fin=>kH H (YF fd178_1hdr (decide_eq_true c0) rfl fun _ H=>fin H iJ rfl)
   ·exact Op2 9 39 2 32 rfl rfl fun _ _ _ _ hG _ H fin=>kH H (YR ty3run (decide_eq_true c0) rfl (gcell_mono hG hq) fun _ H=>fin H iJ rfl)
   ·exact Op3 4 34 10 40 2 32 rfl rfl fun _ _ _ _ hG _ H fin=>kH H (YC (decide_eq_true c0) rfl fun _ H=>fin H iJ rfl)
   ·exact Op2 2 32 11 41 rfl rfl fun _ _ _ _ hG _ H fin=>kH H (Pt (decide_eq_true c0) rfl fun _ H=>fin H iJ rfl)
   exact opB rfl
  clear H;intro a w G hGm6 H hv;obtain ⟨u42,hu42,hp42⟩:=hv 12 42 (by decide) rfl;obtain rfl:u42=.bool (decide (x.key < y.key)):=hp42;have H:=H.addS hu42;clear hv;refine kH H (Ra rfl ?_);clear H;intro a H;refine wl_nil ⟨rfl,?_⟩;refine K8 _ _ ?_;clear K8;refine c_cond_f H rfl (decide_eq_false c1) ?_;refine c_seq (fun _ K10=>?_)
  have hz:¬ (0 < k∧x.key < y.key):=by first|exact fun h=>c1 h.2|exact fun h=>c0 (by omega)
  refine kP H (SC (Rf fd178_3hdr rfl (Ro ty4doc 0 rfl rfl (Rn rfl (Ra rfl (Kn K10 ?_))))));clear H K10;intro a H;refine c_cond H rfl ?_ ?_
  ·intro h43
   try have p43:=dT h43
   refine kP H (SR fun _ K11=>Rf fd178_2hdr rfl (Ro ty3run 0 rfl rfl (Rc rfl ?_)));clear H;intro a H;refine s_call en44nam H wn rfl (when_spec _ _ H.hp.ro _ 21) rfl ?_;clear H;rintro v50 _ a w ⟨rfl,rfl⟩ - H;refine kH H (Ra rfl (Kz K11 ?_));clear H K11;intro a H;refine lr H Tryz.results72 rfl ?_
   exact H.hp.ret (by rw [he];refine congrArg vi ?_;clear he hrow hrow' hq hx hy;unfold layE0;(repeat' split) <;> first|rfl|(simp_all;done)|(exfalso;simp_all;done))
  intro h43
  try have p43:=dF h43
  refine c_skip ?_;refine K3 _ _ ?_;clear K3;refine c_seq (fun _ K12=>?_);replace hck:=(hck.mono hGm2).mono hGm6;replace hb:=hGm6 _ _ (hGm2 _ _ hb);refine c_drawI (hmx) [[],[0],[],[2],[0,1,2,3],[],[],[6],[],[8],(List.range 10),(List.range 11),(List.range 12),(List.range 13)] [11,12,13] (by kernel_rfl) (by kernel_rfl) (fun (ix_:Nat) (v:Value) (G:GH)=>match ix_ with|0=>v=.pointer (some ⟨b9,1,none⟩)|1=>v=vi x.key|2=>v=.pointer (some ⟨b9,2,none⟩)|3=>v=vi x.before|4=>v=vi (chkVS x.key x.before)|5=>v=.pointer (some ⟨b,0,none⟩)|6=>v=.pointer (some ⟨b9,1,none⟩)|7=>v=vi x.key|8=>v=.pointer (some ⟨b9,2,none⟩)|9=>v=vi x.before|10=>v=vi (refE st (li.map LiD.id) x.key x.before)|_=>True) (fun _ _ _ _ _ h=>h) H ?_ ?_
  ·clear H;refine al4 ?_ ?_ ?_ ?_ (al4 ?_ ?_ ?_ ?_ (al4 ?_ ?_ ?_ ?_ (allI_cons ?_ (allI_cons ?_ allI_nil))))
   ·exact Z0 rfl rfl fun _ _ _ _ _=>Rf fd178_1hdr rfl
   ·exact Z1 0 51 rfl rfl fun _ _ _ _ _=>Ro ty3run 0 rfl rfl
   ·exact Z0 rfl rfl fun _ _ _ _ _=>Rf fd178_2hdr rfl
   ·exact Z1 2 53 rfl rfl fun _ _ _ _ _=>Ro ty3run 0 rfl rfl
   ·refine Op2 1 52 3 54 rfl rfl fun _ a w G1 hG HT H fin=>?_;refine s_call en100prc H wn rfl (checkValue_spec _ _ H.hp.ro x.key x.before) rfl ?_;clear H;rintro v55 G55 a w rfl hGm55 H;exact fin H hGm55 (rfl)
   ·exact Z0 rfl rfl fun _ _ _ _ _=>Rm rfl
   ·exact Z0 rfl rfl fun _ _ _ _ _=>Rf fd178_1hdr rfl
   ·exact Z1 6 57 rfl rfl fun _ _ _ _ _=>Ro ty3run 0 rfl rfl
   ·exact Z0 rfl rfl fun _ _ _ _ _=>Rf fd178_2hdr rfl
   ·exact Z1 8 59 rfl rfl fun _ _ _ _ _=>Ro ty3run 0 rfl rfl
   ·refine Op3 5 56 7 58 9 60 rfl rfl fun _ a w G1 hG HT H fin=>?_;refine s_call en70hdr H wn rfl (ckRef_spec _ _ H.hp.ro st li rv b ms ml mr mb mu n x.key x.before (hck.mono hG) (hG _ _ hb)) rfl ?_;clear H;rintro v61 G61 a w ⟨rfl,-⟩ hGm61 H;exact fin H hGm61 (rfl)
   ·exact opB rfl
   ·exact opB rfl
   exact opB rfl
  clear H;intro a w G hGm10 H hv;obtain ⟨u55,hu55,hp55⟩:=hv 4 55 (by decide) rfl;obtain rfl:u55=vi (chkVS x.key x.before):=hp55;have H:=H.addS hu55;obtain ⟨u61,hu61,hp61⟩:=hv 10 61 (by decide) rfl;obtain rfl:u61=vi (refE st (li.map LiD.id) x.key x.before):=hp61;have H:=H.addS hu61;clear hv;refine s_buildSlice un127fst ty46idx [_,_] [_,_] H wn rfl rfl rfl rfl rfl (by intro i q h;match i,h with|0,h=>exact h|1,h=>exact h|n+2,h=>simp at h) rfl rfl ?_;clear H;intro b62 a w hb62 H;obtain ⟨G62,hm62,hb62',H⟩:=H.giveBox;refine s_call en39nam H wn rfl (first_spec1 _ _ H.hp.ro _ _ (two_rep hb62')) rfl ?_;clear H;rintro v63 _ a w ⟨rfl,rfl⟩ - H;refine kH H (Ra rfl ?_);clear H;intro a H;refine wl_nil ⟨rfl,?_⟩;refine K12 _ _ ?_;clear K12;refine lr H Tryz.results72 rfl ?_
  exact H.hp.ret (by rw [he];refine congrArg vi ?_;clear he hrow hrow' hq hx hy;unfold layE0;(repeat' split) <;> first|rfl|(simp_all;done)|(exfalso;simp_all;done))
 skip;refine c_drawI (hmx) [[],[0],[0,1],[0,1,2],[0,1,2,3],[0,1,2],[0,1,2],[0,1,2,6],[0,1,2,5,6,7],[0,1,2,5,6,7,8],[0,1,2,5,6,7,8,9],(List.range 11),(List.range 12),(List.range 13)] [13] (by kernel_rfl) (by kernel_rfl) (fun (ix_:Nat) (v:Value) (G:GH)=>match ix_ with|0=>v=vi k|1=>v=.bool (decide (0 < (k:Int)))|2=>v=.bool (decide (0 < (k:Int)))|3=>v=undef|4=>v=undef|5=>v=undef|6=>v=undef|7=>v=undef|8=>v=undef|9=>v=undef|10=>v=undef|11=>v=undef|12=>v=.bool false|_=>True) (fun _ _ _ _ _ h=>h) H ?_ ?_
 ·clear H;refine al4 ?_ ?_ ?_ ?_ (al4 ?_ ?_ ?_ ?_ (al4 ?_ ?_ ?_ ?_ (allI_cons ?_ (allI_cons ?_ allI_nil))))
  ·exact Z0 rfl rfl fun _ _ _ _ _=>Rm rfl
  ·exact Z1 0 30 rfl rfl fun _ _ _ _ _=>Rc rfl
  ·exact Z1 1 31 rfl rfl fun _ _ _ _ _=>Rm rfl
  ·exact skI 2 (decide_eq_false c0) rfl rfl
  ·exact skI 2 (decide_eq_false c0) rfl rfl
  ·exact skI 2 (decide_eq_false c0) rfl rfl
  ·exact skI 2 (decide_eq_false c0) rfl rfl
  ·exact skI 2 (decide_eq_false c0) rfl rfl
  ·exact skI 2 (decide_eq_false c0) rfl rfl
  ·exact skI 2 (decide_eq_false c0) rfl rfl
  ·exact skI 2 (decide_eq_false c0) rfl rfl
  ·exact skI 2 (decide_eq_false c0) rfl rfl
  ·exact Op2 2 32 11 41 rfl rfl fun _ _ _ _ hG _ H fin=>kH H (Pf (decide_eq_false c0) rfl fun _ H=>fin H iJ rfl)
  exact opB rfl
 clear H;intro a w G hGm6 H hv;obtain ⟨u42,hu42,hp42⟩:=hv 12 42 (by decide) rfl;obtain rfl:u42=.bool false:=hp42;have H:=H.addS hu42;clear hv;refine kH H (Ra rfl ?_);clear H;intro a H;refine wl_nil ⟨rfl,?_⟩;refine K8 _ _ ?_;clear K8;refine c_cond_f H rfl rfl ?_;refine c_seq (fun _ K13=>?_)
 have hz:¬ (0 < k∧x.key < y.key):=by first|exact fun h=>c1 h.2|exact fun h=>c0 (by omega)
 refine kP H (SC (Rf fd178_3hdr rfl (Ro ty4doc 0 rfl rfl (Rn rfl (Ra rfl (Kn K13 ?_))))));clear H K13;intro a H;refine c_cond H rfl ?_ ?_
 ·intro h43
  try have p43:=dT h43
  refine kP H (SR fun _ K14=>Rf fd178_2hdr rfl (Ro ty3run 0 rfl rfl (Rc rfl ?_)));clear H;intro a H;refine s_call en44nam H wn rfl (when_spec _ _ H.hp.ro _ 21) rfl ?_;clear H;rintro v50 _ a w ⟨rfl,rfl⟩ - H;refine kH H (Ra rfl (Kz K14 ?_));clear H K14;intro a H;refine lr H Tryz.results72 rfl ?_
  exact H.hp.ret (by rw [he];refine congrArg vi ?_;clear he hrow hrow' hq hx hy;unfold layE0;(repeat' split) <;> first|rfl|(simp_all;done)|(exfalso;simp_all;done))
 intro h43
 try have p43:=dF h43
 refine c_skip ?_;refine K3 _ _ ?_;clear K3;refine c_seq (fun _ K15=>?_);replace hck:=(hck.mono hGm2).mono hGm6;replace hb:=hGm6 _ _ (hGm2 _ _ hb);refine c_drawI (hmx) [[],[0],[],[2],[0,1,2,3],[],[],[6],[],[8],(List.range 10),(List.range 11),(List.range 12),(List.range 13)] [11,12,13] (by kernel_rfl) (by kernel_rfl) (fun (ix_:Nat) (v:Value) (G:GH)=>match ix_ with|0=>v=.pointer (some ⟨b9,1,none⟩)|1=>v=vi x.key|2=>v=.pointer (some ⟨b9,2,none⟩)|3=>v=vi x.before|4=>v=vi (chkVS x.key x.before)|5=>v=.pointer (some ⟨b,0,none⟩)|6=>v=.pointer (some ⟨b9,1,none⟩)|7=>v=vi x.key|8=>v=.pointer (some ⟨b9,2,none⟩)|9=>v=vi x.before|10=>v=vi (refE st (li.map LiD.id) x.key x.before)|_=>True) (fun _ _ _ _ _ h=>h) H ?_ ?_
 ·clear H;refine al4 ?_ ?_ ?_ ?_ (al4 ?_ ?_ ?_ ?_ (al4 ?_ ?_ ?_ ?_ (allI_cons ?_ (allI_cons ?_ allI_nil))))
  ·exact Z0 rfl rfl fun _ _ _ _ _=>Rf fd178_1hdr rfl
  ·exact Z1 0 51 rfl rfl fun _ _ _ _ _=>Ro ty3run 0 rfl rfl
  ·exact Z0 rfl rfl fun _ _ _ _ _=>Rf fd178_2hdr rfl
  ·exact Z1 2 53 rfl rfl fun _ _ _ _ _=>Ro ty3run 0 rfl rfl
  ·refine Op2 1 52 3 54 rfl rfl fun _ a w G1 hG HT H fin=>?_;refine s_call en100prc H wn rfl (checkValue_spec _ _ H.hp.ro x.key x.before) rfl ?_;clear H;rintro v55 G55 a w rfl hGm55 H;exact fin H hGm55 (rfl)
  ·exact Z0 rfl rfl fun _ _ _ _ _=>Rm rfl
  ·exact Z0 rfl rfl fun _ _ _ _ _=>Rf fd178_1hdr rfl
  ·exact Z1 6 57 rfl rfl fun _ _ _ _ _=>Ro ty3run 0 rfl rfl
  ·exact Z0 rfl rfl fun _ _ _ _ _=>Rf fd178_2hdr rfl
  ·exact Z1 8 59 rfl rfl fun _ _ _ _ _=>Ro ty3run 0 rfl rfl
  ·refine Op3 5 56 7 58 9 60 rfl rfl fun _ a w G1 hG HT H fin=>?_;refine s_call en70hdr H wn rfl (ckRef_spec _ _ H.hp.ro st li rv b ms ml mr mb mu n x.key x.before (hck.mono hG) (hG _ _ hb)) rfl ?_;clear H;rintro v61 G61 a w ⟨rfl,-⟩ hGm61 H;exact fin H hGm61 (rfl)
  ·exact opB rfl
  ·exact opB rfl
  exact opB rfl
 clear H;intro a w G hGm10 H hv;obtain ⟨u55,hu55,hp55⟩:=hv 4 55 (by decide) rfl;obtain rfl:u55=vi (chkVS x.key x.before):=hp55;have H:=H.addS hu55;obtain ⟨u61,hu61,hp61⟩:=hv 10 61 (by decide) rfl;obtain rfl:u61=vi (refE st (li.map LiD.id) x.key x.before):=hp61;have H:=H.addS hu61;clear hv;refine s_buildSlice un127fst ty46idx [_,_] [_,_] H wn rfl rfl rfl rfl rfl (by intro i q h;match i,h with|0,h=>exact h|1,h=>exact h|n+2,h=>simp at h) rfl rfl ?_;clear H;intro b62 a w hb62 H;obtain ⟨G62,hm62,hb62',H⟩:=H.giveBox;refine s_call en39nam H wn rfl (first_spec1 _ _ H.hp.ro _ _ (two_rep hb62')) rfl ?_;clear H;rintro v63 _ a w ⟨rfl,rfl⟩ - H;refine kH H (Ra rfl ?_);clear H;intro a H;refine wl_nil ⟨rfl,?_⟩;refine K15 _ _ ?_;clear K15;refine lr H Tryz.results72 rfl ?_
 exact H.hp.ret (by rw [he];refine congrArg vi ?_;clear he hrow hrow' hq hx hy;unfold layE0;(repeat' split) <;> first|rfl|(simp_all;done)|(exfalso;simp_all;done))
end
end Go.Proofs.YthichnnlceeofaaGreat
