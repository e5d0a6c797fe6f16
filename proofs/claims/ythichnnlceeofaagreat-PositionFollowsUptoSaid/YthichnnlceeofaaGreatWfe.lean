/-
  What the claim stands on, part 5: Package document: the checker's head. Package document: form. What the checker's item, items and rows compute. Package document: visit, ids. Valid documents: their ids, their flows, their positions. Package position: Path, Lift, Intersect. How many ids a checker notes. Package obeluslaw15: size, positions, all, find, check, checkRange. Package document: the checker's rows. Package document: the checker's item. Package document: all with blocks that are lent; the checker's items. Package document: checkRevs. Package document: Check. Package document: ids, Fresh, Units, Flows. Package obeluslaw15: all, find, check, checkRange, Small; package position: Compare, Follow, Precede. Positions of valid documents: none twice, and what Index and Of give. The example of layer 15, and what it gives.
-/
import Derived.Test.YthichnnlceeofaaGreatWfd
namespace Go.Proofs.YthichnnlceeofaaGreat
section
open Go.RowKit
theorem ty97hea:Ty Tryz.prog 97 1 8 [.pointer none] false:=⟨by kernel_rfl,by kernel_rfl⟩
theorem en72hea:∀ args w,(callFunc 72 args).run Tryz.prog w=.ok (.enter 72 args) w:=enters Tryz.func72 rfl (by kernel_rfl)
theorem ty27hea:Ty Tryz.prog 27 4 64 [.int .i64 0,.int .i64 0,.slice none 0 0,.slice none 0 0] true:=⟨by kernel_rfl,by kernel_rfl⟩
theorem fd27_0hea:Fld Tryz.prog 27 0 0:=⟨by kernel_rfl⟩
theorem fd27_1hea:Fld Tryz.prog 27 1 1:=⟨by kernel_rfl⟩
theorem fd150_0hea:Fld Tryz.prog 150 0 0:=⟨by kernel_rfl⟩
theorem fd150_1hea:Fld Tryz.prog 150 1 1:=⟨by kernel_rfl⟩
theorem en71hea:∀ args w,(callFunc 71 args).run Tryz.prog w=.ok (.enter 71 args) w:=enters Tryz.func71 rfl (by kernel_rfl)
theorem lay_cb {G:GH} {st:List StyleD} {li:List LiD} {rv:List RvD} {b ms ml mr mb mu:Nat} {n:Int} (hck:CkG G st li rv ms ml mr mu) (hb:G b=some (ckB b ms ml mr mb mu n).2)
  {x3 x4 x11:Nat} {e:Int} {l:List LayerD} {v:Value} (h3:gcell G x3 0=some (.pointer (some ⟨b,0,none⟩))) (h4:gcell G x4 0=some (vi e)) (h11:gcell G x11 3=some v) (hv:RepV G (.sl 4 (l.map LayerD.dat)) v) :
  IxCb (.func (.func 71) #[] #[.pointer (some ⟨x3,0,none⟩),.pointer (some ⟨x4,0,none⟩),.pointer (some ⟨x11,0,none⟩)]) G l.length (layE (ckP st li rv) e l):=by
 intro k hk G1 w0 hm hG;refine callV_func (caps:=[.pointer (some ⟨x3,0,none⟩),.pointer (some ⟨x4,0,none⟩),.pointer (some ⟨x11,0,none⟩)]) en71hea ?_;replace h3:=gcell_mono hm h3;replace h4:=gcell_mono hm h4;replace h11:=gcell_mono hm h11;replace hv:=hv.mono hm;obtain ⟨vA,vn,vc,rfl⟩:=hv.form;refine eN [(0,_),(1,_),(2,_),(3,_)] Tryz.func71 rfl Tryz.ntmps71 rfl rfl hG ?_;intro a H;refine kP H (SR fun _ K1=>Ra rfl (Kz K1 (SR fun _ K2=>Rg ty97hea rfl (by assumption) ?_)));clear H K1;intro a H;refine kH H (Rg ty3run rfl (by assumption) ?_);clear H;intro a H;refine kH H (Rf fd27_3run rfl (Rg ty25run rfl (by assumption) ?_));clear H;intro a H;refine kH H (Rm rfl ?_);clear H;intro a H;refine s_call en72hea H wn rfl (layer_spec _ _ H.hp.ro st li rv b ms ml mr mb mu n (hck.mono hm) (hm _ _ hb) e l _ hv k hk) rfl ?_;clear H;rintro v11 G11 a w rfl hm11 H;refine kH H (Ra rfl (Kz K2 ?_));clear H K2;intro a H;refine lr H Tryz.results71 rfl ?_;exact H.hp.ret rfl
/-- The errors of the properties, of the marks, of the deletions. -/
def refsE (C:CkP) (l:List PropD):Int:=firstE (l.map fun p=>refE C.st C.lis p.key p.value)
def mrkE (C:CkP) (m:MarksD):Int:=if m.ins≠0∧m.ins∉C.rvs then 22 else if ¬ (0≤m.move∧m.move≤1073741824)∨(m.move≠0∧m.ins=0) then 21 else if 16 < (m.dels.length:Int) then 9 else 0
def delE0 (C:CkP) (k:Nat) (x:DelD) (pr:Int):Int:=if x.rev∉C.rvs then 22 else if 0 < k∧x.rev≤pr then 6 else if ¬ (0≤x.move∧x.move≤1073741824) then 21 else 0
def delE (C:CkP) (l:List DelD) (k:Nat):Int:=match l[k]? with|some x=>delE0 C k x ((l[k - 1]?.map DelD.rev).getD 0)|none=>0
/-- The error of a head. -/
def headE (C:CkP) (e:Int) (h:HeadD):Int:=firstE [chkPS e h.props,refsE C h.props,mrkE C h.marks,allE (delE C h.marks.dels) h.marks.dels.length,whenE (decide (64 < (h.marks.layers.length:Int))) 9,allE (layE C e h.marks.layers) h.marks.layers.length]
theorem headE_1 {C:CkP} {e:Int} {h:HeadD} (h1:chkPS e h.props≠0):headE C e h=chkPS e h.props:=by simp [headE,firstE,h1]
theorem headE_2 {C:CkP} {e:Int} {h:HeadD} (h1:chkPS e h.props=0) (h2:refsE C h.props≠0):headE C e h=refsE C h.props:=by simp [headE,firstE,h1,h2]
theorem headE_3 {C:CkP} {e:Int} {h:HeadD} (h1:chkPS e h.props=0) (h2:refsE C h.props=0) (h3:mrkE C h.marks≠0):headE C e h=mrkE C h.marks:=by simp [headE,firstE,h1,h2,h3]
theorem headE_4 {C:CkP} {e:Int} {h:HeadD} (h1:chkPS e h.props=0) (h2:refsE C h.props=0) (h3:mrkE C h.marks=0) (h4:allE (delE C h.marks.dels) h.marks.dels.length≠0):headE C e h=allE (delE C h.marks.dels) h.marks.dels.length:=by simp [headE,firstE,h1,h2,h3,h4]
theorem headE_5 {C:CkP} {e:Int} {h:HeadD} (h1:chkPS e h.props=0) (h2:refsE C h.props=0) (h3:mrkE C h.marks=0) (h4:allE (delE C h.marks.dels) h.marks.dels.length=0) (h5:64 < (h.marks.layers.length:Int)):headE C e h=9:=by simp [headE,firstE,h1,h2,h3,h4,whenE,h5]
theorem headE_6 {C:CkP} {e:Int} {h:HeadD} (h1:chkPS e h.props=0) (h2:refsE C h.props=0) (h3:mrkE C h.marks=0) (h4:allE (delE C h.marks.dels) h.marks.dels.length=0) (h5:¬ 64 < (h.marks.layers.length:Int)):headE C e h=allE (layE C e h.marks.layers) h.marks.layers.length:=by simp [headE,firstE,h1,h2,h3,h4,whenE,h5];exact Eq.symm
theorem refsE_at {C:CkP} {l:List PropD} {k:Nat} (h:k < l.length):firstE ((l.map fun p=>refE C.st C.lis p.key p.value).drop k)=if refE C.st C.lis l[k].key l[k].value≠0 then refE C.st C.lis l[k].key l[k].value else firstE ((l.map fun p=>refE C.st C.lis p.key p.value).drop (k+1)):=by
 rw [firstE_at (by simpa using h)];simp
theorem head_spec (G:GH) (w0:World) (hG:Hold G w0) (st:List StyleD) (li:List LiD) (rv:List RvD) (b ms ml mr mb mu:Nat) (n:Int) (hck:CkG G st li rv ms ml mr mu) (hb:G b=some (ckB b ms ml mr mb mu n).2)
  (e:Int) (h:HeadD) (p d l:Value) (hh:HeadR G h p d l) (hz:zHead h≤4294967296) :
  Calls Tryz.prog 43 #[.pointer (some ⟨b,0,none⟩),vi e,hdV h p d l] w0 (Ret w0 G fun u G'=>u=vi (headE (ckP st li rv) e h)):=by
 obtain ⟨pA,pc,rfl,-,-,-⟩:=hh.props.slice;obtain ⟨dA,dc,rfl,-,-,-⟩:=hh.dels.slice;obtain ⟨lA,lc,rfl,-,-,-⟩:=hh.layers.slice;have hml:maxLen=9223372036854775807:=rfl;have hzz:=zHead_eq h;have hz1:=szRs_length (h.props.map PropD.dat);have hz2:=szRs_length (h.marks.dels.map DelD.dat);have hz3:=szRs_length (h.marks.layers.map LayerD.dat)
 simp only [List.length_map] at hh hz1 hz2 hz3 ⊢
 generalize zHead h=zz at hz hzz
 refine eN [(0,_),(1,_),(2,_)] Tryz.func43 rfl Tryz.ntmps43 rfl rfl hG ?_;intro a H;refine c_seqR (fun _ K1=>?_);refine s_box (cs:=[_]) H wn rfl rfl rfl ?_;clear H;intro b3 a w hb3 H;refine s_box (cs:=[_]) H wn rfl rfl rfl ?_;clear H;intro b4 a w hb4 H;refine s_box (cs:=[_,_,_,_,_]) H wn rfl rfl rfl ?_;clear H;intro b5 a w hb5 H;refine kH H (Ra rfl (Kz K1 (SQ fun _ K2=>SQ fun _ K3=>?_)));clear H K1;intro a H;obtain ⟨Ga5,hma5,hb5',H⟩:=H.giveBox;obtain ⟨Ga4,hma4,hb4',H⟩:=H.giveBox;obtain ⟨Ga,hma3,hb3',H⟩:=H.giveBox;replace hb5':=hma3 _ _ (hma4 _ _ hb5');replace hb4':=hma3 _ _ hb4';have hma:∀ b o,G b=some o→Ga b=some o:=fun b o h=>hma3 _ _ (hma4 _ _ (hma5 _ _ h));clear hma3 hma4 hma5;replace hck:=hck.mono hma;replace hb:=hma _ _ hb;replace hh:=hh.mono hma
 have g3:gcell Ga b3 0=some (.pointer (some ⟨b,0,none⟩)):=by unfold gcell;rw [hb3'];rfl
 have g4:gcell Ga b4 0=some (vi e):=by unfold gcell;rw [hb4'];rfl
 have g50:gcell Ga b5 0=some (.slice pA h.props.length pc):=by unfold gcell;rw [hb5'];rfl
 have g51:∀ (j:Nat) (u:Value),[vi h.marks.ins,vi h.marks.move,.slice dA h.marks.dels.length dc,.slice lA h.marks.layers.length lc][j]?=some u→gcell Ga b5 (1+j)=some u:=by
  intro j u hj
  unfold gcell;rw [hb5']
  match j,hj with
  | 0,hj=>exact hj
  | 1,hj=>exact hj
  | 2,hj=>exact hj
  | 3,hj=>exact hj
  | n+4,hj=>simp at hj
 have hc2:gcell Ga b 2=some (.map (some mr)):=by unfold gcell;rw [hb];rfl
 refine kP H (SC (Rg ty3run rfl (by assumption) ?_));clear H;intro a H;refine kH H (Rf fd29_0run rfl (Rg ty23run rfl (by assumption) ?_));clear H;intro a H;refine s_call en69stz H wn rfl (backR (propCheck_spec _ _ H.hp.ro e h.props _ hh.props)) rfl ?_;clear H;rintro v17 _ a w ⟨⟨_,rfl⟩,rfl⟩ - H;refine kH H (Ra rfl (Kn K3 (SR fun _ K4=>Rm rfl (Rc rfl (Kz K4 ?_)))));clear H K3 K4;intro a H;refine c_cond H rfl ?_ ?_
 ·intro h19
  try have p19:=dT h19
  refine c_seq (fun _ K5=>?_);have hE:=headE_1 (C:=ckP st li rv) (e:=e) (h:=h) p19;refine kP H (SC (Rm rfl (Ra rfl (Kn K5 ?_))));clear H K5;intro a H;refine lr H Tryz.results43 rfl ?_;exact H.hp.ret (by rw [hE])
 intro h19
 try have p19:=dF h19
 have e1:chkPS e h.props=0:=by simpa using p19
 refine kP H (Kc K2 (SQ fun _ K6=>SR fun _ K7=>Rf fd29_0run rfl (Rg ty23run rfl (by assumption) ?_)));clear H K2;intro a H;refine kH H (Rl un23run rfl (Rm rfl (Kz K7 (SB ?_))));clear H K7;intro a H;skip;refine c_loopS (ι:=Nat) (Tc:=[(3,_),(4,_),(5,_),(22,_),(23,_)]) (Lc:=[]) (fun (gh:Nat)=>[(24,vi gh)]) (fun (gh:Nat)=>[]) (fun (gh:Nat)=>Ga) (fun (gh:Nat)=>gh≤h.props.length∧firstE ((h.props.map fun p=>refE st (li.map LiD.id) p.key p.value).drop gh)=refsE (ckP st li rv) h.props) (fun (gh:Nat)=>h.props.length - gh) (0) (by exact (H).sub ⟨rfl,rfl,rfl,rfl,rfl,rfl,trivial⟩) ?_ ?_
 ·exact ⟨Nat.zero_le _,rfl⟩
 clear H;intro gh a w hI H;obtain ⟨k,hgh⟩:∃ x,x=gh:=⟨_,rfl⟩;subst hgh;obtain ⟨hk,heq⟩:=hI;dsimp only [List.cons_append,List.nil_append,List.append_nil] at H;refine kP H (SR fun _ K8=>Rc rfl (Kz K8 (SQ fun _ K9=>?_)));clear H K8;intro a H;refine c_cond H rfl ?_ ?_
 ·intro h25
  try have p25:=dT h25
  have hk2:k < h.props.length:=by omega
  obtain ⟨xb,xo,rfl,hrow⟩:=prop_at hh.props hk2;refine kP H (Kc K9 (SQ fun _ K10=>SB (SR fun _ K11=>Ri un23run ty147run rfl rfl ?_)));clear H K9;intro a H;refine s_loada ty147run (cs:=[_,_]) H wn rfl rfl (fun j v hj=>H.hp.gcell (hrow j v hj)) rfl ?_;clear H;intro a H;refine s_alloc ty147run H wn rfl ?_;clear H;intro b9 a w hb9 H;refine s_store ty147run 0 (vs:=[_,_]) _ H wn rfl rfl rfl rfl rfl rfl rfl rfl ?_;clear H;intro w H;dsimp only [List.set,setRow] at H;refine K11 _ _ ?_;clear K11;refine kP H (SR fun _ K12=>Rg ty97hea rfl (by assumption) ?_);clear H;intro a H;refine kH H (Rf fd147_0prc rfl (Ro ty3run 0 rfl rfl (Rf fd147_1prc rfl (Ro ty3run 0 rfl rfl ?_))));clear H;intro a H;refine s_call en70hdr H wn rfl (ckRef_spec _ _ H.hp.ro st li rv b ms ml mr mb mu n h.props[k].key h.props[k].value hck hb) rfl ?_;clear H;rintro v33 _ a w ⟨rfl,rfl⟩ - H;refine kH H (Ra rfl (Kz K12 (SR fun _ K13=>Rm rfl (Rc rfl (Kz K13 ?_)))));clear H K12 K13;intro a H;refine c_cond H rfl ?_ ?_
  ·intro h35
   try have p35:=dT h35
   refine c_seq (fun _ K14=>?_)
   have hr:refsE (ckP st li rv) h.props=refE st (li.map LiD.id) h.props[k].key h.props[k].value:=by rw [← heq];exact (refsE_at (C:=ckP st li rv) hk2).trans (if_pos p35)
   have hE:=(headE_2 (C:=ckP st li rv) (e:=e) (h:=h) e1 (by rw [hr];exact p35)).trans hr;refine kP H (SC (Rm rfl (Ra rfl (Kn K14 ?_))));clear H K14;intro a H;refine lr H Tryz.results43 rfl ?_;exact H.hp.ret (by rw [hE])
  intro h35
  try have p35:=dF h35
  refine kP H (Kc K10 (SC (Rd rfl (Rm rfl ?_))));clear H K10;intro a H;refine wl_nil ?_;refine loop_end ((k+1)) (by exact (H.pickT (Pl:=[_]) (Pl':=[]) [] (by decide) rfl).sub ⟨rfl,rfl,rfl,rfl,rfl,rfl,trivial⟩) ?_ ?_
  ·exact ⟨by omega,by rw [refsE_at (C:=ckP st li rv) hk2,if_neg (by simpa using p35)] at heq;exact heq⟩
  first|omega|(dsimp only;omega)
 intro h25
 try have p25:=dF h25
 refine c_exit ?_;refine K6 _ _ ?_;clear K6;refine c_seq (fun _ K15=>?_)
 have e2:refsE (ckP st li rv) h.props=0:=by rw [← heq,List.drop_of_length_le (by rw [List.length_map];omega)];rfl
 refine kP H (SC (Rf fd29_1run rfl ?_));clear H;intro a H;refine s_loada ty27hea (cs:=[vi h.marks.ins,vi h.marks.move,.slice dA h.marks.dels.length dc,.slice lA h.marks.layers.length lc]) H wn rfl rfl (fun j v hj=>H.hp.gcell (g51 j v hj)) rfl ?_;clear H;intro a H;refine s_alloc ty27hea H wn rfl ?_;clear H;intro b11 a w hb11 H;refine s_store ty27hea 0 (vs:=[_,_,_,_]) _ H wn rfl rfl rfl rfl rfl rfl rfl rfl ?_;clear H;intro w H;dsimp only [List.set,setRow] at H;obtain ⟨Gb,hmb,hb11',H⟩:=H.giveBox;replace hck:=hck.mono hmb;replace hb:=hmb _ _ hb;replace hh:=hh.mono hmb;replace g3:=gcell_mono hmb g3;replace g4:=gcell_mono hmb g4;replace hc2:=gcell_mono hmb hc2
 have q0:gcell Gb b11 0=some (vi h.marks.ins):=by unfold gcell;rw [hb11'];rfl
 have q1:gcell Gb b11 1=some (vi h.marks.move):=by unfold gcell;rw [hb11'];rfl
 have q2:gcell Gb b11 2=some (.slice dA h.marks.dels.length dc):=by unfold gcell;rw [hb11'];rfl
 have q3:gcell Gb b11 3=some (.slice lA h.marks.layers.length lc):=by unfold gcell;rw [hb11'];rfl
 have hcb:=lay_cb hck hb g3 g4 q3 hh.layers;refine wl_nil ?_;refine K15 _ _ ?_;clear K15;refine c_seqJ (ι:=GH) (Tc:=[(3,_),(4,_),(11,_)]) (Lc:=[]) (fun (gh:GH)=>[]) (fun (gh:GH)=>[]) (fun (gh:GH)=>gh) (fun (gh:GH)=>mrkE (ckP st li rv) h.marks=0∧(∀ b o,Gb b=some o→gh b=some o)) (by exact (H).sub ⟨rfl,rfl,rfl,trivial⟩) ?_ ?_
 ·skip;refine c_block ?_;refine c_seq (fun _ K16=>?_)
  by_cases c0:h.marks.ins≠0
  ·skip
   by_cases c1:h.marks.ins∉rv.map RvD.id
   ·skip;refine c_drawI (hmx) [[],[0],[0,1],[0,1,2],[0,1,2,3],[0,1,2,3,4],[0,1,2,3,4,5],(List.range 7),[0,1,2,3],[0,1,2,3,8],(List.range 10),(List.range 11),(List.range 12),(List.range 13)] [13] (by kernel_rfl) (by kernel_rfl) (fun (ix_:Nat) (v:Value) (G:GH)=>match ix_ with|0=>v=.pointer (some ⟨b11,0,none⟩)|1=>v=vi h.marks.ins|2=>v=.bool (decide (h.marks.ins≠0))|3=>v=.bool (decide (h.marks.ins≠0))|4=>v=.pointer (some ⟨b,0,none⟩)|5=>v=.pointer (some ⟨b,0,none⟩)|6=>v=.pointer (some ⟨b,2,none⟩)|7=>v=.map (some mr)|8=>v=.pointer (some ⟨b11,0,none⟩)|9=>v=vi h.marks.ins|10=>v=.bool (decide (h.marks.ins∈rv.map RvD.id))|11=>v=.bool (decide (h.marks.ins∉rv.map RvD.id))|12=>v=.bool (decide (h.marks.ins∉rv.map RvD.id))|_=>True) (fun _ _ _ _ _ h=>h) H ?_ ?_
    ·clear H;refine al4 ?_ ?_ ?_ ?_ (al4 ?_ ?_ ?_ ?_ (al4 ?_ ?_ ?_ ?_ (allI_cons ?_ (allI_cons ?_ allI_nil))))
     ·exact Z0 rfl rfl fun _ _ _ _ _=>Rf fd27_0hea rfl
     ·exact Op1 0 41 rfl rfl fun _ _ _ _ hG _ H fin=>kH H (Rg ty3run rfl (gcell_mono hG q0) fun _ H=>fin H iJ rfl)
     ·exact Z1 1 42 rfl rfl fun _ _ _ _ _=>Rc rfl
     ·exact Z1 2 43 rfl rfl fun _ _ _ _ _=>Rm rfl
     ·exact Op1 3 44 rfl rfl fun _ _ _ _ hG _ H fin=>kH H (YR ty97hea (decide_eq_true c0) rfl (gcell_mono hG g3) fun _ H=>fin H iJ rfl)
     ·refine Op2 4 45 3 44 rfl rfl fun _ a w G1 hG HT H fin=>?_;refine s_nilCheck H (wg H rfl rfl (decide_eq_true c0)) rfl rfl ?_;clear H;intro a H;exact fin H iJ rfl
     ·exact Op2 5 46 3 44 rfl rfl fun _ _ _ _ hG _ H fin=>kH H (YF fd107_2nck (decide_eq_true c0) rfl fun _ H=>fin H iJ rfl)
     ·exact Op2 6 47 3 44 rfl rfl fun _ _ _ _ hG _ H fin=>kH H (YR ty105nck (decide_eq_true c0) rfl (gcell_mono hG hc2) fun _ H=>fin H iJ rfl)
     ·exact Op1 3 44 rfl rfl fun _ _ _ _ hG _ H fin=>kH H (YF fd27_0hea (decide_eq_true c0) rfl fun _ H=>fin H iJ rfl)
     ·exact Op2 8 49 3 44 rfl rfl fun _ _ _ _ hG _ H fin=>kH H (YR ty3run (decide_eq_true c0) rfl (gcell_mono hG q0) fun _ H=>fin H iJ rfl)
     ·refine Op3 7 48 9 50 3 44 rfl rfl fun _ a w G1 hG HT H fin=>?_;refine s_lookupK (zv:=.bool false) un105nck un3cp (by kernel_rfl) H (wg H rfl rfl (decide_eq_true c0)) rfl rfl (H.hp.ro _ _ (hG _ _ hck.rev)) rfl ?_;clear H;intro a H;rw [lk_set] at H;exact fin H iJ rfl
     ·refine Op2 10 51 3 44 rfl rfl fun _ a w G1 hG HT H fin=>?_;refine kH H (YN (decide_eq_true c0) rfl ?_);clear H;intro a H;exact fin H iJ (by first|rfl|exact congrArg Value.bool decide_not.symm)
     ·exact Op2 3 44 11 52 rfl rfl fun _ _ _ _ hG _ H fin=>kH H (Pt (decide_eq_true c0) rfl fun _ H=>fin H iJ rfl)
     exact opB rfl
    clear H;intro a w G hGm12 H hv;obtain ⟨u53,hu53,hp53⟩:=hv 12 53 (by decide) rfl;obtain rfl:u53=.bool (decide (h.marks.ins∉rv.map RvD.id)):=hp53;have H:=H.addS hu53;clear hv;refine kH H (Ra rfl ?_);clear H;intro a H;refine wl_nil ⟨rfl,?_⟩;refine K16 _ _ ?_;clear K16;refine c_cond_t H rfl (decide_eq_true c1) ?_;refine c_seq (fun _ K17=>?_);have e3:mrkE (ckP st li rv) h.marks=22:=if_pos ⟨c0,c1⟩;have hE:=(headE_3 (C:=ckP st li rv) (e:=e) (h:=h) e1 e2 (by rw [e3];decide)).trans e3;refine kP H (SC (Ra rfl (Kn K17 ?_)));clear H K17;intro a H;refine lr H Tryz.results43 rfl ?_;exact H.hp.ret (by rw [hE])
   skip;refine c_drawI (hmx) [[],[0],[0,1],[0,1,2],[0,1,2,3],[0,1,2,3,4],[0,1,2,3,4,5],(List.range 7),[0,1,2,3],[0,1,2,3,8],(List.range 10),(List.range 11),(List.range 12),(List.range 13)] [13] (by kernel_rfl) (by kernel_rfl) (fun (ix_:Nat) (v:Value) (G:GH)=>match ix_ with|0=>v=.pointer (some ⟨b11,0,none⟩)|1=>v=vi h.marks.ins|2=>v=.bool (decide (h.marks.ins≠0))|3=>v=.bool (decide (h.marks.ins≠0))|4=>v=.pointer (some ⟨b,0,none⟩)|5=>v=.pointer (some ⟨b,0,none⟩)|6=>v=.pointer (some ⟨b,2,none⟩)|7=>v=.map (some mr)|8=>v=.pointer (some ⟨b11,0,none⟩)|9=>v=vi h.marks.ins|10=>v=.bool (decide (h.marks.ins∈rv.map RvD.id))|11=>v=.bool (decide (h.marks.ins∉rv.map RvD.id))|12=>v=.bool (decide (h.marks.ins∉rv.map RvD.id))|_=>True) (fun _ _ _ _ _ h=>h) H ?_ ?_
   ·clear H;refine al4 ?_ ?_ ?_ ?_ (al4 ?_ ?_ ?_ ?_ (al4 ?_ ?_ ?_ ?_ (allI_cons ?_ (allI_cons ?_ allI_nil))))
    ·exact Z0 rfl rfl fun _ _ _ _ _=>Rf fd27_0hea rfl
    ·exact Op1 0 41 rfl rfl fun _ _ _ _ hG _ H fin=>kH H (Rg ty3run rfl (gcell_mono hG q0) fun _ H=>fin H iJ rfl)
    ·exact Z1 1 42 rfl rfl fun _ _ _ _ _=>Rc rfl
    ·exact Z1 2 43 rfl rfl fun _ _ _ _ _=>Rm rfl
    ·exact Op1 3 44 rfl rfl fun _ _ _ _ hG _ H fin=>kH H (YR ty97hea (decide_eq_true c0) rfl (gcell_mono hG g3) fun _ H=>fin H iJ rfl)
    ·refine Op2 4 45 3 44 rfl rfl fun _ a w G1 hG HT H fin=>?_;refine s_nilCheck H (wg H rfl rfl (decide_eq_true c0)) rfl rfl ?_;clear H;intro a H;exact fin H iJ rfl
    ·exact Op2 5 46 3 44 rfl rfl fun _ _ _ _ hG _ H fin=>kH H (YF fd107_2nck (decide_eq_true c0) rfl fun _ H=>fin H iJ rfl)
    ·exact Op2 6 47 3 44 rfl rfl fun _ _ _ _ hG _ H fin=>kH H (YR ty105nck (decide_eq_true c0) rfl (gcell_mono hG hc2) fun _ H=>fin H iJ rfl)
    ·exact Op1 3 44 rfl rfl fun _ _ _ _ hG _ H fin=>kH H (YF fd27_0hea (decide_eq_true c0) rfl fun _ H=>fin H iJ rfl)
    ·exact Op2 8 49 3 44 rfl rfl fun _ _ _ _ hG _ H fin=>kH H (YR ty3run (decide_eq_true c0) rfl (gcell_mono hG q0) fun _ H=>fin H iJ rfl)
    ·refine Op3 7 48 9 50 3 44 rfl rfl fun _ a w G1 hG HT H fin=>?_;refine s_lookupK (zv:=.bool false) un105nck un3cp (by kernel_rfl) H (wg H rfl rfl (decide_eq_true c0)) rfl rfl (H.hp.ro _ _ (hG _ _ hck.rev)) rfl ?_;clear H;intro a H;rw [lk_set] at H;exact fin H iJ rfl
    ·refine Op2 10 51 3 44 rfl rfl fun _ a w G1 hG HT H fin=>?_;refine kH H (YN (decide_eq_true c0) rfl ?_);clear H;intro a H;exact fin H iJ (by first|rfl|exact congrArg Value.bool decide_not.symm)
    ·exact Op2 3 44 11 52 rfl rfl fun _ _ _ _ hG _ H fin=>kH H (Pt (decide_eq_true c0) rfl fun _ H=>fin H iJ rfl)
    exact opB rfl
   clear H;intro a w G hGm12 H hv;obtain ⟨u53,hu53,hp53⟩:=hv 12 53 (by decide) rfl;obtain rfl:u53=.bool (decide (h.marks.ins∉rv.map RvD.id)):=hp53;have H:=H.addS hu53;clear hv;refine kH H (Ra rfl ?_);clear H;intro a H;refine wl_nil ⟨rfl,?_⟩;refine K16 _ _ ?_;clear K16;refine c_cond_f H rfl (decide_eq_false c1) ?_;refine c_seq (fun _ K18=>?_)
   have hno:¬ (h.marks.ins≠0∧h.marks.ins∉(ckP st li rv).rvs):=by first|exact fun h=>c1 h.2|exact fun h=>c0 h.1
   replace q0:=gcell_mono hGm12 q0;replace q1:=gcell_mono hGm12 q1;replace q2:=gcell_mono hGm12 q2;refine kP H (SC (Rf fd27_1hea rfl (Rg ty3run rfl (by assumption) ?_)));clear H;intro a H;refine s_call en68fst H wn rfl (in_spec _ _ H.hp.ro h.marks.move 0 1073741824) rfl ?_;clear H;rintro v57 _ a w ⟨rfl,rfl⟩ - H;refine kH H (Rn rfl (Rm rfl ?_));clear H;intro a H;refine s_split H 59 rfl ?_ ?_
   ·intro h59
    try have p59:=dT h59
    refine kH H (Ks h59 rfl (Ks h59 rfl (Ks h59 rfl (Ks h59 rfl (Ku rfl (Ku rfl (Ku rfl (Ks h59 rfl (Pt h59 rfl (Ra rfl (Kn K18 ?_)))))))))));clear H K18;intro a H;refine c_cond_t H rfl rfl ?_;refine c_seq (fun _ K19=>?_)
    have e3:mrkE (ckP st li rv) h.marks=21:=by unfold mrkE;rw [if_neg hno,if_pos (by first|(simp_all;done)|(simp_all;omega))]
    have hE:=(headE_3 (C:=ckP st li rv) (e:=e) (h:=h) e1 e2 (by rw [e3];decide)).trans e3;refine kP H (SC (Ra rfl (Kn K19 ?_)));clear H K19;intro a H;refine lr H Tryz.results43 rfl ?_;exact H.hp.ret (by rw [hE])
   intro h59
   try have p59:=dF h59
   refine kH H (YF fd27_1hea h59 rfl (YR ty3run h59 rfl (by assumption) ?_));clear H;intro a H;refine kH H (YC h59 rfl (YM h59 rfl ?_));clear H;intro a H;refine s_split H 63 rfl ?_ ?_
   ·intro h63
    try have p63:=dT h63
    refine kH H (YF fd27_0hea h63 rfl (YR ty3run h63 rfl (by assumption) ?_));clear H;intro a H;refine kH H (YC h63 rfl (PT h59 h63 rfl (Pf h59 rfl (Ra rfl (Kn K18 ?_)))));clear H K18;intro a H;refine c_cond H rfl ?_ ?_
    ·intro h54
     try have p54:=dT h54
     refine c_seq (fun _ K20=>?_)
     have e3:mrkE (ckP st li rv) h.marks=21:=by unfold mrkE;rw [if_neg hno,if_pos (by first|(simp_all;done)|(simp_all;omega))]
     have hE:=(headE_3 (C:=ckP st li rv) (e:=e) (h:=h) e1 e2 (by rw [e3];decide)).trans e3;refine kP H (SC (Ra rfl (Kn K20 ?_)));clear H K20;intro a H;refine lr H Tryz.results43 rfl ?_;exact H.hp.ret (by rw [hE])
    intro h54
    try have p54:=dF h54
    refine c_seq (fun _ K21=>?_)
    have hn2:¬ (¬ (0≤h.marks.move∧h.marks.move≤1073741824)∨(h.marks.move≠0∧h.marks.ins=0)):=by first|(simp_all;done)|(simp_all;omega)
    refine kP H (SC (Rf fd27_2run rfl (Rg ty24run rfl (by assumption) ?_)));clear H;intro a H;refine kH H (Rl un24run rfl (Rc rfl (Ra rfl (Kn K21 ?_))));clear H K21;intro a H;refine c_cond H rfl ?_ ?_
    ·intro h69
     try have p69:=dT h69
     refine c_seq (fun _ K22=>?_)
     have e3:mrkE (ckP st li rv) h.marks=9:=by unfold mrkE;rw [if_neg hno,if_neg hn2,if_pos (by simpa using h69)]
     have hE:=(headE_3 (C:=ckP st li rv) (e:=e) (h:=h) e1 e2 (by rw [e3];decide)).trans e3;refine kP H (SC (Ra rfl (Kn K22 ?_)));clear H K22;intro a H;refine lr H Tryz.results43 rfl ?_;exact H.hp.ret (by rw [hE])
    intro h69
    try have p69:=dF h69
    have e3:mrkE (ckP st li rv) h.marks=0:=by unfold mrkE;rw [if_neg hno,if_neg hn2,if_neg (by simpa using h69)]
    refine c_skip ?_;refine ⟨_,by exact (H).sub ⟨rfl,rfl,rfl,trivial⟩,?_⟩;exact ⟨e3,hGm12⟩
   intro h63
   try have p63:=dF h63
   refine kH H (Ks h63 rfl (Ks h63 rfl (Ks h63 rfl (PF h59 h63 rfl (Pf h59 rfl (Ra rfl (Kn K18 ?_)))))));clear H K18;intro a H;refine c_cond_f H rfl rfl ?_;refine c_seq (fun _ K23=>?_)
   have hn2:¬ (¬ (0≤h.marks.move∧h.marks.move≤1073741824)∨(h.marks.move≠0∧h.marks.ins=0)):=by first|(simp_all;done)|(simp_all;omega)
   refine kP H (SC (Rf fd27_2run rfl (Rg ty24run rfl (by assumption) ?_)));clear H;intro a H;refine kH H (Rl un24run rfl (Rc rfl (Ra rfl (Kn K23 ?_))));clear H K23;intro a H;refine c_cond H rfl ?_ ?_
   ·intro h69
    try have p69:=dT h69
    refine c_seq (fun _ K24=>?_)
    have e3:mrkE (ckP st li rv) h.marks=9:=by unfold mrkE;rw [if_neg hno,if_neg hn2,if_pos (by simpa using h69)]
    have hE:=(headE_3 (C:=ckP st li rv) (e:=e) (h:=h) e1 e2 (by rw [e3];decide)).trans e3;refine kP H (SC (Ra rfl (Kn K24 ?_)));clear H K24;intro a H;refine lr H Tryz.results43 rfl ?_;exact H.hp.ret (by rw [hE])
   intro h69
   try have p69:=dF h69
   have e3:mrkE (ckP st li rv) h.marks=0:=by unfold mrkE;rw [if_neg hno,if_neg hn2,if_neg (by simpa using h69)]
   refine c_skip ?_;refine ⟨_,by exact (H).sub ⟨rfl,rfl,rfl,trivial⟩,?_⟩;exact ⟨e3,hGm12⟩
  skip;refine c_drawI (hmx) [[],[0],[0,1],[0,1,2],[0,1,2,3],[0,1,2,3,4],[0,1,2,3,4,5],(List.range 7),[0,1,2,3],[0,1,2,3,8],(List.range 10),(List.range 11),(List.range 12),(List.range 13)] [13] (by kernel_rfl) (by kernel_rfl) (fun (ix_:Nat) (v:Value) (G:GH)=>match ix_ with|0=>v=.pointer (some ⟨b11,0,none⟩)|1=>v=vi h.marks.ins|2=>v=.bool (decide (h.marks.ins≠0))|3=>v=.bool (decide (h.marks.ins≠0))|4=>v=undef|5=>v=undef|6=>v=undef|7=>v=undef|8=>v=undef|9=>v=undef|10=>v=undef|11=>v=undef|12=>v=.bool false|_=>True) (fun _ _ _ _ _ h=>h) H ?_ ?_
  ·clear H;refine al4 ?_ ?_ ?_ ?_ (al4 ?_ ?_ ?_ ?_ (al4 ?_ ?_ ?_ ?_ (allI_cons ?_ (allI_cons ?_ allI_nil))))
   ·exact Z0 rfl rfl fun _ _ _ _ _=>Rf fd27_0hea rfl
   ·exact Op1 0 41 rfl rfl fun _ _ _ _ hG _ H fin=>kH H (Rg ty3run rfl (gcell_mono hG q0) fun _ H=>fin H iJ rfl)
   ·exact Z1 1 42 rfl rfl fun _ _ _ _ _=>Rc rfl
   ·exact Z1 2 43 rfl rfl fun _ _ _ _ _=>Rm rfl
   ·exact skI 3 (decide_eq_false c0) rfl rfl
   ·exact skI 3 (decide_eq_false c0) rfl rfl
   ·exact skI 3 (decide_eq_false c0) rfl rfl
   ·exact skI 3 (decide_eq_false c0) rfl rfl
   ·exact skI 3 (decide_eq_false c0) rfl rfl
   ·exact skI 3 (decide_eq_false c0) rfl rfl
   ·exact skI 3 (decide_eq_false c0) rfl rfl
   ·exact skI 3 (decide_eq_false c0) rfl rfl
   ·exact Op2 3 44 11 52 rfl rfl fun _ _ _ _ hG _ H fin=>kH H (Pf (decide_eq_false c0) rfl fun _ H=>fin H iJ rfl)
   exact opB rfl
  clear H;intro a w G hGm12 H hv;obtain ⟨u53,hu53,hp53⟩:=hv 12 53 (by decide) rfl;obtain rfl:u53=.bool false:=hp53;have H:=H.addS hu53;clear hv;refine kH H (Ra rfl ?_);clear H;intro a H;refine wl_nil ⟨rfl,?_⟩;refine K16 _ _ ?_;clear K16;refine c_cond_f H rfl rfl ?_;refine c_seq (fun _ K25=>?_)
  have hno:¬ (h.marks.ins≠0∧h.marks.ins∉(ckP st li rv).rvs):=by first|exact fun h=>c1 h.2|exact fun h=>c0 h.1
  replace q0:=gcell_mono hGm12 q0;replace q1:=gcell_mono hGm12 q1;replace q2:=gcell_mono hGm12 q2;refine kP H (SC (Rf fd27_1hea rfl (Rg ty3run rfl (by assumption) ?_)));clear H;intro a H;refine s_call en68fst H wn rfl (in_spec _ _ H.hp.ro h.marks.move 0 1073741824) rfl ?_;clear H;rintro v57 _ a w ⟨rfl,rfl⟩ - H;refine kH H (Rn rfl (Rm rfl ?_));clear H;intro a H;refine s_split H 59 rfl ?_ ?_
  ·intro h59
   try have p59:=dT h59
   refine kH H (Ks h59 rfl (Ks h59 rfl (Ks h59 rfl (Ks h59 rfl (Ku rfl (Ku rfl (Ku rfl (Ks h59 rfl (Pt h59 rfl (Ra rfl (Kn K25 ?_)))))))))));clear H K25;intro a H;refine c_cond_t H rfl rfl ?_;refine c_seq (fun _ K26=>?_)
   have e3:mrkE (ckP st li rv) h.marks=21:=by unfold mrkE;rw [if_neg hno,if_pos (by first|(simp_all;done)|(simp_all;omega))]
   have hE:=(headE_3 (C:=ckP st li rv) (e:=e) (h:=h) e1 e2 (by rw [e3];decide)).trans e3;refine kP H (SC (Ra rfl (Kn K26 ?_)));clear H K26;intro a H;refine lr H Tryz.results43 rfl ?_;exact H.hp.ret (by rw [hE])
  intro h59
  try have p59:=dF h59
  refine kH H (YF fd27_1hea h59 rfl (YR ty3run h59 rfl (by assumption) ?_));clear H;intro a H;refine kH H (YC h59 rfl (YM h59 rfl ?_));clear H;intro a H;refine s_split H 63 rfl ?_ ?_
  ·intro h63
   try have p63:=dT h63
   refine kH H (YF fd27_0hea h63 rfl (YR ty3run h63 rfl (by assumption) ?_));clear H;intro a H;refine kH H (YC h63 rfl (PT h59 h63 rfl (Pf h59 rfl (Ra rfl (Kn K25 ?_)))));clear H K25;intro a H;refine c_cond H rfl ?_ ?_
   ·intro h54
    try have p54:=dT h54
    refine c_seq (fun _ K27=>?_)
    have e3:mrkE (ckP st li rv) h.marks=21:=by unfold mrkE;rw [if_neg hno,if_pos (by first|(simp_all;done)|(simp_all;omega))]
    have hE:=(headE_3 (C:=ckP st li rv) (e:=e) (h:=h) e1 e2 (by rw [e3];decide)).trans e3;refine kP H (SC (Ra rfl (Kn K27 ?_)));clear H K27;intro a H;refine lr H Tryz.results43 rfl ?_;exact H.hp.ret (by rw [hE])
   intro h54
   try have p54:=dF h54
   refine c_seq (fun _ K28=>?_)
   have hn2:¬ (¬ (0≤h.marks.move∧h.marks.move≤1073741824)∨(h.marks.move≠0∧h.marks.ins=0)):=by first|(simp_all;done)|(simp_all;omega)
   refine kP H (SC (Rf fd27_2run rfl (Rg ty24run rfl (by assumption) ?_)));clear H;intro a H;refine kH H (Rl un24run rfl (Rc rfl (Ra rfl (Kn K28 ?_))));clear H K28;intro a H;refine c_cond H rfl ?_ ?_
   ·intro h69
    try have p69:=dT h69
    refine c_seq (fun _ K29=>?_)
    have e3:mrkE (ckP st li rv) h.marks=9:=by unfold mrkE;rw [if_neg hno,if_neg hn2,if_pos (by simpa using h69)]
    have hE:=(headE_3 (C:=ckP st li rv) (e:=e) (h:=h) e1 e2 (by rw [e3];decide)).trans e3;refine kP H (SC (Ra rfl (Kn K29 ?_)));clear H K29;intro a H;refine lr H Tryz.results43 rfl ?_;exact H.hp.ret (by rw [hE])
   intro h69
   try have p69:=dF h69
   have e3:mrkE (ckP st li rv) h.marks=0:=by unfold mrkE;rw [if_neg hno,if_neg hn2,if_neg (by simpa using h69)]
   refine c_skip ?_;refine ⟨_,by exact (H).sub ⟨rfl,rfl,rfl,trivial⟩,?_⟩;exact ⟨e3,hGm12⟩
  intro h63
  try have p63:=dF h63
  refine kH H (Ks h63 rfl (Ks h63 rfl (Ks h63 rfl (PF h59 h63 rfl (Pf h59 rfl (Ra rfl (Kn K25 ?_)))))));clear H K25;intro a H;refine c_cond_f H rfl rfl ?_;refine c_seq (fun _ K30=>?_)
  have hn2:¬ (¬ (0≤h.marks.move∧h.marks.move≤1073741824)∨(h.marks.move≠0∧h.marks.ins=0)):=by first|(simp_all;done)|(simp_all;omega)
  refine kP H (SC (Rf fd27_2run rfl (Rg ty24run rfl (by assumption) ?_)));clear H;intro a H;refine kH H (Rl un24run rfl (Rc rfl (Ra rfl (Kn K30 ?_))));clear H K30;intro a H;refine c_cond H rfl ?_ ?_
  ·intro h69
   try have p69:=dT h69
   refine c_seq (fun _ K31=>?_)
   have e3:mrkE (ckP st li rv) h.marks=9:=by unfold mrkE;rw [if_neg hno,if_neg hn2,if_pos (by simpa using h69)]
   have hE:=(headE_3 (C:=ckP st li rv) (e:=e) (h:=h) e1 e2 (by rw [e3];decide)).trans e3;refine kP H (SC (Ra rfl (Kn K31 ?_)));clear H K31;intro a H;refine lr H Tryz.results43 rfl ?_;exact H.hp.ret (by rw [hE])
  intro h69
  try have p69:=dF h69
  have e3:mrkE (ckP st li rv) h.marks=0:=by unfold mrkE;rw [if_neg hno,if_neg hn2,if_neg (by simpa using h69)]
  refine c_skip ?_;refine ⟨_,by exact (H).sub ⟨rfl,rfl,rfl,trivial⟩,?_⟩;exact ⟨e3,hGm12⟩
 clear H;intro gh a w hI H;obtain ⟨g,hgh⟩:∃ x,x=gh:=⟨_,rfl⟩;subst hgh;obtain ⟨e3,hmg⟩:=hI;replace hck:=hck.mono hmg;replace hb:=hmg _ _ hb;replace hh:=hh.mono hmg;replace g3:=gcell_mono hmg g3;replace q2:=gcell_mono hmg q2;replace q3:=gcell_mono hmg q3;replace hc2:=gcell_mono hmg hc2;replace hcb:=hcb.mono hmg;dsimp only [List.cons_append,List.nil_append,List.append_nil] at H;refine kP H (SQ fun _ K32=>SR fun _ K33=>Rf fd27_2run rfl (Rg ty24run rfl (by assumption) ?_));clear H;intro a H;refine kH H (Rl un24run rfl (Rm rfl (Kz K33 (SB ?_))));clear H K33;intro a H;skip;refine c_loopS (ι:=Nat × GH) (Tc:=[(3,_),(4,_),(11,_),(75,_),(76,_)]) (Lc:=[]) (fun (gh:Nat × GH)=>[(77,vi gh.1)]) (fun (gh:Nat × GH)=>[]) (fun (gh:Nat × GH)=>gh.2) (fun (gh:Nat × GH)=>gh.1≤h.marks.dels.length∧firstE (((List.range h.marks.dels.length).map (delE (ckP st li rv) h.marks.dels)).drop gh.1)=allE (delE (ckP st li rv) h.marks.dels) h.marks.dels.length∧(∀ b o,g b=some o→gh.2 b=some o)) (fun (gh:Nat × GH)=>h.marks.dels.length - gh.1) ((0,g)) (by exact (H).sub ⟨rfl,rfl,rfl,rfl,rfl,rfl,trivial⟩) ?_ ?_
 ·exact ⟨Nat.zero_le _,rfl,fun _ _ h=>h⟩
 clear H;intro gh a w hI H;obtain ⟨k,g2⟩:=gh;dsimp only at hI H;obtain ⟨hk,heq,hgm⟩:=hI;dsimp only [List.cons_append,List.nil_append,List.append_nil] at H;refine kP H (SR fun _ K34=>Rc rfl (Kz K34 (SQ fun _ K35=>?_)));clear H K34;intro a H;refine c_cond H rfl ?_ ?_
 ·intro h78
  try have p78:=dT h78
  have hk2:k < h.marks.dels.length:=by omega
  have hd2:=hh.dels.mono hgm;obtain ⟨xb,xo,rfl,hrow⟩:=del_at hd2 hk2
  have hk1:k - 1 < h.marks.dels.length:=by omega
  obtain ⟨b',o',he',hrow'⟩:=del_at hd2 hk1
  injection he' with he'
  injection he' with e1 e2
  subst e1;subst e2
  have hde:delE (ckP st li rv) h.marks.dels k=delE0 (ckP st li rv) k h.marks.dels[k] h.marks.dels[k - 1].rev:=by unfold delE;rw [List.getElem?_eq_getElem hk2,List.getElem?_eq_getElem hk1];rfl
  have hX:∀ v,delE0 (ckP st li rv) k h.marks.dels[k] h.marks.dels[k - 1].rev=v→v≠0→headE (ckP st li rv) e h=v:=fun v h1 h2=>by
   have h4:allE (delE (ckP st li rv) h.marks.dels) h.marks.dels.length=v:=by rw [← heq,allE_at hk2,hde,h1,if_pos h2]
   exact (headE_4 e1 e2 e3 (by rw [h4];exact h2)).trans h4
  have hp:=hrow' 0 _ rfl;have g3':=gcell_mono hgm g3;have hc2':=gcell_mono hgm hc2;have q2':=gcell_mono hgm q2;refine kP H (Kc K35 (SQ fun _ K36=>SB (SR fun _ K37=>Rm rfl (Ri un24run ty150run rfl rfl ?_))));clear H K35;intro a H;refine s_loada ty150run (cs:=h.marks.dels[k].cells) H wn rfl rfl (fun j v hj=>H.hp.gcell (hrow j v hj)) rfl ?_;clear H;intro a H;refine s_alloc ty150run H wn rfl ?_;clear H;intro b13 a w hb13 H;refine kH H (Ra rfl ?_);clear H;intro a H;refine s_store ty150run 0 (vs:=[_,_]) _ H wn rfl rfl rfl rfl rfl rfl rfl rfl ?_;clear H;intro w H;dsimp only [List.set,setRow] at H;refine K37 _ _ ?_;clear K37;refine c_block ?_;refine c_seq (fun _ K38=>?_);refine c_drawI (hmx) [[],[0],[0,1],[0,1,2],[],[4],[0,1,2,3,4,5],(List.range 7),(List.range 8)] [8] (by kernel_rfl) (by kernel_rfl) (fun (ix_:Nat) (v:Value) (G:GH)=>match ix_ with|0=>v=.pointer (some ⟨b,0,none⟩)|1=>v=.pointer (some ⟨b,0,none⟩)|2=>v=.pointer (some ⟨b,2,none⟩)|3=>v=.map (some mr)|4=>v=.pointer (some ⟨b13,0,none⟩)|5=>v=vi h.marks.dels[k].rev|6=>v=.bool (decide (h.marks.dels[k].rev∈rv.map RvD.id))|7=>v=.bool (!decide (h.marks.dels[k].rev∈rv.map RvD.id))|_=>True) (fun _ _ _ _ _ h=>h) H ?_ ?_
  ·clear H;refine al4 ?_ ?_ ?_ ?_ (al4 ?_ ?_ ?_ ?_ (allI_cons ?_ allI_nil))
   ·exact Op0 rfl fun _ _ _ _ hG _ H fin=>kH H (Rg ty97hea rfl (gcell_mono hG g3') fun _ H=>fin H iJ rfl)
   ·exact Z1 0 83 rfl rfl fun _ _ _ _ _=>Rk rfl
   ·exact Z1 1 84 rfl rfl fun _ _ _ _ _=>Rf fd107_2nck rfl
   ·exact Op1 2 85 rfl rfl fun _ _ _ _ hG _ H fin=>kH H (Rg ty105nck rfl (gcell_mono hG hc2') fun _ H=>fin H iJ rfl)
   ·exact Z0 rfl rfl fun _ _ _ _ _=>Rf fd150_0hea rfl
   ·exact Z1 4 87 rfl rfl fun _ _ _ _ _=>Ro ty3run 0 rfl rfl
   ·refine Op2 3 86 5 88 rfl rfl fun _ a w G1 hG HT H fin=>?_;refine s_lookupK (zv:=.bool false) un105nck un3cp (by kernel_rfl) H wn rfl rfl (H.hp.ro _ _ (hG _ _ (hgm _ _ hck.rev))) rfl ?_;clear H;intro a H;rw [lk_set] at H;exact fin H iJ rfl
   ·exact Z1 6 89 rfl rfl fun _ _ _ _ _=>Rn rfl
   exact opB rfl
  clear H;intro a w G hGm21 H hv;obtain ⟨u90,hu90,hp90⟩:=hv 7 90 (by decide) rfl;obtain rfl:u90=.bool (!decide (h.marks.dels[k].rev∈rv.map RvD.id)):=hp90;have H:=H.addS hu90;clear hv;refine kH H (Ra rfl ?_);clear H;intro a H;refine wl_nil ⟨rfl,?_⟩;refine K38 _ _ ?_;clear K38;refine c_cond H rfl ?_ ?_
  ·intro h82
   try have p82:=dT h82
   refine c_seq (fun _ K39=>?_);have hE:=hX 22 (by unfold delE0;rw [if_pos (by simpa using h82)]) (by decide);refine kP H (SC (Ra rfl (Kn K39 ?_)));clear H K39;intro a H;refine lr H Tryz.results43 rfl ?_;exact H.hp.ret (by rw [hE])
  intro h82
  try have p82:=dF h82
  have hm82:¬ (h.marks.dels[k].rev∉(ckP st li rv).rvs):=by simpa using h82
  refine c_seq (fun _ K40=>?_);replace hp:=gcell_mono hGm21 hp;replace q2':=gcell_mono hGm21 q2'
  by_cases c3:0 < (k:Int)
  ·skip
   by_cases c4:h.marks.dels[k].rev≤h.marks.dels[k - 1].rev
   ·skip;refine c_drawI (hmx) [[],[0],[0,1],[0,1,2],[0,1,2,3],[0,1,2],[0,1,2,5],[0,1,2],[0,1,2,7],[0,1,2,5,6,7,8],[0,1,2,5,6,7,8,9],[0,1,2,5,6,7,8,9,10],(List.range 12),(List.range 13),(List.range 14)] [14] (by kernel_rfl) (by kernel_rfl) (fun (ix_:Nat) (v:Value) (G:GH)=>match ix_ with|0=>v=vi k|1=>v=.bool (decide (0 < (k:Int)))|2=>v=.bool (decide (0 < (k:Int)))|3=>v=.pointer (some ⟨b13,0,none⟩)|4=>v=vi h.marks.dels[k].rev|5=>v=.pointer (some ⟨b11,2,none⟩)|6=>v=.slice (some ⟨xb,xo,none⟩) h.marks.dels.length dc|7=>v=vi k|8=>v=vi ((k - 1:Nat):Int)|9=>v=.pointer (some ⟨xb,xo+(k - 1)*2,none⟩)|10=>v=.pointer (some ⟨xb,xo+(k - 1)*2+0,none⟩)|11=>v=vi h.marks.dels[k - 1].rev|12=>v=.bool (decide (h.marks.dels[k].rev≤h.marks.dels[k - 1].rev))|13=>v=.bool (decide (h.marks.dels[k].rev≤h.marks.dels[k - 1].rev))|_=>True) (fun _ _ _ _ _ h=>h) H ?_ ?_
    ·clear H;refine al4 ?_ ?_ ?_ ?_ (al4 ?_ ?_ ?_ ?_ (al4 ?_ ?_ ?_ ?_ (allI_cons ?_ (allI_cons ?_ (allI_cons ?_ allI_nil)))))
     ·exact Z0 rfl rfl fun _ _ _ _ _=>Rm rfl
     ·exact Z1 0 92 rfl rfl fun _ _ _ _ _=>Rc rfl
     ·exact Z1 1 93 rfl rfl fun _ _ _ _ _=>Rm rfl
     ·exact Op1 2 94 rfl rfl fun _ _ _ _ hG _ H fin=>kH H (YF fd150_0hea (decide_eq_true c3) rfl fun _ H=>fin H iJ rfl)
     ·exact Op2 3 95 2 94 rfl rfl fun _ _ _ _ hG _ H fin=>kH H (YO ty3run 0 (decide_eq_true c3) rfl rfl fun _ H=>fin H iJ rfl)
     ·exact Op1 2 94 rfl rfl fun _ _ _ _ hG _ H fin=>kH H (YF fd27_2run (decide_eq_true c3) rfl fun _ H=>fin H iJ rfl)
     ·exact Op2 5 97 2 94 rfl rfl fun _ _ _ _ hG _ H fin=>kH H (YR ty24run (decide_eq_true c3) rfl (gcell_mono hG q2') fun _ H=>fin H iJ rfl)
     ·exact Op1 2 94 rfl rfl fun _ _ _ _ hG _ H fin=>kH H (YM (decide_eq_true c3) rfl fun _ H=>fin H iJ rfl)
     ·refine Op2 7 99 2 94 rfl rfl fun _ a w G1 hG HT H fin=>?_;refine s_sub _ H (wg H rfl rfl (decide_eq_true c3)) rfl rfl rfl (by omega) (by omega) rfl ?_;clear H;intro a H;exact fin H iJ (by first|rfl|exact congrArg vi (by omega))
     ·exact Op3 6 98 8 100 2 94 rfl rfl fun _ _ _ _ hG _ H fin=>kH H (YI un24run ty150run (decide_eq_true c3) rfl rfl fun _ H=>fin H iJ rfl)
     ·exact Op2 9 101 2 94 rfl rfl fun _ _ _ _ hG _ H fin=>kH H (YF fd150_0hea (decide_eq_true c3) rfl fun _ H=>fin H iJ rfl)
     ·exact Op2 10 102 2 94 rfl rfl fun _ _ _ _ hG _ H fin=>kH H (YR ty3run (decide_eq_true c3) rfl (gcell_mono hG hp) fun _ H=>fin H iJ rfl)
     ·exact Op3 4 96 11 103 2 94 rfl rfl fun _ _ _ _ hG _ H fin=>kH H (YC (decide_eq_true c3) rfl fun _ H=>fin H iJ rfl)
     ·exact Op2 2 94 12 104 rfl rfl fun _ _ _ _ hG _ H fin=>kH H (Pt (decide_eq_true c3) rfl fun _ H=>fin H iJ rfl)
     exact opB rfl
    clear H;intro a w G hGm23 H hv;obtain ⟨u105,hu105,hp105⟩:=hv 13 105 (by decide) rfl;obtain rfl:u105=.bool (decide (h.marks.dels[k].rev≤h.marks.dels[k - 1].rev)):=hp105;have H:=H.addS hu105;clear hv;refine kH H (Ra rfl ?_);clear H;intro a H;refine wl_nil ⟨rfl,?_⟩;refine K40 _ _ ?_;clear K40;refine c_cond_t H rfl (decide_eq_true c4) ?_;refine c_seq (fun _ K41=>?_);have hz:0 < k∧h.marks.dels[k].rev≤h.marks.dels[k - 1].rev:=⟨by omega,c4⟩;have hE:=hX 6 (by unfold delE0;rw [if_neg hm82,if_pos hz]) (by decide);refine kP H (SC (Ra rfl (Kn K41 ?_)));clear H K41;intro a H;refine lr H Tryz.results43 rfl ?_;exact H.hp.ret (by rw [hE])
   skip;refine c_drawI (hmx) [[],[0],[0,1],[0,1,2],[0,1,2,3],[0,1,2],[0,1,2,5],[0,1,2],[0,1,2,7],[0,1,2,5,6,7,8],[0,1,2,5,6,7,8,9],[0,1,2,5,6,7,8,9,10],(List.range 12),(List.range 13),(List.range 14)] [14] (by kernel_rfl) (by kernel_rfl) (fun (ix_:Nat) (v:Value) (G:GH)=>match ix_ with|0=>v=vi k|1=>v=.bool (decide (0 < (k:Int)))|2=>v=.bool (decide (0 < (k:Int)))|3=>v=.pointer (some ⟨b13,0,none⟩)|4=>v=vi h.marks.dels[k].rev|5=>v=.pointer (some ⟨b11,2,none⟩)|6=>v=.slice (some ⟨xb,xo,none⟩) h.marks.dels.length dc|7=>v=vi k|8=>v=vi ((k - 1:Nat):Int)|9=>v=.pointer (some ⟨xb,xo+(k - 1)*2,none⟩)|10=>v=.pointer (some ⟨xb,xo+(k - 1)*2+0,none⟩)|11=>v=vi h.marks.dels[k - 1].rev|12=>v=.bool (decide (h.marks.dels[k].rev≤h.marks.dels[k - 1].rev))|13=>v=.bool (decide (h.marks.dels[k].rev≤h.marks.dels[k - 1].rev))|_=>True) (fun _ _ _ _ _ h=>h) H ?_ ?_
   ·clear H;refine al4 ?_ ?_ ?_ ?_ (al4 ?_ ?_ ?_ ?_ (al4 ?_ ?_ ?_ ?_ (allI_cons ?_ (allI_cons ?_ (allI_cons ?_ allI_nil)))))
    ·exact Z0 rfl rfl fun _ _ _ _ _=>Rm rfl
    ·exact Z1 0 92 rfl rfl fun _ _ _ _ _=>Rc rfl
    ·exact Z1 1 93 rfl rfl fun _ _ _ _ _=>Rm rfl
    ·exact Op1 2 94 rfl rfl fun _ _ _ _ hG _ H fin=>kH H (YF fd150_0hea (decide_eq_true c3) rfl fun _ H=>fin H iJ rfl)
    ·exact Op2 3 95 2 94 rfl rfl fun _ _ _ _ hG _ H fin=>kH H (YO ty3run 0 (decide_eq_true c3) rfl rfl fun _ H=>fin H iJ rfl)
    ·exact Op1 2 94 rfl rfl fun _ _ _ _ hG _ H fin=>kH H (YF fd27_2run (decide_eq_true c3) rfl fun _ H=>fin H iJ rfl)
    ·exact Op2 5 97 2 94 rfl rfl fun _ _ _ _ hG _ H fin=>kH H (YR ty24run (decide_eq_true c3) rfl (gcell_mono hG q2') fun _ H=>fin H iJ rfl)
    ·exact Op1 2 94 rfl rfl fun _ _ _ _ hG _ H fin=>kH H (YM (decide_eq_true c3) rfl fun _ H=>fin H iJ rfl)
    ·refine Op2 7 99 2 94 rfl rfl fun _ a w G1 hG HT H fin=>?_;refine s_sub _ H (wg H rfl rfl (decide_eq_true c3)) rfl rfl rfl (by omega) (by omega) rfl ?_;clear H;intro a H;exact fin H iJ (by first|rfl|exact congrArg vi (by omega))
    ·exact Op3 6 98 8 100 2 94 rfl rfl fun _ _ _ _ hG _ H fin=>kH H (YI un24run ty150run (decide_eq_true c3) rfl rfl fun _ H=>fin H iJ rfl)
    ·exact Op2 9 101 2 94 rfl rfl fun _ _ _ _ hG _ H fin=>kH H (YF fd150_0hea (decide_eq_true c3) rfl fun _ H=>fin H iJ rfl)
    ·exact Op2 10 102 2 94 rfl rfl fun _ _ _ _ hG _ H fin=>kH H (YR ty3run (decide_eq_true c3) rfl (gcell_mono hG hp) fun _ H=>fin H iJ rfl)
    ·exact Op3 4 96 11 103 2 94 rfl rfl fun _ _ _ _ hG _ H fin=>kH H (YC (decide_eq_true c3) rfl fun _ H=>fin H iJ rfl)
    ·exact Op2 2 94 12 104 rfl rfl fun _ _ _ _ hG _ H fin=>kH H (Pt (decide_eq_true c3) rfl fun _ H=>fin H iJ rfl)
    exact opB rfl
   clear H;intro a w G hGm23 H hv;obtain ⟨u105,hu105,hp105⟩:=hv 13 105 (by decide) rfl;obtain rfl:u105=.bool (decide (h.marks.dels[k].rev≤h.marks.dels[k - 1].rev)):=hp105;have H:=H.addS hu105;clear hv;refine kH H (Ra rfl ?_);clear H;intro a H;refine wl_nil ⟨rfl,?_⟩;refine K40 _ _ ?_;clear K40;refine c_cond_f H rfl (decide_eq_false c4) ?_;refine c_seq (fun _ K42=>?_)
   have hz:¬ (0 < k∧h.marks.dels[k].rev≤h.marks.dels[k - 1].rev):=by first|exact fun h=>c4 h.2|exact fun h=>c3 (by omega)
   refine kP H (SC (Rf fd150_1hea rfl (Ro ty3run 0 rfl rfl ?_)));clear H;intro a H;refine s_call en68fst H wn rfl (in_spec _ _ H.hp.ro h.marks.dels[k].move 0 1073741824) rfl ?_;clear H;rintro v109 _ a w ⟨rfl,rfl⟩ - H;refine kH H (Rn rfl (Ra rfl (Kn K42 ?_)));clear H K42;intro a H;refine c_cond H rfl ?_ ?_
   ·intro h106
    try have p106:=dT h106
    refine c_seq (fun _ K43=>?_);have hE:=hX 21 (by unfold delE0;rw [if_neg hm82,if_neg hz,if_pos (by have h0:=h106;simp at h0;omega)]) (by decide);refine kP H (SC (Ra rfl (Kn K43 ?_)));clear H K43;intro a H;refine lr H Tryz.results43 rfl ?_;exact H.hp.ret (by rw [hE])
   intro h106
   try have p106:=dF h106
   have hde0:delE0 (ckP st li rv) k h.marks.dels[k] h.marks.dels[k - 1].rev=0:=by unfold delE0;rw [if_neg hm82,if_neg hz,if_neg (by have h0:=h106;simp at h0;omega)]
   have hGk:=fun b o h=>hGm23 b o (hGm21 b o (hgm b o h));refine kP H (Kc K36 (SC (Rd rfl (Rm rfl ?_))));clear H K36;intro a H;refine wl_nil ?_;refine loop_end ((k+1,G)) (by exact (H.pickT (Pl:=[_]) (Pl':=[]) [] (by decide) rfl).sub ⟨rfl,rfl,rfl,rfl,rfl,rfl,trivial⟩) ?_ ?_
   ·(try dsimp only);exact ⟨by omega,by rw [allE_at hk2,if_neg (by rw [hde];simpa using hde0)] at heq;exact heq,hGk⟩
   first|omega|(dsimp only;omega)
  skip;refine c_drawI (hmx) [[],[0],[0,1],[0,1,2],[0,1,2,3],[0,1,2],[0,1,2,5],[0,1,2],[0,1,2,7],[0,1,2,5,6,7,8],[0,1,2,5,6,7,8,9],[0,1,2,5,6,7,8,9,10],(List.range 12),(List.range 13),(List.range 14)] [14] (by kernel_rfl) (by kernel_rfl) (fun (ix_:Nat) (v:Value) (G:GH)=>match ix_ with|0=>v=vi k|1=>v=.bool (decide (0 < (k:Int)))|2=>v=.bool (decide (0 < (k:Int)))|3=>v=undef|4=>v=undef|5=>v=undef|6=>v=undef|7=>v=undef|8=>v=undef|9=>v=undef|10=>v=undef|11=>v=undef|12=>v=undef|13=>v=.bool false|_=>True) (fun _ _ _ _ _ h=>h) H ?_ ?_
  ·clear H;refine al4 ?_ ?_ ?_ ?_ (al4 ?_ ?_ ?_ ?_ (al4 ?_ ?_ ?_ ?_ (allI_cons ?_ (allI_cons ?_ (allI_cons ?_ allI_nil)))))
   ·exact Z0 rfl rfl fun _ _ _ _ _=>Rm rfl
   ·exact Z1 0 92 rfl rfl fun _ _ _ _ _=>Rc rfl
   ·exact Z1 1 93 rfl rfl fun _ _ _ _ _=>Rm rfl
   ·exact skI 2 (decide_eq_false c3) rfl rfl
   ·exact skI 2 (decide_eq_false c3) rfl rfl
   ·exact skI 2 (decide_eq_false c3) rfl rfl
   ·exact skI 2 (decide_eq_false c3) rfl rfl
   ·exact skI 2 (decide_eq_false c3) rfl rfl
   ·exact skI 2 (decide_eq_false c3) rfl rfl
   ·exact skI 2 (decide_eq_false c3) rfl rfl
   ·exact skI 2 (decide_eq_false c3) rfl rfl
   ·exact skI 2 (decide_eq_false c3) rfl rfl
   ·exact skI 2 (decide_eq_false c3) rfl rfl
   ·exact Op2 2 94 12 104 rfl rfl fun _ _ _ _ hG _ H fin=>kH H (Pf (decide_eq_false c3) rfl fun _ H=>fin H iJ rfl)
   exact opB rfl
  clear H;intro a w G hGm23 H hv;obtain ⟨u105,hu105,hp105⟩:=hv 13 105 (by decide) rfl;obtain rfl:u105=.bool false:=hp105;have H:=H.addS hu105;clear hv;refine kH H (Ra rfl ?_);clear H;intro a H;refine wl_nil ⟨rfl,?_⟩;refine K40 _ _ ?_;clear K40;refine c_cond_f H rfl rfl ?_;refine c_seq (fun _ K44=>?_)
  have hz:¬ (0 < k∧h.marks.dels[k].rev≤h.marks.dels[k - 1].rev):=by first|exact fun h=>c4 h.2|exact fun h=>c3 (by omega)
  refine kP H (SC (Rf fd150_1hea rfl (Ro ty3run 0 rfl rfl ?_)));clear H;intro a H;refine s_call en68fst H wn rfl (in_spec _ _ H.hp.ro h.marks.dels[k].move 0 1073741824) rfl ?_;clear H;rintro v109 _ a w ⟨rfl,rfl⟩ - H;refine kH H (Rn rfl (Ra rfl (Kn K44 ?_)));clear H K44;intro a H;refine c_cond H rfl ?_ ?_
  ·intro h106
   try have p106:=dT h106
   refine c_seq (fun _ K45=>?_);have hE:=hX 21 (by unfold delE0;rw [if_neg hm82,if_neg hz,if_pos (by have h0:=h106;simp at h0;omega)]) (by decide);refine kP H (SC (Ra rfl (Kn K45 ?_)));clear H K45;intro a H;refine lr H Tryz.results43 rfl ?_;exact H.hp.ret (by rw [hE])
  intro h106
  try have p106:=dF h106
  have hde0:delE0 (ckP st li rv) k h.marks.dels[k] h.marks.dels[k - 1].rev=0:=by unfold delE0;rw [if_neg hm82,if_neg hz,if_neg (by have h0:=h106;simp at h0;omega)]
  have hGk:=fun b o h=>hGm23 b o (hGm21 b o (hgm b o h));refine kP H (Kc K36 (SC (Rd rfl (Rm rfl ?_))));clear H K36;intro a H;refine wl_nil ?_;refine loop_end ((k+1,G)) (by exact (H.pickT (Pl:=[_]) (Pl':=[]) [] (by decide) rfl).sub ⟨rfl,rfl,rfl,rfl,rfl,rfl,trivial⟩) ?_ ?_
  ·(try dsimp only);exact ⟨by omega,by rw [allE_at hk2,if_neg (by rw [hde];simpa using hde0)] at heq;exact heq,hGk⟩
  first|omega|(dsimp only;omega)
 intro h78
 try have p78:=dF h78
 refine c_exit ?_;refine K32 _ _ ?_;clear K32;refine c_seq (fun _ K46=>?_);refine c_seq (fun _ K47=>?_)
 have e4:allE (delE (ckP st li rv) h.marks.dels) h.marks.dels.length=0:=by rw [← heq,List.drop_of_length_le (by simp;omega)];rfl
 replace q3:=gcell_mono hgm q3;refine kP H (SC (Rf fd27_3run rfl (Rg ty25run rfl (by assumption) ?_)));clear H;intro a H;refine kH H (Rl un25run rfl (Rc rfl (Kn K47 ?_)));clear H K47;intro a H;refine c_cond H rfl ?_ ?_
 ·intro h115
  try have p115:=dT h115
  refine c_seq (fun _ K48=>?_);have hE:=headE_5 (C:=ckP st li rv) (e:=e) (h:=h) e1 e2 e3 e4 p115;refine kP H (SC (Ra rfl (Kn K48 ?_)));clear H K48;intro a H;refine lr H Tryz.results43 rfl ?_;exact H.hp.ret (by rw [hE])
 intro h115
 try have p115:=dF h115
 refine c_skip ?_;refine K46 _ _ ?_;clear K46;refine c_seq (fun _ K49=>?_);have hE:=headE_6 (C:=ckP st li rv) (e:=e) (h:=h) e1 e2 e3 e4 p115;refine kP H (SC (Rf fd27_3run rfl (Rg ty25run rfl (by assumption) ?_)));clear H;intro a H;refine kH H (Rl un25run rfl ?_);clear H;intro a H;refine s_makeFunc H wn rfl rfl ?_;clear H;intro a H;refine s_call en63dst H wn rfl (all_spec _ _ H.hp.ro h.marks.layers.length (layE (ckP st li rv) e h.marks.layers) _ (by omega) (hcb.mono hgm)) rfl ?_;clear H;rintro v120 G120 a w rfl hGm120 H;refine kH H (Ra rfl (Kn K49 ?_));clear H K49;intro a H;refine lr H Tryz.results43 rfl ?_;exact H.hp.ret (by rw [hE])
end
section
open Go.RowKit
theorem fd85_1frm:Fld Tryz.prog 85 1 1:=⟨by kernel_rfl⟩
def codeOk (x:ItemD):Bool:=if x.kind=4 then decide (1≤x.code∧x.code≤3) else if x.kind=6 then decide (1≤x.code∧x.code≤2) else if x.kind=8 then decide (1≤x.code∧x.code≤4) else true
def startB (x:ItemD):Bool:=decide (x.kind=8∧x.code=1)
def wordB (x:ItemD):Bool:=decide (x.kind=1∨x.kind=5) || startB x
def namedB (x:ItemD):Bool:=decide (x.kind=6∨x.kind=7∨x.kind=8)
def codedB (x:ItemD):Bool:=decide (x.kind=4∨x.kind=6∨x.kind=8)
def emptyB (s:ByteArray):Bool:=s.toList == (⟨#[]⟩:ByteArray).toList
def fmtB (x:ItemD):Bool:=!codedB x && decide (x.code≠0) || !namedB x && decide (x.id≠0) || !wordB x && !emptyB x.text || decide (x.kind≠6) && decide (0 < (x.flow.length:Int)) || decide (x.kind≠7) && decide (0 < (x.rows.length:Int))
/-- The first error of an item's kind and fields. -/
def formE (x:ItemD):Int :=
 if (!decide (1≤x.kind∧x.kind≤8) || !codeOk x)=true then 3 else if fmtB x=true then 15 else if validS x.text=false then 12 else if (decide (x.kind=1∨x.kind=5) && emptyB x.text)=true then 11
 else if (decide (x.kind=5) && decide (1024 < (x.text.size:Int)))=true then 10 else if (startB x && !cpNm x.text)=true then 13 else 0
theorem form_spec (G:GH) (w0:World) (hG:Hold G w0) (x:ItemD) (p d l:Value) (fA rA:Option Addr) (fc rc:Nat) (hs:x.text.size < 4611686018427387904) :
  Calls Tryz.prog 101 #[.agg #[vi x.kind,vi x.code,vi x.id,.string x.text,p,vi x.head.marks.ins,vi x.head.marks.move,d,l,.slice fA x.flow.length fc,.slice rA x.rows.length rc]] w0 (Ret w0 G fun u G'=>u=vi (formE x)∧G=G'):=by
 refine eN [(0,_)] Tryz.func101 rfl Tryz.ntmps101 rfl rfl hG ?_;intro a H;refine c_seqR (fun _ K1=>?_);refine s_box (cs:=[_,_,_,_,_,_,_,_,_,_,_]) H wn rfl rfl rfl ?_;clear H;intro b1 a w hb1 H;refine kH H (Ra rfl (Kz K1 ?_));clear H K1;intro a H;refine c_seqJ (ι:=Bool) (Tc:=[(1,_)]) (Lc:=[(_,_)]) (fun (gh:Bool)=>[(3,.bool gh)]) (fun (gh:Bool)=>[]) (fun (gh:Bool)=>G) (fun (gh:Bool)=>gh=startB x) (by exact (H).sub ⟨rfl,trivial⟩) ?_ ?_
 ·skip;refine kP H (SC (Rf fd85_0run rfl (Ro ty3run 0 rfl rfl (Rc rfl (Rm rfl ?_)))));clear H;intro a H;refine s_split H 11 rfl ?_ ?_
  ·intro h11
   try have p11:=dT h11
   refine kH H (YF fd85_1frm h11 rfl (YO ty3run 0 h11 rfl rfl (YC h11 rfl (Pt h11 rfl (Ra rfl ?_)))));clear H;intro a H;refine wl_nil ?_;refine ⟨_,by exact (H).sub ⟨rfl,rfl,trivial⟩,?_⟩
   unfold startB;first|(simp_all;done)
  intro h11
  try have p11:=dF h11
  refine kH H (Ks h11 rfl (Ks h11 rfl (Ks h11 rfl (Pf h11 rfl (Ra rfl ?_)))));clear H;intro a H;refine wl_nil ?_;refine ⟨_,by exact (H).sub ⟨rfl,rfl,trivial⟩,?_⟩
  unfold startB;first|(simp_all;done)
 clear H;intro gh a w hI H;obtain ⟨st,hgh⟩:∃ x,x=gh:=⟨_,rfl⟩;subst hgh;have hst:=hI;dsimp only [List.cons_append,List.nil_append,List.append_nil] at H;refine c_seqJ (ι:=Bool) (Tc:=[(1,_),(3,_)]) (Lc:=[(_,_)]) (fun (gh:Bool)=>[(4,.bool gh)]) (fun (gh:Bool)=>[]) (fun (gh:Bool)=>G) (fun (gh:Bool)=>gh=wordB x) (by exact (H).sub ⟨rfl,rfl,trivial⟩) ?_ ?_
 ·skip;refine kP H (SC (Rf fd85_0run rfl (Ro ty3run 0 rfl rfl (Rc rfl (Rm rfl ?_)))));clear H;intro a H;refine s_split H 19 rfl ?_ ?_
  ·intro h19
   try have p19:=dT h19
   refine kH H (Ks h19 rfl (Ks h19 rfl (Ks h19 rfl (Pt h19 rfl (Rm rfl (Ks rfl rfl (Pt rfl rfl (Ra rfl ?_))))))));clear H;intro a H;refine wl_nil ?_;refine ⟨_,by exact (H).sub ⟨rfl,rfl,rfl,trivial⟩,?_⟩
   unfold wordB;first|(simp_all;done)
  intro h19
  try have p19:=dF h19
  refine kH H (YF fd85_0run h19 rfl (YO ty3run 0 h19 rfl rfl (YC h19 rfl (Pf h19 rfl (Rm rfl ?_)))));clear H;intro a H;refine s_split H 24 rfl ?_ ?_
  ·intro h24
   try have p24:=dT h24
   refine kH H (Ks h24 rfl (Pt h24 rfl (Ra rfl ?_)));clear H;intro a H;refine wl_nil ?_;refine ⟨_,by exact (H).sub ⟨rfl,rfl,rfl,trivial⟩,?_⟩
   unfold wordB;first|(simp_all;done)
  intro h24
  try have p24:=dF h24
  refine kH H (YM h24 rfl (Pf h24 rfl (Ra rfl ?_)));clear H;intro a H;refine wl_nil ?_;refine ⟨_,by exact (H).sub ⟨rfl,rfl,rfl,trivial⟩,?_⟩
  unfold wordB;first|(simp_all;done)
 clear H;intro gh a w hI H;obtain ⟨wd,hgh⟩:∃ x,x=gh:=⟨_,rfl⟩;subst hgh;have hwd:=hI;dsimp only [List.cons_append,List.nil_append,List.append_nil] at H;refine c_seqJ (ι:=Bool) (Tc:=[(1,_),(3,_),(4,_)]) (Lc:=[(_,_)]) (fun (gh:Bool)=>[(5,.bool gh)]) (fun (gh:Bool)=>[]) (fun (gh:Bool)=>G) (fun (gh:Bool)=>gh=namedB x) (by exact (H).sub ⟨rfl,rfl,rfl,trivial⟩) ?_ ?_
 ·skip;refine kP H (SC (Rf fd85_0run rfl (Ro ty3run 0 rfl rfl (Rc rfl (Rm rfl ?_)))));clear H;intro a H;refine s_split H 30 rfl ?_ ?_
  ·intro h30
   try have p30:=dT h30
   refine kH H (Ks h30 rfl (Ks h30 rfl (Ks h30 rfl (Pt h30 rfl (Rm rfl (Ks rfl rfl (Ks rfl rfl (Ks rfl rfl (Pt rfl rfl (Ra rfl ?_))))))))));clear H;intro a H;refine wl_nil ?_;refine ⟨_,by exact (H).sub ⟨rfl,rfl,rfl,rfl,trivial⟩,?_⟩
   unfold namedB;first|(simp_all;done)
  intro h30
  try have p30:=dF h30
  refine kH H (YF fd85_0run h30 rfl (YO ty3run 0 h30 rfl rfl (YC h30 rfl (Pf h30 rfl (Rm rfl ?_)))));clear H;intro a H;refine s_split H 35 rfl ?_ ?_
  ·intro h35
   try have p35:=dT h35
   refine kH H (Ks h35 rfl (Ks h35 rfl (Ks h35 rfl (Pt h35 rfl (Ra rfl ?_)))));clear H;intro a H;refine wl_nil ?_;refine ⟨_,by exact (H).sub ⟨rfl,rfl,rfl,rfl,trivial⟩,?_⟩
   unfold namedB;first|(simp_all;done)
  intro h35
  try have p35:=dF h35
  refine kH H (YF fd85_0run h35 rfl (YO ty3run 0 h35 rfl rfl (YC h35 rfl (Pf h35 rfl (Ra rfl ?_)))));clear H;intro a H;refine wl_nil ?_;refine ⟨_,by exact (H).sub ⟨rfl,rfl,rfl,rfl,trivial⟩,?_⟩
  unfold namedB;first|(simp_all;done)
 clear H;intro gh a w hI H;obtain ⟨nm,hgh⟩:∃ x,x=gh:=⟨_,rfl⟩;subst hgh;have hnm:=hI;dsimp only [List.cons_append,List.nil_append,List.append_nil] at H;refine kP H (SR fun _ K2=>Ra rfl (Kz K2 ?_));clear H K2;intro a H;refine c_seqJ (ι:=Bool) (Tc:=[(1,_),(3,_),(4,_),(5,_)]) (Lc:=[(_,_)]) (fun (gh:Bool)=>[(6,.bool gh)]) (fun (gh:Bool)=>[]) (fun (gh:Bool)=>G) (fun (gh:Bool)=>gh=codeOk x) (by exact (H).sub ⟨rfl,rfl,rfl,rfl,trivial⟩) ?_ ?_
 ·skip;refine kP H (SR fun _ K3=>Rf fd85_0run rfl (Ro ty3run 0 rfl rfl (Kz K3 (SB (SR fun _ K4=>Rc rfl (Ra rfl (Kz K4 ?_)))))));clear H K3 K4;intro a H;refine c_cond H rfl ?_ ?_
  ·intro h42
   try have p42:=dT h42
   refine kP H (SC (Rf fd85_1frm rfl (Ro ty3run 0 rfl rfl ?_)));clear H;intro a H;refine s_call en68fst H wn rfl (in_spec _ _ H.hp.ro x.code 1 3) rfl ?_;clear H;rintro v46 _ a w ⟨rfl,rfl⟩ - H;refine kH H (Ra rfl ?_);clear H;intro a H;refine wl_nil ?_;refine ⟨_,by exact (H).sub ⟨rfl,rfl,rfl,rfl,rfl,trivial⟩,?_⟩
   unfold codeOk;first|(simp_all;done)
  intro h42
  try have p42:=dF h42
  refine kP H (SR fun _ K5=>Rc rfl (Ra rfl (Kz K5 ?_)));clear H K5;intro a H;refine c_cond H rfl ?_ ?_
  ·intro h47
   try have p47:=dT h47
   refine kP H (SC (Rf fd85_1frm rfl (Ro ty3run 0 rfl rfl ?_)));clear H;intro a H;refine s_call en68fst H wn rfl (in_spec _ _ H.hp.ro x.code 1 2) rfl ?_;clear H;rintro v51 _ a w ⟨rfl,rfl⟩ - H;refine kH H (Ra rfl ?_);clear H;intro a H;refine wl_nil ?_;refine ⟨_,by exact (H).sub ⟨rfl,rfl,rfl,rfl,rfl,trivial⟩,?_⟩
   unfold codeOk;first|(simp_all;done)
  intro h47
  try have p47:=dF h47
  refine kP H (SR fun _ K6=>Rc rfl (Ra rfl (Kz K6 ?_)));clear H K6;intro a H;refine c_cond H rfl ?_ ?_
  ·intro h52
   try have p52:=dT h52
   refine kP H (SC (Rf fd85_1frm rfl (Ro ty3run 0 rfl rfl ?_)));clear H;intro a H;refine s_call en68fst H wn rfl (in_spec _ _ H.hp.ro x.code 1 4) rfl ?_;clear H;rintro v56 _ a w ⟨rfl,rfl⟩ - H;refine kH H (Ra rfl ?_);clear H;intro a H;refine wl_nil ?_;refine ⟨_,by exact (H).sub ⟨rfl,rfl,rfl,rfl,rfl,trivial⟩,?_⟩
   unfold codeOk;first|(simp_all;done)
  intro h52
  try have p52:=dF h52
  refine c_skip ?_;refine ⟨_,by exact (H).sub ⟨rfl,rfl,rfl,rfl,rfl,trivial⟩,?_⟩
  unfold codeOk;first|(simp_all;done)
 clear H;intro gh a w hI H;obtain ⟨ck,hgh⟩:∃ x,x=gh:=⟨_,rfl⟩;subst hgh;have hck:=hI;dsimp only [List.cons_append,List.nil_append,List.append_nil] at H;refine c_seqJ (ι:=Bool) (Tc:=[(1,_),(3,_),(4,_),(5,_),(6,_)]) (Lc:=[(_,_)]) (fun (gh:Bool)=>[(7,.bool gh)]) (fun (gh:Bool)=>[]) (fun (gh:Bool)=>G) (fun (gh:Bool)=>gh=codedB x) (by exact (H).sub ⟨rfl,rfl,rfl,rfl,rfl,trivial⟩) ?_ ?_
 ·skip;refine kP H (SC (Rf fd85_0run rfl (Ro ty3run 0 rfl rfl (Rc rfl (Rm rfl ?_)))));clear H;intro a H;refine s_split H 60 rfl ?_ ?_
  ·intro h60
   try have p60:=dT h60
   refine kH H (Ks h60 rfl (Ks h60 rfl (Ks h60 rfl (Pt h60 rfl (Rm rfl (Ks rfl rfl (Ks rfl rfl (Ks rfl rfl (Pt rfl rfl (Ra rfl ?_))))))))));clear H;intro a H;refine wl_nil ?_;refine ⟨_,by exact (H).sub ⟨rfl,rfl,rfl,rfl,rfl,rfl,trivial⟩,?_⟩
   unfold codedB;first|(simp_all;done)
  intro h60
  try have p60:=dF h60
  refine kH H (YF fd85_0run h60 rfl (YO ty3run 0 h60 rfl rfl (YC h60 rfl (Pf h60 rfl (Rm rfl ?_)))));clear H;intro a H;refine s_split H 65 rfl ?_ ?_
  ·intro h65
   try have p65:=dT h65
   refine kH H (Ks h65 rfl (Ks h65 rfl (Ks h65 rfl (Pt h65 rfl (Ra rfl ?_)))));clear H;intro a H;refine wl_nil ?_;refine ⟨_,by exact (H).sub ⟨rfl,rfl,rfl,rfl,rfl,rfl,trivial⟩,?_⟩
   unfold codedB;first|(simp_all;done)
  intro h65
  try have p65:=dF h65
  refine kH H (YF fd85_0run h65 rfl (YO ty3run 0 h65 rfl rfl (YC h65 rfl (Pf h65 rfl (Ra rfl ?_)))));clear H;intro a H;refine wl_nil ?_;refine ⟨_,by exact (H).sub ⟨rfl,rfl,rfl,rfl,rfl,rfl,trivial⟩,?_⟩
  unfold codedB;first|(simp_all;done)
 clear H;intro gh a w hI H;obtain ⟨cd,hgh⟩:∃ x,x=gh:=⟨_,rfl⟩;subst hgh;have hcd:=hI;dsimp only [List.cons_append,List.nil_append,List.append_nil] at H;refine kP H (SQ fun _ K7=>SB (SR fun _ K8=>?_));clear H;intro a H;refine wl_meet (ι:=Bool) (Tc:=[(1,_),(3,_),(4,_),(5,_),(7,_)]) 8 (fun (q0:Bool)=>[(78,.bool q0)]) (fun (q0:Bool)=>q0=(!decide (1≤x.kind∧x.kind≤8) || !codeOk x)) (by exact H.sub ⟨rfl,rfl,rfl,rfl,rfl,trivial⟩) ?_ ?_
 ·intro hM13_0;refine kH H (Rf fd85_0run rfl (Ro ty3run 0 rfl rfl ?_));clear H;intro a H;refine s_call en68fst H wn rfl (in_spec _ _ H.hp.ro x.kind 1 8) rfl ?_;clear H;rintro v73 _ a w ⟨rfl,rfl⟩ - H;refine kH H (Rn rfl (Rm rfl ?_));clear H;intro a H;refine s_split H 75 rfl ?_ ?_
  ·intro h75
   try have p75:=dT h75
   refine kH H (Ks h75 rfl (Ks h75 rfl (Pt h75 rfl ?_)));clear H;intro a H;refine hM13_0 (_) _ _ ?_ (by exact H.sub ⟨rfl,rfl,rfl,rfl,rfl,rfl,trivial⟩);rw [← hck];clear hst hwd hnm hck hcd;(try clear hq1);(try clear hq2);(try clear hq3);(try clear hq0);(try clear hq4);(try clear hq5);(try clear hq6);(try clear hq7);simp_all
  intro h75
  try have p75:=dF h75
  refine kH H (YM h75 rfl (YN h75 rfl (Pf h75 rfl ?_)));clear H;intro a H;refine hM13_0 (_) _ _ ?_ (by exact H.sub ⟨rfl,rfl,rfl,rfl,rfl,rfl,trivial⟩);rw [← hck];clear hst hwd hnm hck hcd;(try clear hq1);(try clear hq2);(try clear hq3);(try clear hq0);(try clear hq4);(try clear hq5);(try clear hq6);(try clear hq7);simp_all
 clear H;intro q0 a w hI H;dsimp only [List.cons_append,List.nil_append] at H;simp only [List.drop_succ_cons,List.drop_zero];have hq0:=hI;refine kH H (Ra rfl (Kz K8 ?_));clear H K8;intro a H;refine c_cond H rfl ?_ ?_
 ·intro h70
  try have p70:=dT h70
  refine c_seq (fun _ K9=>?_)
  have e:formE x=3:=by unfold formE;rw [if_pos (by rw [← hq0];exact h70)]
  refine kP H (SC (Ra rfl (Kn K9 ?_)));clear H K9;intro a H;refine lr H Tryz.results101 rfl ?_;exact H.hp.ret ⟨by rw [e],rfl⟩
 intro h70
 try have p70:=dF h70
 have f0:¬ (!decide (1≤x.kind∧x.kind≤8) || !codeOk x)=true:=by rw [← hq0,h70];decide
 refine c_seqR (fun _ K10=>?_);refine wl_meet (ι:=Bool) (Tc:=[(1,_),(3,_),(4,_),(5,_)]) 7 (fun (q1:Bool)=>[(86,.bool q1)]) (fun (q1:Bool)=>q1=(!codedB x && decide (x.code≠0))) (by exact H.sub ⟨rfl,rfl,rfl,rfl,trivial⟩) ?_ ?_
 ·intro hM15_0;refine kH H (Rm rfl (Rn rfl (Rm rfl ?_)));clear H;intro a H;refine s_split H 82 rfl ?_ ?_
  ·intro h82
   try have p82:=dT h82
   refine kH H (YF fd85_1frm h82 rfl (YO ty3run 0 h82 rfl rfl (YC h82 rfl (Pt h82 rfl ?_))));clear H;intro a H;refine hM15_0 (_) _ _ ?_ (by exact H.sub ⟨rfl,rfl,rfl,rfl,rfl,trivial⟩);rw [← hcd];clear hst hwd hnm hck hcd;(try clear hq1);(try clear hq2);(try clear hq3);(try clear hq0);(try clear hq4);(try clear hq5);(try clear hq6);(try clear hq7);simp_all
  intro h82
  try have p82:=dF h82
  refine kH H (Ks h82 rfl (Ks h82 rfl (Ks h82 rfl (Pf h82 rfl ?_))));clear H;intro a H;refine hM15_0 (_) _ _ ?_ (by exact H.sub ⟨rfl,rfl,rfl,rfl,rfl,trivial⟩);rw [← hcd];clear hst hwd hnm hck hcd;(try clear hq1);(try clear hq2);(try clear hq3);(try clear hq0);(try clear hq4);(try clear hq5);(try clear hq6);(try clear hq7);simp_all
 clear H;intro q1 a w hI H;dsimp only [List.cons_append,List.nil_append] at H;simp only [List.drop_succ_cons,List.drop_zero];have hq1:=hI;refine wl_meet (ι:=Bool) (Tc:=[(1,_),(3,_),(4,_)]) 9 (fun (q2:Bool)=>[(95,.bool q2)]) (fun (q2:Bool)=>q2=(q1 || !namedB x && decide (x.id≠0))) (by exact H.sub ⟨rfl,rfl,rfl,trivial⟩) ?_ ?_
 ·intro hM15_7;refine kH H (Rm rfl ?_);clear H;intro a H;refine s_split H 87 rfl ?_ ?_
  ·intro h87
   try have p87:=dT h87
   refine kH H (Ks h87 rfl (Ks h87 rfl (Ks h87 rfl (Ku rfl (Ku rfl (Ku rfl (Ks h87 rfl (Pt h87 rfl ?_))))))));clear H;intro a H;refine hM15_7 (_) _ _ ?_ (by exact H.sub ⟨rfl,rfl,rfl,rfl,trivial⟩);rw [← hnm];clear hst hwd hnm hck hcd;(try clear hq1);(try clear hq2);(try clear hq3);(try clear hq0);(try clear hq4);(try clear hq5);(try clear hq6);(try clear hq7);simp_all
  intro h87
  try have p87:=dF h87
  refine kH H (YM h87 rfl (YN h87 rfl (YM h87 rfl ?_)));clear H;intro a H;refine s_split H 90 rfl ?_ ?_
  ·intro h90
   try have p90:=dT h90
   refine kH H (YF fd85_2pos h90 rfl (YO ty3run 0 h90 rfl rfl (YC h90 rfl (PT h87 h90 rfl (Pf h87 rfl ?_)))));clear H;intro a H;refine hM15_7 (_) _ _ ?_ (by exact H.sub ⟨rfl,rfl,rfl,rfl,trivial⟩);rw [← hnm];clear hst hwd hnm hck hcd;(try clear hq1);(try clear hq2);(try clear hq3);(try clear hq0);(try clear hq4);(try clear hq5);(try clear hq6);(try clear hq7);simp_all
  intro h90
  try have p90:=dF h90
  refine kH H (Ks h90 rfl (Ks h90 rfl (Ks h90 rfl (PF h87 h90 rfl (Pf h87 rfl ?_)))));clear H;intro a H;refine hM15_7 (_) _ _ ?_ (by exact H.sub ⟨rfl,rfl,rfl,rfl,trivial⟩);rw [← hnm];clear hst hwd hnm hck hcd;(try clear hq1);(try clear hq2);(try clear hq3);(try clear hq0);(try clear hq4);(try clear hq5);(try clear hq6);(try clear hq7);simp_all
 clear H;intro q2 a w hI H;dsimp only [List.cons_append,List.nil_append] at H;simp only [List.drop_succ_cons,List.drop_zero];have hq2:=hI;refine wl_meet (ι:=Bool) (Tc:=[(1,_),(3,_)]) 9 (fun (q3:Bool)=>[(104,.bool q3)]) (fun (q3:Bool)=>q3=(q2 || !wordB x && !emptyB x.text)) (by exact H.sub ⟨rfl,rfl,trivial⟩) ?_ ?_
 ·intro hM15_16;refine kH H (Rm rfl ?_);clear H;intro a H;refine s_split H 96 rfl ?_ ?_
  ·intro h96
   try have p96:=dT h96
   refine kH H (Ks h96 rfl (Ks h96 rfl (Ks h96 rfl (Ku rfl (Ku rfl (Ku rfl (Ks h96 rfl (Pt h96 rfl ?_))))))));clear H;intro a H;refine hM15_16 (_) _ _ ?_ (by exact H.sub ⟨rfl,rfl,rfl,trivial⟩);rw [← hwd];clear hst hwd hnm hck hcd;(try clear hq1);(try clear hq2);(try clear hq3);(try clear hq0);(try clear hq4);(try clear hq5);(try clear hq6);(try clear hq7);simp_all [emptyB]
  intro h96
  try have p96:=dF h96
  refine kH H (YM h96 rfl (YN h96 rfl (YM h96 rfl ?_)));clear H;intro a H;refine s_split H 99 rfl ?_ ?_
  ·intro h99
   try have p99:=dT h99
   refine kH H (YF fd85_3run h99 rfl (YO ty9run 0 h99 rfl rfl ?_));clear H;intro a H;refine s_neqstr H (wg H rfl rfl h99) rfl rfl rfl ?_;clear H;intro a H;refine kH H (PT h96 h99 rfl (Pf h96 rfl ?_));clear H;intro a H;refine hM15_16 (_) _ _ ?_ (by exact H.sub ⟨rfl,rfl,rfl,trivial⟩);rw [← hwd];clear hst hwd hnm hck hcd;(try clear hq1);(try clear hq2);(try clear hq3);(try clear hq0);(try clear hq4);(try clear hq5);(try clear hq6);(try clear hq7);simp_all [emptyB]
  intro h99
  try have p99:=dF h99
  refine kH H (Ks h99 rfl (Ks h99 rfl (Ks h99 rfl (PF h96 h99 rfl (Pf h96 rfl ?_)))));clear H;intro a H;refine hM15_16 (_) _ _ ?_ (by exact H.sub ⟨rfl,rfl,rfl,trivial⟩);rw [← hwd];clear hst hwd hnm hck hcd;(try clear hq1);(try clear hq2);(try clear hq3);(try clear hq0);(try clear hq4);(try clear hq5);(try clear hq6);(try clear hq7);simp_all [emptyB]
 clear H;intro q3 a w hI H;dsimp only [List.cons_append,List.nil_append] at H;simp only [List.drop_succ_cons,List.drop_zero];have hq3:=hI;refine wl_meet (ι:=Bool) (Tc:=[(1,_),(3,_)]) 11 (fun (q4:Bool)=>[(115,.bool q4)]) (fun (q4:Bool)=>q4=(q3 || decide (x.kind≠6) && decide (0 < (x.flow.length:Int)))) (by exact H.sub ⟨rfl,rfl,trivial⟩) ?_ ?_
 ·intro hM15_25;refine kH H (Rm rfl ?_);clear H;intro a H;refine s_split H 105 rfl ?_ ?_
  ·intro h105
   try have p105:=dT h105
   refine kH H (Ks h105 rfl (Ks h105 rfl (Ks h105 rfl (Ks h105 rfl (Ku rfl (Ku rfl (Ku rfl (Ku rfl (Ks h105 rfl (Pt h105 rfl ?_))))))))));clear H;intro a H;refine hM15_25 (_) _ _ ?_ (by exact H.sub ⟨rfl,rfl,rfl,trivial⟩);clear hst hwd hnm hck hcd;(try clear hq1);(try clear hq2);(try clear hq3);(try clear hq0);(try clear hq4);(try clear hq5);(try clear hq6);(try clear hq7);simp_all
  intro h105
  try have p105:=dF h105
  refine kH H (YF fd85_0run h105 rfl (YO ty3run 0 h105 rfl rfl (YC h105 rfl (YM h105 rfl ?_))));clear H;intro a H;refine s_split H 109 rfl ?_ ?_
  ·intro h109
   try have p109:=dT h109
   refine kH H (YF fd85_5run h109 rfl (YO ty22run 0 h109 rfl rfl (YL un22run h109 rfl (YC h109 rfl (PT h105 h109 rfl (Pf h105 rfl ?_))))));clear H;intro a H;refine hM15_25 (_) _ _ ?_ (by exact H.sub ⟨rfl,rfl,rfl,trivial⟩);clear hst hwd hnm hck hcd;(try clear hq1);(try clear hq2);(try clear hq3);(try clear hq0);(try clear hq4);(try clear hq5);(try clear hq6);(try clear hq7);simp_all
  intro h109
  try have p109:=dF h109
  refine kH H (Ks h109 rfl (Ks h109 rfl (Ks h109 rfl (Ks h109 rfl (PF h105 h109 rfl (Pf h105 rfl ?_))))));clear H;intro a H;refine hM15_25 (_) _ _ ?_ (by exact H.sub ⟨rfl,rfl,rfl,trivial⟩);clear hst hwd hnm hck hcd;(try clear hq1);(try clear hq2);(try clear hq3);(try clear hq0);(try clear hq4);(try clear hq5);(try clear hq6);(try clear hq7);simp_all
 clear H;intro q4 a w hI H;dsimp only [List.cons_append,List.nil_append] at H;simp only [List.drop_succ_cons,List.drop_zero];have hq4:=hI;refine wl_meet (ι:=Bool) (Tc:=[(1,_),(3,_)]) 11 (fun (q5:Bool)=>[(126,.bool q5)]) (fun (q5:Bool)=>q5=fmtB x) (by exact H.sub ⟨rfl,rfl,trivial⟩) ?_ ?_
 ·intro hM15_36;refine kH H (Rm rfl ?_);clear H;intro a H;refine s_split H 116 rfl ?_ ?_
  ·intro h116
   try have p116:=dT h116
   refine kH H (Ks h116 rfl (Ks h116 rfl (Ks h116 rfl (Ks h116 rfl (Ku rfl (Ku rfl (Ku rfl (Ku rfl (Ks h116 rfl (Pt h116 rfl ?_))))))))));clear H;intro a H;refine hM15_36 (_) _ _ ?_ (by exact H.sub ⟨rfl,rfl,rfl,trivial⟩);rw [show fmtB x=(q4 || decide (x.kind≠7) && decide (0 < (x.rows.length:Int))) by rw [hq4,hq3,hq2,hq1];rfl];clear hq4;clear hst hwd hnm hck hcd;(try clear hq1);(try clear hq2);(try clear hq3);(try clear hq0);(try clear hq4);(try clear hq5);(try clear hq6);(try clear hq7);simp_all
  intro h116
  try have p116:=dF h116
  refine kH H (YF fd85_0run h116 rfl (YO ty3run 0 h116 rfl rfl (YC h116 rfl (YM h116 rfl ?_))));clear H;intro a H;refine s_split H 120 rfl ?_ ?_
  ·intro h120
   try have p120:=dT h120
   refine kH H (YF fd85_6run h120 rfl (YO ty83run 0 h120 rfl rfl (YL un83run h120 rfl (YC h120 rfl (PT h116 h120 rfl (Pf h116 rfl ?_))))));clear H;intro a H;refine hM15_36 (_) _ _ ?_ (by exact H.sub ⟨rfl,rfl,rfl,trivial⟩);rw [show fmtB x=(q4 || decide (x.kind≠7) && decide (0 < (x.rows.length:Int))) by rw [hq4,hq3,hq2,hq1];rfl];clear hq4;clear hst hwd hnm hck hcd;(try clear hq1);(try clear hq2);(try clear hq3);(try clear hq0);(try clear hq4);(try clear hq5);(try clear hq6);(try clear hq7);simp_all
  intro h120
  try have p120:=dF h120
  refine kH H (Ks h120 rfl (Ks h120 rfl (Ks h120 rfl (Ks h120 rfl (PF h116 h120 rfl (Pf h116 rfl ?_))))));clear H;intro a H;refine hM15_36 (_) _ _ ?_ (by exact H.sub ⟨rfl,rfl,rfl,trivial⟩);rw [show fmtB x=(q4 || decide (x.kind≠7) && decide (0 < (x.rows.length:Int))) by rw [hq4,hq3,hq2,hq1];rfl];clear hq4;clear hst hwd hnm hck hcd;(try clear hq1);(try clear hq2);(try clear hq3);(try clear hq0);(try clear hq4);(try clear hq5);(try clear hq6);(try clear hq7);simp_all
 clear H;intro q5 a w hI H;dsimp only [List.cons_append,List.nil_append] at H;simp only [List.drop_succ_cons,List.drop_zero];have hq5:=hI;refine kH H (Ra rfl (Kz K10 ?_));clear H K10;intro a H;refine c_cond H rfl ?_ ?_
 ·intro h79
  try have p79:=dT h79
  refine c_seq (fun _ K11=>?_)
  have e:formE x=15:=by unfold formE;rw [if_neg f0,if_pos (by rw [← hq5];exact h79)]
  refine kP H (SC (Ra rfl (Kn K11 ?_)));clear H K11;intro a H;refine lr H Tryz.results101 rfl ?_;exact H.hp.ret ⟨by rw [e],rfl⟩
 intro h79
 try have p79:=dF h79
 have f1:¬ fmtB x=true:=by rw [← hq5,h79];decide
 refine kP H (SR fun _ K12=>Rf fd85_3run rfl (Ro ty9run 0 rfl rfl ?_));clear H;intro a H;refine s_call en85cp H wn rfl (valid_spec _ _ H.hp.ro x.text hs) rfl ?_;clear H;rintro v130 _ a w ⟨rfl,rfl⟩ - H;refine kH H (Rn rfl (Ra rfl (Kz K12 ?_)));clear H K12;intro a H;refine c_cond H rfl ?_ ?_
 ·intro h127
  try have p127:=dT h127
  refine c_seq (fun _ K13=>?_)
  have e:formE x=12:=by unfold formE;rw [if_neg f0,if_neg f1,if_pos (by simpa using h127)]
  refine kP H (SC (Ra rfl (Kn K13 ?_)));clear H K13;intro a H;refine lr H Tryz.results101 rfl ?_;exact H.hp.ret ⟨by rw [e],rfl⟩
 intro h127
 try have p127:=dF h127
 have f2:¬ validS x.text=false:=by simpa using h127
 refine c_seqR (fun _ K14=>?_);refine wl_meet (ι:=Bool) (Tc:=[(1,_),(3,_)]) 13 (fun (q6:Bool)=>[(145,.bool q6)]) (fun (q6:Bool)=>q6=(decide (x.kind=1∨x.kind=5) && emptyB x.text)) (by exact H.sub ⟨rfl,rfl,trivial⟩) ?_ ?_
 ·intro hM19_0;refine kH H (Rf fd85_0run rfl (Ro ty3run 0 rfl rfl (Rc rfl (Rm rfl ?_))));clear H;intro a H;refine s_split H 136 rfl ?_ ?_
  ·intro h136
   try have p136:=dT h136
   refine kH H (Ks h136 rfl (Ks h136 rfl (Ks h136 rfl (Pt h136 rfl (Rm rfl ?_)))));clear H;intro a H;refine s_field fd85_3run H (wg H rfl rfl rfl) rfl rfl ?_;clear H;intro a H;refine s_load ty9run H (wg H rfl rfl rfl) rfl (H.hp.ocell 0 rfl rfl) rfl ?_;clear H;intro a H;refine s_eqstr H (wg H rfl rfl rfl) rfl rfl rfl ?_;clear H;intro a H;refine kH H (Pt rfl rfl ?_);clear H;intro a H;refine hM19_0 (_) _ _ ?_ (by exact H.sub ⟨rfl,rfl,rfl,trivial⟩);clear hst hwd hnm hck hcd;(try clear hq1);(try clear hq2);(try clear hq3);(try clear hq0);(try clear hq4);(try clear hq5);(try clear hq6);(try clear hq7);simp_all [emptyB]
  intro h136
  try have p136:=dF h136
  refine kH H (YF fd85_0run h136 rfl (YO ty3run 0 h136 rfl rfl (YC h136 rfl (Pf h136 rfl (Rm rfl ?_)))));clear H;intro a H;refine s_split H 141 rfl ?_ ?_
  ·intro h141
   try have p141:=dT h141
   refine kH H (YF fd85_3run h141 rfl (YO ty9run 0 h141 rfl rfl ?_));clear H;intro a H;refine s_eqstr H (wg H rfl rfl h141) rfl rfl rfl ?_;clear H;intro a H;refine kH H (Pt h141 rfl ?_);clear H;intro a H;refine hM19_0 (_) _ _ ?_ (by exact H.sub ⟨rfl,rfl,rfl,trivial⟩);clear hst hwd hnm hck hcd;(try clear hq1);(try clear hq2);(try clear hq3);(try clear hq0);(try clear hq4);(try clear hq5);(try clear hq6);(try clear hq7);simp_all [emptyB]
  intro h141
  try have p141:=dF h141
  refine kH H (Ks h141 rfl (Ks h141 rfl (Ks h141 rfl (Pf h141 rfl ?_))));clear H;intro a H;refine hM19_0 (_) _ _ ?_ (by exact H.sub ⟨rfl,rfl,rfl,trivial⟩);clear hst hwd hnm hck hcd;(try clear hq1);(try clear hq2);(try clear hq3);(try clear hq0);(try clear hq4);(try clear hq5);(try clear hq6);(try clear hq7);simp_all [emptyB]
 clear H;intro q6 a w hI H;dsimp only [List.cons_append,List.nil_append] at H;simp only [List.drop_succ_cons,List.drop_zero];have hq6:=hI;refine kH H (Ra rfl (Kz K14 ?_));clear H K14;intro a H;refine c_cond H rfl ?_ ?_
 ·intro h132
  try have p132:=dT h132
  refine c_seq (fun _ K15=>?_)
  have e:formE x=11:=by unfold formE;rw [if_neg f0,if_neg f1,if_neg f2,if_pos (by rw [← hq6];exact h132)]
  refine kP H (SC (Ra rfl (Kn K15 ?_)));clear H K15;intro a H;refine lr H Tryz.results101 rfl ?_;exact H.hp.ret ⟨by rw [e],rfl⟩
 intro h132
 try have p132:=dF h132
 have f3:¬ (decide (x.kind=1∨x.kind=5) && emptyB x.text)=true:=by rw [← hq6,h132];decide
 refine c_seqR (fun _ K16=>?_);refine wl_meet (ι:=Bool) (Tc:=[(1,_),(3,_)]) 9 (fun (q7:Bool)=>[(155,.bool q7)]) (fun (q7:Bool)=>q7=(decide (x.kind=5) && decide (1024 < (x.text.size:Int)))) (by exact H.sub ⟨rfl,rfl,trivial⟩) ?_ ?_
 ·intro hM21_0;refine kH H (Rf fd85_0run rfl (Ro ty3run 0 rfl rfl (Rc rfl (Rm rfl ?_))));clear H;intro a H;refine s_split H 150 rfl ?_ ?_
  ·intro h150
   try have p150:=dT h150
   refine kH H (YF fd85_3run h150 rfl (YO ty9run 0 h150 rfl rfl ?_));clear H;intro a H;refine s_lens un9cp H (wg H rfl rfl h150) rfl rfl ?_;clear H;intro a H;refine kH H (YC h150 rfl (Pt h150 rfl ?_));clear H;intro a H;refine hM21_0 (_) _ _ ?_ (by exact H.sub ⟨rfl,rfl,rfl,trivial⟩);clear hst hwd hnm hck hcd;(try clear hq1);(try clear hq2);(try clear hq3);(try clear hq0);(try clear hq4);(try clear hq5);(try clear hq6);(try clear hq7);simp_all
  intro h150
  try have p150:=dF h150
  refine kH H (Ks h150 rfl (Ks h150 rfl (Ks h150 rfl (Ks h150 rfl (Pf h150 rfl ?_)))));clear H;intro a H;refine hM21_0 (_) _ _ ?_ (by exact H.sub ⟨rfl,rfl,rfl,trivial⟩);clear hst hwd hnm hck hcd;(try clear hq1);(try clear hq2);(try clear hq3);(try clear hq0);(try clear hq4);(try clear hq5);(try clear hq6);(try clear hq7);simp_all
 clear H;intro q7 a w hI H;dsimp only [List.cons_append,List.nil_append] at H;simp only [List.drop_succ_cons,List.drop_zero];have hq7:=hI;refine kH H (Ra rfl (Kz K16 ?_));clear H K16;intro a H;refine c_cond H rfl ?_ ?_
 ·intro h146
  try have p146:=dT h146
  refine c_seq (fun _ K17=>?_)
  have e:formE x=10:=by unfold formE;rw [if_neg f0,if_neg f1,if_neg f2,if_neg f3,if_pos (by rw [← hq7];exact h146)]
  refine kP H (SC (Ra rfl (Kn K17 ?_)));clear H K17;intro a H;refine lr H Tryz.results101 rfl ?_;exact H.hp.ret ⟨by rw [e],rfl⟩
 intro h146
 try have p146:=dF h146
 have f4:¬ (decide (x.kind=5) && decide (1024 < (x.text.size:Int)))=true:=by rw [← hq7,h146];decide
 refine c_seqR (fun _ K18=>?_);refine wl_meet (ι:=Bool) (Tc:=[]) 7 (fun (q8:Bool)=>[(163,.bool q8)]) (fun (q8:Bool)=>q8=(startB x && !cpNm x.text)) (by exact H.sub trivial) ?_ ?_
 ·intro hM23_0;refine kH H (Rm rfl (Rm rfl ?_));clear H;intro a H;refine s_split H 158 rfl ?_ ?_
  ·intro h158
   try have p158:=dT h158
   refine kH H (YF fd85_3run h158 rfl (YO ty9run 0 h158 rfl rfl ?_));clear H;intro a H;refine s_call en98dsv H (wg H rfl rfl h158) rfl (cpNm_spec _ _ H.hp.ro x.text hs) rfl ?_;clear H;rintro v161 _ a w ⟨rfl,rfl⟩ - H;refine kH H (YN h158 rfl (Pt h158 rfl ?_));clear H;intro a H;refine hM23_0 (_) _ _ ?_ (by exact H.sub ⟨rfl,trivial⟩);rw [← hst];clear hst hwd hnm hck hcd;(try clear hq1);(try clear hq2);(try clear hq3);(try clear hq0);(try clear hq4);(try clear hq5);(try clear hq6);(try clear hq7);simp_all
  intro h158
  try have p158:=dF h158
  refine kH H (Ks h158 rfl (Ks h158 rfl (Ks h158 rfl (Ks h158 rfl (Pf h158 rfl ?_)))));clear H;intro a H;refine hM23_0 (_) _ _ ?_ (by exact H.sub ⟨rfl,trivial⟩);rw [← hst];clear hst hwd hnm hck hcd;(try clear hq1);(try clear hq2);(try clear hq3);(try clear hq0);(try clear hq4);(try clear hq5);(try clear hq6);(try clear hq7);simp_all
 clear H;intro q8 a w hI H;dsimp only [List.cons_append,List.nil_append] at H;simp only [List.drop_succ_cons,List.drop_zero];have hq8:=hI;refine kH H (Ra rfl (Kz K18 ?_));clear H K18;intro a H;refine c_cond H rfl ?_ ?_
 ·intro h156
  try have p156:=dT h156
  refine c_seq (fun _ K19=>?_)
  have e:formE x=13:=by unfold formE;rw [if_neg f0,if_neg f1,if_neg f2,if_neg f3,if_neg f4,if_pos (by rw [← hq8];exact h156)]
  refine kP H (SC (Ra rfl (Kn K19 ?_)));clear H K19;intro a H;refine lr H Tryz.results101 rfl ?_;exact H.hp.ret ⟨by rw [e],rfl⟩
 intro h156
 try have p156:=dF h156
 refine c_skip ?_;refine K7 _ _ ?_;clear K7;refine c_seq (fun _ K20=>?_)
 have e:formE x=0:=by unfold formE;rw [if_neg f0,if_neg f1,if_neg f2,if_neg f3,if_neg f4,if_neg (by rw [← hq8,h156];decide)]
 refine kP H (SC (Ra rfl (Kn K20 ?_)));clear H K20;intro a H;refine lr H Tryz.results101 rfl ?_;exact H.hp.ret ⟨by rw [e],rfl⟩
end
section
open Go.RowKit
/-- Where a checker stands: how many units, which ids came before. -/
structure CS where
 n:Int
 bef:List Int
abbrev CR:=Int × CS
def andT (r:CR) (f:CS→CR):CR:=if r.1≠0 then r else f r.2
theorem andT_ok {r:CR} {f:CS→CR} (h:r.1=0):andT r f=f r.2:=by rw [andT,if_neg (fun h'=>h' h)]
theorem andT_err {r:CR} {f:CS→CR} (h:r.1≠0):andT r f=r:=by rw [andT,if_pos h]
def idC (s:CS) (x:Int):CR:=(idE s.bef x,⟨s.n,idB s.bef x⟩)
/-- Behind an item's form: what its kind asks for where it stands. -/
def preC (body note:Bool) (t k i:Int) (s:CS):CR :=
 if k=3 then (whenE (!body) 19,s) else if k=6 then andT (whenE note 19,s) fun s=>idC s i else if k=7 then andT (whenE (decide (4≤t)) 17,s) fun s=>idC s i else if k=8 then (whenE (!decide (1≤i∧i≤1073741824)) 18,s) else (0,s)
def rowE (C:CkP) (h:HeadD) (n:Nat):Int:=firstE [headE C 9 h,whenE (decide ((n:Int)=0)) 11,whenE (decide (32 < (n:Int))) 9]
def rowsC0 (n:Nat) (f:CS→CR) (s:CS):CR:=if n=0 then (11,s) else if 256 < n then (9,s) else f s
mutual
def itemC (C:CkP) (body note:Bool) (t:Int):ItemD→CS→CR
 | .mk k c i tx h f r,s =>
  andT (formE (.mk k c i tx h f r),s) fun s=>andT (preC body note t k i ⟨s.n+(if k=1 then cntS tx else 1:Nat),s.bef⟩) fun s=>andT (headE C k h,s) fun s =>
   if k=6 then itemsC C false true t f s else if k=7 then rowsC0 r.length (fun s=>rowsC C note (t+1) r s) s else (0,s)
def rowC (C:CkP) (note:Bool) (t:Int):RowD→CS→CR
 | .mk h cs,s=>andT (rowE C h cs.length,s) fun s=>cellsC C note t cs s
def cellC (C:CkP) (note:Bool) (t:Int):CellD→CS→CR
 | .mk i h f,s=>andT (idC s i) fun s=>andT (headE C 10 h,s) fun s=>itemsC C false note t f s
def itemsC (C:CkP) (body note:Bool) (t:Int):List ItemD→CS→CR
 | [],s=>(0,s)
 | x :: r,s=>andT (itemC C body note t x s) fun s=>itemsC C body note t r s
def rowsC (C:CkP) (note:Bool) (t:Int):List RowD→CS→CR
 | [],s=>(0,s)
 | x :: r,s=>andT (rowC C note t x s) fun s=>rowsC C note t r s
def cellsC (C:CkP) (note:Bool) (t:Int):List CellD→CS→CR
 | [],s=>(0,s)
 | x :: r,s=>andT (cellC C note t x s) fun s=>cellsC C note t r s
end
theorem itemC_eq (C:CkP) (body note:Bool) (t:Int) (x:ItemD) (s:CS):itemC C body note t x s=andT (formE x,s) fun s=>andT (preC body note t x.kind x.id ⟨s.n+(unitsS x:Nat),s.bef⟩) fun s=>andT (headE C x.kind x.head,s) fun s =>
  if x.kind=6 then itemsC C false true t x.flow s else if x.kind=7 then rowsC0 x.rows.length (fun s=>rowsC C note (t+1) x.rows s) s else (0,s):=by cases x;rw [itemC];rfl
theorem rowC_eq (C:CkP) (note:Bool) (t:Int) (x:RowD) (s:CS):rowC C note t x s=andT (rowE C x.head x.cells.length,s) fun s=>cellsC C note t x.cells s:=by cases x;rw [rowC];rfl
theorem cellC_eq (C:CkP) (note:Bool) (t:Int) (x:CellD) (s:CS):cellC C note t x s=andT (idC s x.id) fun s=>andT (headE C 10 x.head,s) fun s=>itemsC C false note t x.flow s:=by cases x;rw [cellC];rfl
/-! ## How many units -/
/-- From s to r no more than z units come to it. -/
def Up (s:CS) (z:Nat) (r:CR):Prop:=s.n≤r.2.n∧r.2.n≤s.n+z
theorem Up.and {s:CS} {z y q:Nat} {r:CR} {f:CS→CR} (h:Up s z r) (hq:z+y≤q) (hf:∀ s,Up s y (f s)):Up s q (andT r f):=by
 obtain ⟨h1,h2⟩:=h
 unfold andT
 split
 ·exact ⟨h1,by omega⟩
 obtain ⟨h3,h4⟩:=hf r.2;exact ⟨by omega,by omega⟩
theorem Up.zero (s:CS) (e:Int) (q:Nat):Up s q (e,s):=⟨Int.le_refl _,by dsimp only;omega⟩
theorem Up.le {s:CS} {z y:Nat} {r:CR} (h:Up s z r) (hq:z≤y):Up s y r:=⟨h.1,by have:=h.2;omega⟩
theorem up_id (s:CS) (x:Int) (q:Nat):Up s q (idC s x):=⟨Int.le_refl _,by dsimp only [idC];omega⟩
theorem up_pre (body note:Bool) (t k i:Int) (s:CS) (q:Nat):Up s q (preC body note t k i s):=by
 unfold preC
 (repeat' split) <;> first|exact Up.zero _ _ _|exact (Up.zero _ _ 0).and (y:=0) (by omega) fun s=>up_id _ _ _
mutual
theorem up_item (C:CkP) (body note:Bool) (t:Int):∀ (x:ItemD) (s:CS),Up s (szR x.dat) (itemC C body note t x s)
 | .mk k c i tx h f r,s=>by
  have hz:=zItem_eq (.mk k c i tx h f r);have hf:=up_items C false true t f;have hr:=up_rows C note (t+1) r;rw [itemC];obtain ⟨u,hu'⟩:∃ u,u=(if k=1 then cntS tx else 1:Nat):=⟨_,rfl⟩
  have hu:u≤tx.size+1:=by
   have:=cntS_le tx
   rw [hu'];split <;> omega
  rw [← hu'];dsimp only [ItemD.text,ItemD.flow,ItemD.rows,ItemD.head] at hz;refine (Up.zero s _ 0).and (Nat.le_of_eq (Nat.zero_add _)) fun s=>?_
  have h2:Up s (u) (preC body note t k i ⟨s.n+(u:Nat),s.bef⟩):=by
   obtain ⟨h3,h4⟩:=up_pre body note t k i ⟨s.n+(u:Nat),s.bef⟩ 0;dsimp only at h3 h4;exact ⟨by omega,by omega⟩
  refine h2.and (y:=zItems f+zRows r) (by omega) fun s=>(Up.zero s _ 0).and (Nat.le_of_eq (Nat.zero_add _)) fun s=>?_
  by_cases h6:k=6
  ·rw [if_pos h6];exact (hf s).le (by omega)
  rw [if_neg h6]
  by_cases h7:k=7
  ·rw [if_pos h7]
   unfold rowsC0
   by_cases c1:r.length=0
   ·rw [if_pos c1];exact Up.zero _ _ _
   rw [if_neg c1]
   by_cases c2:256 < r.length
   ·rw [if_pos c2];exact Up.zero _ _ _
   rw [if_neg c2];exact (hr s).le (by omega)
  rw [if_neg h7];exact Up.zero _ _ _
theorem up_row (C:CkP) (note:Bool) (t:Int):∀ (x:RowD) (s:CS),Up s (szR x.dat) (rowC C note t x s)
 | .mk h cs,s=>by
  have hz:=zRow_eq (.mk h cs);have hc:=up_cells C note t cs;rw [rowC_eq];dsimp only [RowD.cells,RowD.head] at hz ⊢;exact (Up.zero s _ 0).and (y:=zCells cs) (by omega) fun s=>hc s
theorem up_cell (C:CkP) (note:Bool) (t:Int):∀ (x:CellD) (s:CS),Up s (szR x.dat) (cellC C note t x s)
 | .mk i h f,s=>by
  have hz:=zCell_eq (.mk i h f);have hf:=up_items C false note t f;rw [cellC_eq];dsimp only [CellD.flow,CellD.head,CellD.id] at hz ⊢;exact (up_id s _ 0).and (y:=zItems f) (by omega) fun s=>(Up.zero s _ 0).and (Nat.le_of_eq (Nat.zero_add _)) fun s=>hf s
theorem up_items (C:CkP) (body note:Bool) (t:Int):∀ (l:List ItemD) (s:CS),Up s (zItems l) (itemsC C body note t l s)
 | [],s=>by rw [itemsC];exact Up.zero _ _ _
 | x :: r,s=>by
  rw [itemsC];exact (up_item C body note t x s).and (y:=zItems r) (by simp only [zItems,List.map_cons,szRs];omega) fun s=>up_items C body note t r s
theorem up_rows (C:CkP) (note:Bool) (t:Int):∀ (l:List RowD) (s:CS),Up s (zRows l) (rowsC C note t l s)
 | [],s=>by rw [rowsC];exact Up.zero _ _ _
 | x :: r,s=>by
  rw [rowsC];exact (up_row C note t x s).and (y:=zRows r) (by simp only [zRows,List.map_cons,szRs];omega) fun s=>up_rows C note t r s
theorem up_cells (C:CkP) (note:Bool) (t:Int):∀ (l:List CellD) (s:CS),Up s (zCells l) (cellsC C note t l s)
 | [],s=>by rw [cellsC];exact Up.zero _ _ _
 | x :: r,s=>by
  rw [cellsC];exact (up_cell C note t x s).and (y:=zCells r) (by simp only [zCells,List.map_cons,szRs];omega) fun s=>up_cells C note t r s
end
/-! ## Item by item -/
/-- The state ahead of the item with an index. -/
def stC {α:Type} (f:α→CS→CR) (l:List α) (s:CS):Nat→CS
 | 0=>s
 | i+1=>match l[i]? with|some x=>(f x (stC f l s i)).2|none=>stC f l s i
def erC {α:Type} (f:α→CS→CR) (l:List α) (s:CS) (i:Nat):Int:=match l[i]? with|some x=>(f x (stC f l s i)).1|none=>0
theorem stC_cons {α:Type} (f:α→CS→CR) (x:α) (l:List α) (s:CS):∀ i,stC f (x :: l) s (i+1)=stC f l (f x s).2 i
 | 0=>rfl
 | i+1=>by
  have ih:=stC_cons f x l s i
  simp only [stC,List.getElem?_cons_succ] at ih ⊢
  rw [ih]
theorem erC_cons {α:Type} (f:α→CS→CR) (x:α) (l:List α) (s:CS) (i:Nat):erC f (x :: l) s (i+1)=erC f l (f x s).2 i:=by
 unfold erC
 simp only [List.getElem?_cons_succ,stC_cons]
theorem allE_succ (E:Nat→Int) (n:Nat):allE E (n+1)=if E 0≠0 then E 0 else allE (fun i=>E (i+1)) n:=by
 unfold allE
 rw [List.range_succ_eq_map,List.map_cons,firstE,List.map_map]
 rfl
theorem items_all (C:CkP) (body note:Bool) (t:Int):∀ (l:List ItemD) (s:CS),(itemsC C body note t l s).1=allE (erC (itemC C body note t) l s) l.length∧((itemsC C body note t l s).1=0→(itemsC C body note t l s).2=stC (itemC C body note t) l s l.length)
 | [],s=>by rw [itemsC];exact ⟨rfl,fun _=>rfl⟩
 | x :: r,s=>by
  obtain ⟨h1,h2⟩:=items_all C body note t r (itemC C body note t x s).2;have e0:erC (itemC C body note t) (x :: r) s 0=(itemC C body note t x s).1:=rfl;rw [itemsC,List.length_cons,allE_succ,e0,stC_cons]
  simp only [erC_cons]
  unfold andT
  split
  ·next h=>exact ⟨rfl,fun h0=>absurd h0 h⟩
  exact ⟨h1,h2⟩
theorem up_st (C:CkP) (body note:Bool) (t:Int) (l:List ItemD) (s:CS):∀ i,i≤l.length→s.n≤(stC (itemC C body note t) l s i).n∧(stC (itemC C body note t) l s i).n+(zItems (l.drop i):Nat)≤s.n+(zItems l:Nat)
 | 0,_=>⟨Int.le_refl _,Int.le_refl _⟩
 | i+1,hi=>by
  have hi':i < l.length:=hi;obtain ⟨h1,h2⟩:=up_st C body note t l s i (by omega)
  have hs:stC (itemC C body note t) l s (i+1)=(itemC C body note t l[i] (stC (itemC C body note t) l s i)).2:=by rw [stC,List.getElem?_eq_getElem hi']
  have hd:zItems (l.drop i)=1+szR l[i].dat+zItems (l.drop (i+1)):=by
   simp only [zItems];rw [List.drop_eq_getElem_cons hi',List.map_cons,szRs]
  obtain ⟨h3,h4⟩:=up_item C body note t l[i] (stC (itemC C body note t) l s i);rw [hs];exact ⟨by omega,by omega⟩
end
section
open Go.RowKit
mutual
/-- The ids in items, in document order. -/
def iItem:ItemD→List Int
 | .mk k _ i _ _ f r=>(if k=6∨k=7 then [i] else [])++((if k=6 then iItems f else [])++(if k=7 then iRows r else []))
def iItems:List ItemD→List Int
 | []=>[]
 | x :: r=>iItem x++iItems r
def iRow:RowD→List Int
 | .mk _ c=>iCells c
def iRows:List RowD→List Int
 | []=>[]
 | x :: r=>iRow x++iRows r
def iCell:CellD→List Int
 | .mk i _ f=>i :: iItems f
def iCells:List CellD→List Int
 | []=>[]
 | x :: r=>iCell x++iCells r
end
end
section
open Go.RowKit
theorem andT_zero {r:CR} {f:CS→CR} {s':CS} (h:andT r f=(0,s')):r.1=0∧f r.2=(0,s'):=by
 unfold andT at h
 split at h
 ·rename_i h1;rw [h] at h1;exact absurd rfl h1
 rename_i h1;exact ⟨Decidable.not_not.1 h1,h⟩
theorem cr_zero {r:CR} (h:r.1=0):r=(0,r.2):=Prod.ext h rfl
/-- Ids b come to a and give c: none twice. -/
structure IdX (a b c:List Int):Prop where
 eq:c=a++b
 nd:a.Nodup→c.Nodup
 pos:∀ i∈b,1≤i∧i≤1073741824
theorem IdX.nil (a:List Int):IdX a [] a:=⟨by simp,fun h=>h,fun i h=>by cases h⟩
theorem IdX.trans {a b c d e:List Int} (h:IdX a b c) (g:IdX c d e):IdX a (b++d) e:=⟨by rw [g.eq,h.eq,List.append_assoc],fun h1=>g.nd (h.nd h1),fun i hi=>(List.mem_append.1 hi).elim (h.pos i) (g.pos i)⟩
theorem IdX.id {a:List Int} {x:Int} (h:idE a x=0):IdX a [x] (idB a x):=by
 unfold idB
 rw [if_pos h]
 unfold idE at h
 by_cases h1:1≤x∧x≤1073741824
 ·rw [if_neg (fun h'=>h' h1)] at h
  by_cases h2:x∈a
  ·rw [if_pos h2] at h;cases h
  exact ⟨rfl,fun h3=>List.nodup_append.2 ⟨h3,by simp,fun u hu v hv=>by rw [List.mem_singleton.1 hv];exact fun e=>h2 (e ▸ hu)⟩,fun i hi=>by rw [List.mem_singleton.1 hi];exact h1⟩
 rw [if_pos h1] at h;cases h
theorem IdX.idC {s s':CS} {x:Int} (h:idC s x=(0,s')):IdX s.bef [x] s'.bef:=by
 unfold Go.Proofs.YthichnnlceeofaaGreat.idC at h
 injection h with h1 h2
 rw [← h2];exact IdX.id h1
theorem pre_ext {body note:Bool} {t k i:Int} {s s':CS} (h:preC body note t k i s=(0,s')):IdX s.bef (if k=6∨k=7 then [i] else []) s'.bef:=by
 unfold preC at h
 by_cases h3:k=3
 ·rw [if_pos h3] at h;injection h with _ h2;rw [if_neg (by omega),← h2];exact IdX.nil _
 rw [if_neg h3] at h
 by_cases h6:k=6
 ·rw [if_pos h6] at h;rw [if_pos (.inl h6)];exact IdX.idC (andT_zero h).2
 rw [if_neg h6] at h
 by_cases h7:k=7
 ·rw [if_pos h7] at h;rw [if_pos (.inr h7)];exact IdX.idC (andT_zero h).2
 rw [if_neg h7] at h;rw [if_neg (by omega)]
 by_cases h8:k=8
 ·rw [if_pos h8] at h;injection h with _ h2;rw [← h2];exact IdX.nil _
 rw [if_neg h8] at h;injection h with _ h2;rw [← h2];exact IdX.nil _
theorem rows0_zero {n:Nat} {f:CS→CR} {s s':CS} (h:rowsC0 n f s=(0,s')):n≠0∧f s=(0,s'):=by
 unfold rowsC0 at h
 split at h
 ·cases h
 rename_i h1
 split at h
 ·cases h
 exact ⟨h1,h⟩
mutual
theorem ext_item (C:CkP) (body note:Bool) (t:Int):∀ (x:ItemD) (s s':CS),itemC C body note t x s=(0,s')→IdX s.bef (iItem x) s'.bef
 | .mk k c i tx h f r,s,s',e=>by
  have hf:=ext_items C false true t f;have hr:=ext_rows C note (t+1) r;rw [itemC] at e;obtain ⟨-,e⟩:=andT_zero e;obtain ⟨e1,e⟩:=andT_zero e;obtain ⟨-,e⟩:=andT_zero e;have h1:=pre_ext (cr_zero e1);rw [iItem];refine h1.trans ?_
  by_cases h6:k=6
  ·rw [if_pos h6] at e ⊢;rw [if_neg (show ¬ k=7 by omega),List.append_nil];exact hf _ _ e
  rw [if_neg h6] at e ⊢;rw [List.nil_append]
  by_cases h7:k=7
  ·rw [if_pos h7] at e ⊢;exact hr _ _ (rows0_zero e).2
  rw [if_neg h7] at e ⊢
  injection e with _ e
  rw [← e];exact IdX.nil _
theorem ext_row (C:CkP) (note:Bool) (t:Int):∀ (x:RowD) (s s':CS),rowC C note t x s=(0,s')→IdX s.bef (iRow x) s'.bef
 | .mk h cs,s,s',e=>by
  have hc:=ext_cells C note t cs;rw [rowC_eq] at e;rw [iRow];exact hc _ _ (andT_zero e).2
theorem ext_cell (C:CkP) (note:Bool) (t:Int):∀ (x:CellD) (s s':CS),cellC C note t x s=(0,s')→IdX s.bef (iCell x) s'.bef
 | .mk i h f,s,s',e=>by
  have hf:=ext_items C false note t f;rw [cellC_eq] at e;dsimp only [CellD.id,CellD.head,CellD.flow] at e;obtain ⟨e1,e⟩:=andT_zero e;have h1:=IdX.idC (s':=(idC s i).2) (Prod.ext e1 rfl);rw [iCell];exact h1.trans (hf _ _ (andT_zero e).2)
theorem ext_items (C:CkP) (body note:Bool) (t:Int):∀ (l:List ItemD) (s s':CS),itemsC C body note t l s=(0,s')→IdX s.bef (iItems l) s'.bef
 | [],s,s',e=>by rw [itemsC] at e;injection e with _ e;rw [← e];exact IdX.nil _
 | x :: r,s,s',e=>by
  rw [itemsC] at e;obtain ⟨e1,e⟩:=andT_zero e;rw [iItems];exact (ext_item C body note t x s _ (Prod.ext e1 rfl)).trans (ext_items C body note t r _ _ e)
theorem ext_rows (C:CkP) (note:Bool) (t:Int):∀ (l:List RowD) (s s':CS),rowsC C note t l s=(0,s')→IdX s.bef (iRows l) s'.bef
 | [],s,s',e=>by rw [rowsC] at e;injection e with _ e;rw [← e];exact IdX.nil _
 | x :: r,s,s',e=>by
  rw [rowsC] at e;obtain ⟨e1,e⟩:=andT_zero e;rw [iRows];exact (ext_row C note t x s _ (Prod.ext e1 rfl)).trans (ext_rows C note t r _ _ e)
theorem ext_cells (C:CkP) (note:Bool) (t:Int):∀ (l:List CellD) (s s':CS),cellsC C note t l s=(0,s')→IdX s.bef (iCells l) s'.bef
 | [],s,s',e=>by rw [cellsC] at e;injection e with _ e;rw [← e];exact IdX.nil _
 | x :: r,s,s',e=>by
  rw [cellsC] at e;obtain ⟨e1,e⟩:=andT_zero e;rw [iCells];exact (ext_cell C note t x s _ (Prod.ext e1 rfl)).trans (ext_cells C note t r _ _ e)
end
/-! ## What a valid flow is made of -/
def OkL (l:List ItemD):Prop:=∃ (C:CkP) (body note:Bool) (t:Int) (s s':CS),itemsC C body note t l s=(0,s')
structure OkX (x:ItemD):Prop where
 txt:validS x.text=true
 kd:1≤x.kind∧x.kind≤8
 rw0:x.kind≠7→x.rows=[]
 fl0:x.kind≠6→x.flow=[]
 fl:OkL x.flow
 rw:∀ r∈x.rows,∀ c∈r.cells,OkL c.flow
theorem okL_nil:OkL []:=⟨⟨[],[],[]⟩,false,false,0,⟨0,[]⟩,⟨0,[]⟩,by rw [itemsC]⟩
theorem form_ok {x:ItemD} (h:formE x=0):validS x.text=true∧(1≤x.kind∧x.kind≤8)∧(x.kind≠7→x.rows=[])∧(x.kind≠6→x.flow=[]):=by
 unfold formE at h
 split at h
 ·cases h
 rename_i h1
 split at h
 ·cases h
 rename_i h2
 split at h
 ·cases h
 rename_i h3
 have hk:decide (1≤x.kind∧x.kind≤8)=true:=by
  cases hd:decide (1≤x.kind∧x.kind≤8)
  ·rw [hd] at h1;exact absurd rfl h1
  rfl
 refine ⟨by simpa using h3,of_decide_eq_true hk,fun h7=>?_,fun h6=>?_⟩
 ·rw [Bool.not_eq_true] at h2
  unfold fmtB at h2
  simp only [Bool.or_eq_false_iff] at h2
  have h4:=h2.2;rw [decide_eq_true h7,Bool.true_and,decide_eq_false_iff_not] at h4;exact List.length_eq_zero_iff.1 (by omega)
 rw [Bool.not_eq_true] at h2
 unfold fmtB at h2
 simp only [Bool.or_eq_false_iff] at h2
 have h4:=h2.1.2;rw [decide_eq_true h6,Bool.true_and,decide_eq_false_iff_not] at h4;exact List.length_eq_zero_iff.1 (by omega)
theorem cells_ok {C:CkP} {note:Bool} {t:Int}:∀ {l:List CellD} {s s':CS},cellsC C note t l s=(0,s')→∀ c∈l,OkL c.flow
 | [],_,_,_,_,h=>by cases h
 | x :: r,s,s',e,c,h=>by
  rw [cellsC] at e;obtain ⟨e1,e⟩:=andT_zero e
  rcases List.mem_cons.1 h with rfl|h
  ·have e2:cellC C note t c s=(0,(cellC C note t c s).2):=Prod.ext e1 rfl
   generalize (cellC C note t c s).2=s2 at e2
   rw [cellC_eq] at e2;exact ⟨C,false,note,t,_,_,(andT_zero (andT_zero e2).2).2⟩
  exact cells_ok e c h
theorem rows_okc {C:CkP} {note:Bool} {t:Int}:∀ {l:List RowD} {s s':CS},rowsC C note t l s=(0,s')→∀ r∈l,∀ c∈r.cells,OkL c.flow
 | [],_,_,_,_,h=>by cases h
 | x :: r,s,s',e,q,h=>by
  rw [rowsC] at e;obtain ⟨e1,e⟩:=andT_zero e
  rcases List.mem_cons.1 h with rfl|h
  ·have e2:rowC C note t q s=(0,(rowC C note t q s).2):=Prod.ext e1 rfl
   generalize (rowC C note t q s).2=s2 at e2
   rw [rowC_eq] at e2;exact cells_ok (andT_zero e2).2
  exact rows_okc e q h
theorem OkL.head {x:ItemD} {l:List ItemD} (h:OkL (x :: l)):OkX x∧OkL l:=by
 obtain ⟨C,body,note,t,s,s',e⟩:=h;rw [itemsC] at e;obtain ⟨e1,e⟩:=andT_zero e;have e2:itemC C body note t x s=(0,(itemC C body note t x s).2):=Prod.ext e1 rfl
 generalize (itemC C body note t x s).2=s2 at e2
 refine ⟨?_,⟨C,body,note,t,_,_,e⟩⟩;rw [itemC_eq] at e2;obtain ⟨f1,e2⟩:=andT_zero e2;(iterate 2 obtain ⟨-,e2⟩:=andT_zero e2);obtain ⟨h1,h2,h3,h4⟩:=form_ok f1;refine ⟨h1,h2,h3,h4,?_,?_⟩
 ·by_cases h6:x.kind=6
  ·rw [if_pos h6] at e2;exact ⟨_,_,_,_,_,_,e2⟩
  rw [h4 h6];exact okL_nil
 by_cases h7:x.kind=7
 ·rw [if_neg (by omega),if_pos h7] at e2;exact rows_okc (rows0_zero e2).2
 rw [h3 h7];exact fun _ h=>by cases h
theorem OkL.tail {x:ItemD} {l:List ItemD} (h:OkL (x :: l)):OkL l:=h.head.2
theorem OkL.mem:∀ {l:List ItemD} {x:ItemD},OkL l→x∈l→OkX x
 | y :: l,x,h,hx=>by
  rcases List.mem_cons.1 hx with rfl|hx
  ·exact h.head.1
  exact OkL.mem h.head.2 hx
theorem OkX.e {x:ItemD} (h:OkX x):unitsE x=0:=by unfold unitsE utfS;rw [if_pos h.txt];split <;> rfl
theorem OkX.n1 {x:ItemD} (h:OkX x):n1 x=unitsS x:=by unfold Go.Proofs.YthichnnlceeofaaGreat.n1;rw [if_pos h.e]
theorem OkL.div {l:List ItemD} (h:OkL l):divS l=true:=by
 unfold divS
 rw [List.all_eq_true];exact fun x hx=>decide_eq_true (h.mem hx).e
theorem OkL.len {l:List ItemD} (h:OkL l):lenS l=sumS l:=by unfold lenS;rw [if_pos h.div]
/-! ## Which positions there are -/
def InF (f t:Int) (L:List FlowD):Prop:=∃ F∈L,F.id=f∧0≤t∧t≤lenS F.items
theorem inF_nil {f t:Int}:InF f t []↔False:=⟨fun ⟨_,h,_⟩=>(by cases h),False.elim⟩
theorem inF_app {f t:Int} {L M:List FlowD}:InF f t (L++M)↔InF f t L∨InF f t M:=by
 unfold InF
 constructor
 ·rintro ⟨F,h,r⟩
  rcases List.mem_append.1 h with h|h
  ·exact .inl ⟨F,h,r⟩
  exact .inr ⟨F,h,r⟩
 rintro (⟨F,h,r⟩|⟨F,h,r⟩)
 ·exact ⟨F,List.mem_append.2 (.inl h),r⟩
 exact ⟨F,List.mem_append.2 (.inr h),r⟩
theorem inF_cons {f t:Int} {F:FlowD} {L:List FlowD}:InF f t (F :: L)↔(F.id=f∧0≤t∧t≤lenS F.items)∨InF f t L:=by
 unfold InF
 constructor
 ·rintro ⟨E,h,r⟩
  rcases List.mem_cons.1 h with rfl|h
  ·exact .inl r
  exact .inr ⟨E,h,r⟩
 rintro (r|⟨E,h,r⟩)
 ·exact ⟨F,List.mem_cons_self,r⟩
 exact ⟨E,List.mem_cons_of_mem _ h,r⟩
mutual
theorem mem_item (g:Int) (at_:Nat) (note:Bool) (tt f t:Int):∀ x:ItemD,OkX x→((f,t)∈vItem g at_ x↔(g=f∧(at_:Int)≤t∧t < at_+unitsS x)∨InF f t (wItem note tt x))
 | .mk k c i tx h fl r,hx=>by
  have hf:=mem_items i 0 true tt f t fl hx.fl;have hr:=mem_rows note tt f t r hx.rw;have hn:=hx.n1;have h0:=hx.rw0;have hl:=hx.fl.len;rw [vItem,wItem,hn]
  simp only [ItemD.kind,ItemD.rows,ItemD.flow] at h0 hl
  generalize unitsS (.mk k c i tx h fl r)=u
  have h1:(f,t)∈(List.range u).map (fun q=>(g,((at_+q:Nat):Int)))↔(g=f∧(at_:Int)≤t∧t < at_+u):=by
   rw [List.mem_map]
   constructor
   ·rintro ⟨q,hq,e⟩
    injection e with e1 e2
    have:=List.mem_range.1 hq;exact ⟨e1,by omega,by omega⟩
   rintro ⟨e,h2,h3⟩;exact ⟨(t - at_).toNat,List.mem_range.2 (by omega),by rw [e];exact Prod.ext rfl (by simp only;omega)⟩
  rw [List.mem_append,List.mem_append,h1];refine or_congr Iff.rfl ?_
  by_cases h6:k=6
  ·rw [if_pos h6,if_pos h6,h0 (by omega),hf,inF_cons]
   simp only [vRows,List.not_mem_nil,or_false,hl]
   constructor
   ·rintro (⟨e,h2,h3⟩|h2)
    ·exact .inl ⟨e,by omega,by omega⟩
    exact .inr h2
   rintro (⟨e,h2,h3⟩|h2)
   ·exact .inl ⟨e,by omega,by omega⟩
   exact .inr h2
  rw [if_neg h6,if_neg h6]
  by_cases h7:k=7
  ·rw [if_pos h7,hr];simp
  rw [if_neg h7,h0 h7,inF_nil];simp [vRows]
theorem mem_items (g:Int) (at_:Nat) (note:Bool) (tt f t:Int):∀ l:List ItemD,OkL l→((f,t)∈vItems g at_ l↔(g=f∧(at_:Int)≤t∧t≤at_+sumS l)∨InF f t (wItems note tt l))
 | [],_=>by
  rw [vItems,wItems,inF_nil,List.mem_singleton]
  constructor
  ·intro e;injection e with e1 e2;exact .inl ⟨e1.symm,by omega,by simp only [sumS];omega⟩
  rintro (⟨e,h2,h3⟩|h)
  ·simp only [sumS] at h3;rw [e];exact Prod.ext rfl (by simp only;omega)
  exact h.elim
 | x :: l,hl=>by
  obtain ⟨hx,hl⟩:=hl.head;have h1:=mem_item g at_ note tt f t x hx;have h2:=mem_items g (at_+n1 x) note tt f t l hl;rw [vItems,wItems,List.mem_append,h1,h2,inF_app,hx.n1]
  simp only [sumS]
  constructor
  ·rintro ((⟨e,h3,h4⟩|h3)|(⟨e,h3,h4⟩|h3))
   ·exact .inl ⟨e,by omega,by omega⟩
   ·exact .inr (.inl h3)
   ·exact .inl ⟨e,by omega,by omega⟩
   exact .inr (.inr h3)
  rintro (⟨e,h3,h4⟩|(h3|h3))
  ·by_cases hlt:t < at_+unitsS x
   ·exact .inl (.inl ⟨e,h3,hlt⟩)
   exact .inr (.inl ⟨e,by omega,by omega⟩)
  ·exact .inl (.inr h3)
  exact .inr (.inr h3)
theorem mem_row (note:Bool) (tt f t:Int):∀ x:RowD,(∀ c∈x.cells,OkL c.flow)→((f,t)∈vRow x↔InF f t (wRow note tt x))
 | .mk h cs,hx=>by
  have hc:=mem_cells note tt f t cs hx;rw [vRow,wRow];exact hc
theorem mem_rows (note:Bool) (tt f t:Int):∀ l:List RowD,(∀ r∈l,∀ c∈r.cells,OkL c.flow)→((f,t)∈vRows l↔InF f t (wRows note tt l))
 | [],_=>by rw [vRows,wRows,inF_nil];simp
 | x :: l,hx=>by
  have h1:=mem_row note tt f t x (hx x List.mem_cons_self);have h2:=mem_rows note tt f t l (fun r hr=>hx r (List.mem_cons_of_mem _ hr));rw [vRows,wRows,List.mem_append,h1,h2,inF_app]
theorem mem_cell (note:Bool) (tt f t:Int):∀ x:CellD,OkL x.flow→((f,t)∈vCell x↔InF f t (wCell note tt x))
 | .mk i h fl,hx=>by
  have h1:=mem_items i 0 note (tt+1) f t fl hx;have hl:=hx.len
  simp only [CellD.flow] at hl
  rw [vCell,wCell,h1,inF_cons]
  simp only [hl]
  refine or_congr ?_ Iff.rfl
  constructor
  ·rintro ⟨e,h2,h3⟩;exact ⟨e,by omega,by omega⟩
  rintro ⟨e,h2,h3⟩;exact ⟨e,by omega,by omega⟩
theorem mem_cells (note:Bool) (tt f t:Int):∀ l:List CellD,(∀ c∈l,OkL c.flow)→((f,t)∈vCells l↔InF f t (wCells note tt l))
 | [],_=>by rw [vCells,wCells,inF_nil];simp
 | x :: l,hx=>by
  have h1:=mem_cell note tt f t x (hx x List.mem_cons_self);have h2:=mem_cells note tt f t l (fun r hr=>hx r (List.mem_cons_of_mem _ hr));rw [vCells,wCells,List.mem_append,h1,h2,inF_app]
end
theorem mem_pos {l:List ItemD} (h:OkL l) (f t:Int):(f,t)∈vItems 0 0 l↔InF f t (flowsD l):=by
 rw [mem_items 0 0 false 0 f t l h,flowsD,inF_cons,h.len];refine or_congr ?_ Iff.rfl
 constructor
 ·rintro ⟨e,h2,h3⟩;exact ⟨e,by omega,by omega⟩
 rintro ⟨e,h2,h3⟩;exact ⟨e,by omega,by omega⟩
/-! ## The flows' ids -/
mutual
theorem wid_item (note:Bool) (t:Int):∀ x:ItemD,((wItem note t x).map FlowD.id).Sublist (iItem x)
 | .mk k c i tx h f r=>by
  have hf:=wid_items true t f;have hr:=wid_rows note t r;rw [wItem,iItem]
  by_cases h6:k=6
  ·rw [if_pos h6,if_pos (.inl h6),if_pos h6,if_neg (by omega),List.append_nil];exact List.Sublist.cons_cons _ hf
  rw [if_neg h6,if_neg h6,List.nil_append]
  by_cases h7:k=7
  ·rw [if_pos h7,if_pos h7,if_pos (.inr h7)];exact List.Sublist.cons _ hr
  rw [if_neg h7];exact List.nil_sublist _
theorem wid_items (note:Bool) (t:Int):∀ l:List ItemD,((wItems note t l).map FlowD.id).Sublist (iItems l)
 | []=>by rw [wItems];exact List.nil_sublist _
 | x :: l=>by
  rw [wItems,iItems,List.map_append];exact (wid_item note t x).append (wid_items note t l)
theorem wid_row (note:Bool) (t:Int):∀ x:RowD,((wRow note t x).map FlowD.id).Sublist (iRow x)
 | .mk h cs=>by rw [wRow,iRow];exact wid_cells note t cs
theorem wid_rows (note:Bool) (t:Int):∀ l:List RowD,((wRows note t l).map FlowD.id).Sublist (iRows l)
 | []=>by rw [wRows];exact List.nil_sublist _
 | x :: l=>by
  rw [wRows,iRows,List.map_append];exact (wid_row note t x).append (wid_rows note t l)
theorem wid_cell (note:Bool) (t:Int):∀ x:CellD,((wCell note t x).map FlowD.id).Sublist (iCell x)
 | .mk i h f=>by rw [wCell,iCell];exact List.Sublist.cons_cons _ (wid_items note (t+1) f)
theorem wid_cells (note:Bool) (t:Int):∀ l:List CellD,((wCells note t l).map FlowD.id).Sublist (iCells l)
 | []=>by rw [wCells];exact List.nil_sublist _
 | x :: l=>by
  rw [wCells,iCells,List.map_append];exact (wid_cell note t x).append (wid_cells note t l)
end
/-- A valid document: all ids differ, none is that of the body. -/
structure OkDoc (l:List ItemD):Prop where
 ok:OkL l
 nd:(iItems l).Nodup
 pos:∀ i∈iItems l,1≤i∧i≤1073741824
theorem OkDoc.of {C:CkP} {body note:Bool} {t n:Int} {l:List ItemD} {s':CS} (h:itemsC C body note t l ⟨n,[]⟩=(0,s')):OkDoc l:=by
 have he:=ext_items C body note t l _ _ h;have hn:=he.nd List.nodup_nil;rw [he.eq] at hn;exact ⟨⟨C,body,note,t,_,_,h⟩,by simpa using hn,he.pos⟩
theorem OkDoc.ids {l:List ItemD} (h:OkDoc l):((flowsD l).map FlowD.id).Nodup:=by
 have hs:=wid_items false 0 l;rw [flowsD,List.map_cons,List.nodup_cons];exact ⟨fun hm=>by have:=h.pos _ (hs.subset hm);dsimp only at this;omega,hs.nodup h.nd⟩
theorem find_id {L:List FlowD} (hn:(L.map FlowD.id).Nodup) {F:FlowD} (hF:F∈L):L.find? (fun f=>decide (f.id=F.id))=some F:=by
 induction L with
 | nil=>cases hF
 | cons E L ih =>
  rw [List.map_cons,List.nodup_cons] at hn;rw [List.find?_cons]
  rcases List.mem_cons.1 hF with rfl|hF
  ·simp
  have:E.id≠F.id:=fun e=>hn.1 (e ▸ List.mem_map_of_mem hF);rw [decide_eq_false this];exact ih hn.2 hF
/-- A position is right just if it is one of the positions. -/
theorem chk_mem {l:List ItemD} (h:OkDoc l) (f t:Int):chkR l f t t=0↔(f,t)∈vItems 0 0 l:=by
 rw [mem_pos h.ok]
 unfold chkR flowOf
 constructor
 ·intro hc
  cases hf:(flowsD l).find? fun x=>decide (x.id=f) with
  | none=>rw [hf] at hc;simp at hc
  | some F =>
   rw [hf] at hc;have hid:=List.find?_some hf
   simp only [decide_eq_true_eq] at hid
   simp only [Option.map_some,Option.isSome_some,if_true,Option.getD_some] at hc
   by_cases hq:t < 0∨t < t∨lenS F.items < t
   ·rw [if_pos hq] at hc;cases hc
   exact ⟨F,List.mem_of_find?_eq_some hf,hid,by omega,by omega⟩
 rintro ⟨F,hF,hid,h0,h1⟩;have hf:=find_id h.ids hF;rw [hid] at hf;rw [hf]
 simp only [Option.map_some,Option.isSome_some,if_true,Option.getD_some]
 rw [if_neg (by omega)]
end
section
open Go.RowKit
theorem un41pth:Tryz.prog.underlying 41=some (.slice 45):=by kernel_rfl
theorem en34pth:∀ args w,(callFunc 34 args).run Tryz.prog w=.ok (.enter 34 args) w:=enters Tryz.func34 rfl (by kernel_rfl)
theorem en35pth:∀ args w,(callFunc 35 args).run Tryz.prog w=.ok (.enter 35 args) w:=enters Tryz.func35 rfl (by kernel_rfl)
theorem en18pth:∀ args w,(callFunc 18 args).run Tryz.prog w=.ok (.enter 18 args) w:=enters Tryz.func18 rfl (by kernel_rfl)
/-- The way from a flow to the body, as far as a number of steps leads. -/
def pathN (l:List ItemD):Nat→Int→Option (Option (List (Int × Int)))
 | 0,_=>none
 | n+1,f=>if f=0 then some (some []) else match placeS l f with
  | none=>some none
  | some p=>match pathN l n p.1 with
   | none=>none
   | some r=>some (r.map (p :: ·))
def posD (p:Int × Int):List Dat:=[li p.1,li p.2]
/-- A slice of at most one element is its own reverse. -/
theorem reverse_one (G:GH) (w0:World) (hG:Hold G w0) (A:Option Addr) (n c:Nat) (hn:n≤1) :
  Calls Tryz.prog 35 #[.slice A n c] w0 (Ret w0 G fun _ G'=>G=G'):=by
 refine eN [(0,_)] Tryz.func35 rfl Tryz.ntmps35 rfl rfl hG ?_;intro a H;refine kP H (SR fun _ K1=>Rm rfl (Rl un41pth rfl (Rs rfl (Ra rfl (Ra rfl (Kz K1 (SB ?_)))))));clear H K1;intro a H;skip;refine c_loopS (ι:=Unit) (Tc:=[(0,_)]) (Lc:=[]) (fun (gh:Unit)=>[(2,vi 0),(3,vi ((n:Int) - 1))]) (fun (gh:Unit)=>[]) (fun (gh:Unit)=>G) (fun (gh:Unit)=>True) (fun (gh:Unit)=>0) (()) (by exact (H).sub ⟨rfl,rfl,rfl,trivial⟩) ?_ ?_
 ·trivial
 clear H;intro gh a w hI H;obtain ⟨u,hgh⟩:∃ x,x=gh:=⟨_,rfl⟩;subst hgh;skip;dsimp only [List.cons_append,List.nil_append,List.append_nil] at H;refine kP H (SQ fun _ K2=>SR fun _ K3=>Rm rfl (Rm rfl (Rc rfl (Kz K3 ?_))));clear H K3;intro a H;refine c_cond H rfl ?_ ?_
 ·intro h9
  try have p9:=dT h9
  exact absurd p9 (by omega)
 intro h9
 try have p9:=dF h9
 refine c_exit ?_;refine (leave0 H Tryz.results35 ?_).2;exact H.hp.ret rfl
theorem path_spec (G:GH) (w0:World) (hG:Hold G w0) (D:DocV) (l:List ItemD) (flow:Int) (hv:RepV G (.sl 11 (l.map ItemD.dat)) (sl3 D.f)) (hz:zItems l≤4294967296) (n:Nat) (hn:n≤4294967296) (res:Option (List (Int × Int))) (hp:pathN l n flow=some res) (h1:∀ ps,res=some ps→ps.length≤1) :
  Calls Tryz.prog 18 #[D.val,vi flow] w0 (Ret w0 G fun u G'=>∃ v,u=.tuple #[v,vi (if (flowOf l flow).isSome=true then (if res.isSome=true then 0 else 8) else 8)]∧RepV G' (.sl 2 ((if (flowOf l flow).isSome=true then res.getD [] else []).map posD)) v):=by
 have hml:4294967297≤maxLen:=by decide
 refine eN [(0,_),(1,_)] Tryz.func18 rfl Tryz.ntmps18 rfl rfl hG ?_;intro a H;refine c_seqR (fun _ K1=>?_);refine s_box (cs:=[_,_,_,_,_,_,_,_,_,_,_]) H wn rfl rfl rfl ?_;clear H;intro b2 a w hb2 H;refine kH H (Ra rfl (Ra rfl (Kz K1 (SQ fun _ K2=>SR fun _ K3=>?_))));clear H K1;intro a H;refine s_loada ty38pq (cs:=[_,_,_,_,_,_,_,_,_,_,_]) H wn rfl rfl (H.hp.ocells 0 rfl rfl) rfl ?_;clear H;intro a H;refine kH H (Rm rfl ?_);clear H;intro a H;refine s_call en31dq H wn rfl (flow_spec _ _ H.hp.ro D l flow hv hz) rfl ?_;clear H;rintro v14 G14 a w ⟨v,rfl,hr⟩ hm14 H;refine kH H (Rm rfl ?_);clear H;intro a H;(iterate 2 refine s_extract H wn rfl rfl rfl ?_;clear H;intro a H);refine kH H (Ra rfl (Ra rfl (Kz K3 (SR fun _ K4=>Rm rfl (Rn rfl (Kz K4 ?_))))));clear H K3 K4;intro a H;refine c_cond H rfl ?_ ?_
 ·intro h18
  try have p18:=dT h18
  refine kP H (SR fun _ K5=>Ra rfl (Ra rfl (Kz K5 ?_)));clear H K5;intro a H;refine c_ret ?_;refine (leaveT H Tryz.results18 (.cons (rv_tmp H rfl) (.cons (rv_tmp H rfl) .nil)) ?_).1;exact H.hp.ret ⟨_,by rw [if_neg (by simpa using h18)],by rw [if_neg (by simpa using h18)];exact RepV.nil_ rfl (by decide)⟩
 intro h18
 try have p18:=dF h18
 refine kP H (Kc K2 (SR fun _ K6=>Ra rfl (Kz K6 (SQ fun _ K7=>SB ?_))));clear H K2 K6;intro a H;skip;refine c_loopS (ι:=Nat × Int × List (Int × Int) × Value × List Value × OL × GH) (Tc:=[(2,_)]) (Lc:=[(_,_)]) (fun (gh:Nat × Int × List (Int × Int) × Value × List Value × OL × GH)=>[(1,vi gh.2.1),(8,gh.2.2.2.1)]) (fun (gh:Nat × Int × List (Int × Int) × Value × List Value × OL × GH)=>[]++gh.2.2.2.2.2.1) (fun (gh:Nat × Int × List (Int × Int) × Value × List Value × OL × GH)=>gh.2.2.2.2.2.2) (fun (gh:Nat × Int × List (Int × Int) × Value × List Value × OL × GH)=>(∀ b o,G14 b=some o→gh.2.2.2.2.2.2 b=some o)∧IsRow 45 2 gh.2.2.2.1 gh.2.2.1.length gh.2.2.2.2.1 gh.2.2.2.2.2.1∧RepCat gh.2.2.2.2.2.2 2 (gh.2.2.1.map posD) gh.2.2.2.2.1∧(∃ r,pathN l gh.1 gh.2.1=some r∧res=r.map (gh.2.2.1++·))∧gh.1+gh.2.2.1.length≤n) (fun (gh:Nat × Int × List (Int × Int) × Value × List Value × OL × GH)=>gh.1) ((n,flow,[],.slice none 0 0,[],[],G14)) (by exact (H).sub ⟨rfl,rfl,rfl,trivial⟩) ?_ ?_
 ·exact ⟨fun _ _ h=>h,IsRow.nil,RepCat.nil,⟨res,hp,by cases res <;> simp⟩,by simp⟩
 clear H;intro gh a w hI H;obtain ⟨k,f,ps,v8,xs,Lo,g⟩:=gh;dsimp only at hI H;obtain ⟨hgm,hrw,hcat,⟨r,hr1,hr2⟩,hkn⟩:=hI
 obtain ⟨k2,rfl⟩:∃ k2,k=k2+1:=by cases k with|zero=>simp [pathN] at hr1|succ k=>exact ⟨k,rfl⟩
 rw [pathN] at hr1;dsimp only [List.cons_append,List.nil_append,List.append_nil] at H;refine kP H (SQ fun _ K8=>SR fun _ K9=>Rm rfl (Rc rfl (Kz K9 ?_)));clear H K9;intro a H;refine c_cond H rfl ?_ ?_
 ·intro h20
  try have p20:=dT h20
  refine kP H (Kc K8 (SB (SR fun _ K10=>?_)));clear H K8;intro a H;refine s_loada ty38pq (cs:=[_,_,_,_,_,_,_,_,_,_,_]) H wn rfl rfl (H.hp.ocells 0 rfl rfl) rfl ?_;clear H;intro a H;refine kH H (Rm rfl ?_);clear H;intro a H;refine s_call en34pth H wn rfl (place_spec _ _ H.hp.ro D l f (hv.mono fun b o h=>hgm b o (hm14 b o h)) hz) rfl ?_;clear H;rintro v24 G24 a w rfl hm24 H;refine kH H (Rm rfl ?_);clear H;intro a H;(iterate 2 refine s_extract H wn rfl rfl rfl ?_;clear H;intro a H);refine s_alloc ty45pq H wn rfl ?_;clear H;intro b9 a w hb9 H;refine s_store ty45pq 0 (vs:=[_,_]) _ H wn rfl rfl rfl rfl rfl rfl rfl rfl ?_;clear H;intro w H;dsimp only [List.set,setRow] at H;refine kH H (Ra rfl (Kz K10 (SQ fun _ K11=>SR fun _ K12=>Rm rfl (Rn rfl (Kz K12 ?_)))));clear H K10 K12;intro a H;refine c_cond H rfl ?_ ?_
  ·intro h28
   try have p28:=dT h28
   refine kP H (SR fun _ K13=>Ra rfl (Ra rfl (Kz K13 ?_)));clear H K13;intro a H;refine c_ret ?_;refine (leaveT H Tryz.results18 (.cons (rv_tmp H rfl) (.cons (rv_tmp H rfl) .nil)) ?_).1
   have hpn:placeS l f=none:=by simpa using h28
   rw [if_neg p20,hpn] at hr1
   simp only [Option.some.injEq] at hr1
   subst hr1
   simp only [Option.map_none] at hr2
   exact H.hp.ret ⟨_,by rw [hr2];split <;> rfl,by rw [hr2];split <;> exact RepV.nil_ rfl (by decide)⟩
  intro h28
  try have p28:=dF h28
  refine kP H (Kc K11 (SR fun _ K14=>Rm rfl ?_));clear H K11;intro a H;refine s_loada ty45pq (cs:=[_,_]) H wn rfl rfl (H.hp.ocells 0 rfl rfl) rfl ?_;clear H;intro a H;refine s_buildSlice un41pth ty45pq [_,_] [_,_] H wn rfl rfl rfl rfl rfl (by intro i q h;match i,h with|0,h=>exact h|n+1,h=>simp at h) rfl rfl ?_;clear H;intro b31 a w hb31 H;refine s_append (Li:=[_,_,_]) (Lo:=Lo) (news:=[vi ((placeS l f).getD (0,0)).1,vi ((placeS l f).getD (0,0)).2]) un41pth ty45pq rfl rfl H wn rfl rfl hrw rfl (H.hp.ocells 0 rfl rfl) rfl (by omega) (by omega) rfl ?_;clear H;intro v32 Lo32 a w hrw32 H;refine kH H (Ra rfl (Kz K14 (SC (Rf fd45_0dq rfl (Ro ty3run 1 rfl rfl (Ra rfl ?_))))));clear H K14;intro a H;refine wl_nil ?_;refine loop_end ((k2,((placeS l f).getD (0,0)).1,ps++[(placeS l f).getD (0,0)],v32,xs++[vi ((placeS l f).getD (0,0)).1,vi ((placeS l f).getD (0,0)).2],Lo32,G24)) (by exact (H.pickT (Pl:=[_,_,_]) (Pl':=[_]) [2] (by decide) rfl).sub ⟨rfl,rfl,rfl,trivial⟩) ?_ ?_
  ·(try dsimp only);refine ⟨fun b o h=>hm24 b o (hgm b o h),by simpa using hrw32,?_,?_,by simp;omega⟩
   ·rw [List.map_append];exact (hcat.mono hm24).snoc ⟨_,_,rfl,⟨rfl,rfl⟩,_,_,rfl,⟨rfl,rfl⟩,rfl⟩ rfl
   obtain ⟨p,hpp⟩:=Option.isSome_iff_exists.1 (by simpa using h28:(placeS l f).isSome=true);rw [hpp] at hr1 ⊢
   simp only [if_neg p20] at hr1
   cases hq:pathN l k2 p.1 with
   | none=>rw [hq] at hr1;cases hr1
   | some r2=>rw [hq] at hr1;simp only [Option.some.injEq] at hr1;subst hr1;exact ⟨r2,by simpa using hq,by rw [hr2];cases r2 <;> simp⟩
  first|omega|(dsimp only;omega)
 intro h20
 try have p20:=dF h20
 have hf0:f=0:=Decidable.not_not.1 p20;rw [if_pos hf0] at hr1
 simp only [Option.some.injEq] at hr1
 subst hr1
 simp only [Option.map_some,List.append_nil] at hr2
 obtain ⟨Gr,hmr,hrep,H⟩:=St.giveRow (Li:=[_]) H hrw (rows:=ps.map posD) (by simp) hcat;obtain ⟨vA,vn,vc,rfl⟩:=hrep.form;have hvn:=hrep.len;rw [List.length_map] at hvn;have hps1:=h1 ps hr2;refine c_exit ?_;refine K7 _ _ ?_;clear K7;refine kP H (SR fun _ K15=>Rm rfl ?_);clear H;intro a H;refine s_call en35pth H wn rfl (reverse_one _ _ H.hp.ro _ _ _ (by omega)) rfl ?_;clear H;rintro v36 G36 a w rfl hm36 H;refine K15 _ _ ?_;clear K15;refine kP H (SR fun _ K16=>Rm rfl (Ra rfl (Ra rfl (Kz K16 ?_))));clear H K16;intro a H;refine c_ret ?_;refine (leaveT H Tryz.results18 (.cons (rv_tmp H rfl) (.cons (rv_tmp H rfl) .nil)) ?_).1
 have hfs:(flowOf l flow).isSome=true:=by simpa using h18
 exact H.hp.ret ⟨_,by rw [if_pos hfs,hr2];rfl,by rw [if_pos hfs,hr2];exact hrep⟩
theorem posD_row {G:GH} {p:Int × Int} {cs:List Value} (h:RepRow G (posD p) cs):cs=[vi p.1,vi p.2]:=by
 simp only [posD,RepRow,RepV] at h
 obtain ⟨v1,_,rfl,⟨rfl,-⟩,v2,_,rfl,⟨rfl,-⟩,rfl⟩:=h
 rfl
/-- What Lift gives, from the way to the body. -/
def liftS (l:List ItemD) (f t flow:Int) (ps:List (Int × Int)):Option Int :=
 if chkR l f t t=0 then if f=flow then some t else (ps.find? fun q=>decide (q.1=flow)).map (·.2) else none
theorem lift_spec (G:GH) (w0:World) (hG:Hold G w0) (D:DocV) (l:List ItemD) (f t flow:Int) (hv:RepV G (.sl 11 (l.map ItemD.dat)) (sl3 D.f)) (hz:zItems l≤4294967296) (n:Nat) (hn:n≤4294967296) (res:Option (List (Int × Int))) (hp:pathN l n f=some res) (h1:∀ ps,res=some ps→ps.length≤1) :
  Calls Tryz.prog 19 #[D.val,.agg #[vi f,vi t],vi flow] w0 (Ret w0 G fun u G'=>u=.tuple #[vi ((liftS l f t flow (if (flowOf l f).isSome=true then res.getD [] else [])).getD 0),.bool (liftS l f t flow (if (flowOf l f).isSome=true then res.getD [] else [])).isSome]):=by
 have hps:(if (flowOf l f).isSome=true then res.getD [] else []).length≤1:=by
  split
  ·cases res with
   | none=>simp
   | some ps=>exact h1 ps rfl
  simp
 obtain ⟨ps,hpe⟩:∃ ps,ps=(if (flowOf l f).isSome=true then res.getD [] else []):=⟨_,rfl⟩;rw [← hpe] at hps ⊢;refine eN [(0,_),(1,_),(2,_)] Tryz.func19 rfl Tryz.ntmps19 rfl rfl hG ?_;intro a H;refine c_seqR (fun _ K1=>?_);refine s_box (cs:=[_,_,_,_,_,_,_,_,_,_,_]) H wn rfl rfl rfl ?_;clear H;intro b3 a w hb3 H;refine s_box (cs:=[_,_]) H wn rfl rfl rfl ?_;clear H;intro b4 a w hb4 H;refine kH H (Ra rfl (Ra rfl (Kz K1 (SQ fun _ K2=>SR fun _ K3=>?_))));clear H K1;intro a H;refine s_loada ty38pq (cs:=[_,_,_,_,_,_,_,_,_,_,_]) H wn rfl rfl (H.hp.ocells 1 rfl rfl) rfl ?_;clear H;intro a H;refine s_loada ty45pq (cs:=[_,_]) H wn rfl rfl (H.hp.ocells 0 rfl rfl) rfl ?_;clear H;intro a H;refine s_call en14idx H wn rfl (check_spec _ _ H.hp.ro D l f t hv hz) rfl ?_;clear H;rintro v14 G14 a w rfl hm14 H;refine kH H (Rc rfl (Kz K3 ?_));clear H K3;intro a H;refine c_cond H rfl ?_ ?_
 ·intro h15
  try have p15:=dT h15
  refine kP H (SR fun _ K4=>Ra rfl (Ra rfl (Kz K4 ?_)));clear H K4;intro a H;refine c_ret ?_;refine (leaveT H Tryz.results19 (.cons (rv_tmp H rfl) (.cons (rv_tmp H rfl) .nil)) ?_).1;exact H.hp.ret (by rw [liftS,if_neg p15];rfl)
 intro h15
 try have p15:=dF h15
 refine kP H (Kc K2 (SQ fun _ K5=>SR fun _ K6=>Rf fd45_0dq rfl (Ro ty3run 0 rfl rfl (Rm rfl (Rc rfl (Kz K6 ?_))))));clear H K2 K6;intro a H;refine c_cond H rfl ?_ ?_
 ·intro h19
  try have p19:=dT h19
  refine kP H (SR fun _ K7=>Rf fd45_1dq rfl (Ro ty3run 0 rfl rfl (Ra rfl (Ra rfl (Kz K7 ?_)))));clear H K7;intro a H;refine c_ret ?_;refine (leaveT H Tryz.results19 (.cons (rv_tmp H rfl) (.cons (rv_tmp H rfl) .nil)) ?_).1;exact H.hp.ret (by rw [liftS,if_pos (by omega),if_pos p19];rfl)
 intro h19
 try have p19:=dF h19
 refine c_skip ?_;refine K5 _ _ ?_;clear K5;refine c_seqR (fun _ K8=>?_);refine s_loada ty38pq (cs:=[_,_,_,_,_,_,_,_,_,_,_]) H wn rfl rfl (H.hp.ocells 1 rfl rfl) rfl ?_;clear H;intro a H;refine kH H (Rf fd45_0dq rfl (Ro ty3run 0 rfl rfl ?_));clear H;intro a H;refine s_call en18pth H wn rfl (path_spec _ _ H.hp.ro D l f (hv.mono hm14) hz n hn res hp h1) rfl ?_;clear H;rintro v26 G26 a w ⟨v,rfl,hrep⟩ hm26 H;rw [← hpe] at hrep;obtain ⟨vA,vn,vc,rfl⟩:=hrep.form;have hvn:=hrep.len;rw [List.length_map] at hvn;refine kH H (Rm rfl ?_);clear H;intro a H;(iterate 2 refine s_extract H wn rfl rfl rfl ?_;clear H;intro a H);refine kH H (Ra rfl (Ra rfl (Kz K8 (SQ fun _ K9=>SR fun _ K10=>Rm rfl (Rl un41pth rfl (Rm rfl (Kz K10 (SB ?_))))))));clear H K8 K10;intro a H;skip;refine c_loopS (ι:=Nat) (Tc:=[(2,_),(29,_),(30,_)]) (Lc:=[(_,_),(_,_)]) (fun (gh:Nat)=>[(31,vi gh)]) (fun (gh:Nat)=>[]) (fun (gh:Nat)=>G26) (fun (gh:Nat)=>gh≤ps.length∧(ps.take gh).find? (fun q=>decide (q.1=flow))=none) (fun (gh:Nat)=>ps.length - gh) (0) (by exact (H).sub ⟨rfl,rfl,rfl,rfl,trivial⟩) ?_ ?_
 ·exact ⟨by omega,rfl⟩
 clear H;intro gh a w hI H;obtain ⟨k,hgh⟩:∃ x,x=gh:=⟨_,rfl⟩;subst hgh;obtain ⟨hk,hno⟩:=hI;dsimp only [List.cons_append,List.nil_append,List.append_nil] at H;refine kP H (SR fun _ K11=>Rc rfl (Kz K11 (SQ fun _ K12=>?_)));clear H K11;intro a H;refine c_cond H rfl ?_ ?_
 ·intro h32
  try have p32:=dT h32
  have hk2:k < ps.length:=by omega
  obtain ⟨b,o,cs,rfl,hcl,hrow,hr⟩:=hrep.at_ k (posD ps[k]) (by simp [hk2]);obtain rfl:=posD_row hr;refine kP H (Kc K12 (SQ fun _ K13=>SB (SR fun _ K14=>Ri un41pth ty45pq rfl rfl ?_)));clear H K12;intro a H;refine s_loada ty45pq (cs:=[_,_]) H wn rfl rfl (fun j v hj=>H.hp.gcell (hrow j v hj)) rfl ?_;clear H;intro a H;refine s_alloc ty45pq H wn rfl ?_;clear H;intro b11 a w hb11 H;refine s_store ty45pq 0 (vs:=[_,_]) _ H wn rfl rfl rfl rfl rfl rfl rfl rfl ?_;clear H;intro w H;dsimp only [List.set,setRow] at H;refine K14 _ _ ?_;clear K14;refine kP H (SR fun _ K15=>Rf fd45_0dq rfl (Ro ty3run 0 rfl rfl (Rm rfl (Rc rfl (Kz K15 ?_)))));clear H K15;intro a H;refine c_cond H rfl ?_ ?_
  ·intro h38
   try have p38:=dT h38
   refine kP H (SR fun _ K16=>Rf fd45_1dq rfl (Ro ty3run 0 rfl rfl (Ra rfl (Ra rfl (Kz K16 ?_)))));clear H K16;intro a H;refine c_ret ?_;refine (leaveT H Tryz.results19 (.cons (rv_tmp H rfl) (.cons (rv_tmp H rfl) .nil)) ?_).1;exact H.hp.ret (by rw [liftS,if_pos (by omega),if_neg p19,find_stop hk2 hno h38];rfl)
  intro h38
  try have p38:=dF h38
  refine kP H (Kc K13 (SC (Rd rfl (Rm rfl ?_))));clear H K13;intro a H;refine wl_nil ?_;refine loop_end ((k+1)) (by exact (H.pickT (Pl:=[_,_,_]) (Pl':=[_,_]) [1,2] (by decide) rfl).sub ⟨rfl,rfl,rfl,rfl,trivial⟩) ?_ ?_
  ·exact ⟨by omega,find_next hk2 hno h38⟩
  first|omega|(dsimp only;omega)
 intro h32
 try have p32:=dF h32
 refine c_exit ?_;refine K9 _ _ ?_;clear K9;refine kP H (SR fun _ K17=>Ra rfl (Ra rfl (Kz K17 ?_)));clear H K17;intro a H;refine c_ret ?_;refine (leaveT H Tryz.results19 (.cons (rv_tmp H rfl) (.cons (rv_tmp H rfl) .nil)) ?_).1;exact H.hp.ret (by rw [show ps.take k=ps from List.take_of_length_le (by omega)] at hno;rw [liftS,if_pos (by omega),if_neg p19,hno];rfl)
end
section
open Go.RowKit
/-- From s to r no more than z ids come to it. -/
def UpB (s:CS) (z:Nat) (r:CR):Prop:=r.2.bef.length≤s.bef.length+z
theorem UpB.and {s:CS} {z y q:Nat} {r:CR} {f:CS→CR} (h:UpB s z r) (hq:z+y≤q) (hf:∀ s,UpB s y (f s)):UpB s q (andT r f):=by
 unfold UpB at *
 unfold andT
 split
 ·omega
 have:=hf r.2
 omega
theorem UpB.zero (s:CS) (e:Int) (q:Nat):UpB s q (e,s):=by unfold UpB;dsimp only;omega
theorem UpB.le {s:CS} {z y:Nat} {r:CR} (h:UpB s z r) (hq:z≤y):UpB s y r:=by unfold UpB at *;omega
theorem zItems_at {l:List ItemD} {k:Nat} (hk:k < l.length):zItems (l.drop k)=1+szR l[k].dat+zItems (l.drop (k+1)):=by
 simp only [zItems];rw [List.drop_eq_getElem_cons hk,List.map_cons,szRs]
theorem zRows_at {l:List RowD} {k:Nat} (hk:k < l.length):zRows (l.drop k)=1+szR l[k].dat+zRows (l.drop (k+1)):=by
 simp only [zRows];rw [List.drop_eq_getElem_cons hk,List.map_cons,szRs]
theorem zCells_at {l:List CellD} {k:Nat} (hk:k < l.length):zCells (l.drop k)=1+szR l[k].dat+zCells (l.drop (k+1)):=by
 simp only [zCells];rw [List.drop_eq_getElem_cons hk,List.map_cons,szRs]
end
section
open Go.RowKit
theorem en29mp15:∀ args w,(callFunc 29 args).run Tryz.prog w=.ok (.enter 29 args) w:=enters Tryz.func29 rfl (by kernel_rfl)
theorem en36mp15:∀ args w,(callFunc 36 args).run Tryz.prog w=.ok (.enter 36 args) w:=enters Tryz.func36 rfl (by kernel_rfl)
theorem size15_spec (G:GH) (w0:World) (hG:Hold G w0) (x:ItemD) (i2 i3:Int) (p i5 i6 d l f r:Value) (hs:x.text.size < 4611686018427387904) :
  Calls Tryz.prog 36 #[.agg #[vi x.kind,vi i2,vi i3,.string x.text,p,i5,i6,d,l,f,r]] w0 (Ret w0 G fun v G'=>v=vi (unitsS x:Nat)∧G=G'):=by
 refine eN [(0,_)] Tryz.func36 rfl Tryz.ntmps36 rfl rfl hG ?_;intro a H;refine c_seqR (fun _ K1=>?_);refine s_box (cs:=[_,_,_,_,_,_,_,_,_,_,_]) H wn rfl rfl rfl ?_;clear H;intro b1 a w hb1 H;refine kH H (Ra rfl (Kz K1 (SQ fun _ K2=>SR fun _ K3=>Rf fd85_0run rfl (Ro ty3run 0 rfl rfl (Rc rfl (Kz K3 ?_))))));clear H K1 K3;intro a H;refine c_cond H rfl ?_ ?_
 ·intro h7
  try have p7:=dT h7
  refine kP H (SR fun _ K4=>Ra rfl (Kz K4 ?_));clear H K4;intro a H;refine lr H Tryz.results36 rfl ?_;exact H.hp.ret ⟨by unfold unitsS;rw [if_neg p7];rfl,rfl⟩
 intro h7
 try have p7:=dF h7
 refine kP H (Kc K2 (SR fun _ K5=>Rf fd85_3run rfl (Ro ty9run 0 rfl rfl ?_)));clear H K2;intro a H;refine s_call en57run H wn rfl (count_spec _ _ H.hp.ro _ hs) rfl ?_;clear H;rintro v11 _ a w ⟨rfl,rfl⟩ - H;refine kH H (Rm rfl ?_);clear H;intro a H;(iterate 2 refine s_extract H wn rfl rfl rfl ?_;clear H;intro a H);refine kH H (Ra rfl (Ra rfl (Kz K5 (SR fun _ K6=>Rm rfl (Ra rfl (Kz K6 ?_))))));clear H K5 K6;intro a H;refine lr H Tryz.results36 rfl ?_;exact H.hp.ret ⟨by unfold unitsS;rw [if_pos (Decidable.not_not.1 p7)],rfl⟩
def psC (l:List (Int × Int)):List Value:=l.flatMap fun p=>[vi p.1,vi p.2]
/-- A row of positions that a call builds. -/
def PosR (v:Value) (xs:List (Int × Int)) (Lo:OL):Prop:=IsRow 45 2 v xs.length (psC xs) Lo
theorem PosR.snoc {v:Value} {xs:List (Int × Int)} {a b:Int} {Lo:OL} (h:IsRow 45 2 v (xs.length+1) (psC xs++[vi a,vi b]) Lo):PosR v (xs++[(a,b)]) Lo:=by
 unfold PosR
 rw [List.length_append,show psC (xs++[(a,b)])=psC xs++[vi a,vi b] by simp [psC]];exact h
theorem ps_cat (G:GH) (A:List (Int × Int)):RepCat G 2 (A.map posD) (psC A):=by
 refine ⟨A.map fun p=>[vi p.1,vi p.2],?_,by simp,fun j r cs hr hc=>?_⟩
 ·induction A with
  | nil=>rfl
  | cons k A ih=>simp only [List.map_cons,List.flatten_cons,psC,List.flatMap_cons];rw [← psC,← ih]
 rw [List.getElem?_map] at hr hc
 cases h:A[j]? with
 | none=>rw [h] at hr;cases hr
 | some x =>
  rw [h] at hr hc
  cases hr;cases hc
  exact ⟨⟨_,_,rfl,⟨rfl,rfl⟩,_,_,rfl,⟨rfl,rfl⟩,rfl⟩,rfl⟩
def MposOk (m:Nat):Prop:=∀ (G:GH) (Lo:OL) (w0:World) (v:Value) (xs:List (Int × Int)) (flow:Int) (l:List ItemD) (u:Value),PosR v xs Lo→Owns G Lo w0→RepV G (.sl 11 (l.map ItemD.dat)) u→OkL l→zItems l < m→xs.length+zItems l≤4294967296 →
 Calls Tryz.prog 29 #[v,vi flow,u] w0 (RetL w0 G Lo fun u' G' L'=>PosR u' (xs++vItems flow 0 l) L')
theorem unitsS_sz (x:ItemD):unitsS x+zItems x.flow+zRows x.rows < szR x.dat:=by
 have h1:=zItem_eq x;have h2:=cntS_le x.text
 unfold unitsS;split <;> omega
set_option maxHeartbeats 4000000 in
theorem mpos_step {m:Nat} (ih:MposOk m) (hm:m≤4294967296):MposOk (m+1):=by
 intro G Lo w0 v xs flow l u hr0 hO hu hok hz hb;obtain ⟨A,c,rfl,hc1,hc2,hg⟩:=hu.slice;obtain ⟨vA,vc,rfl,-,-⟩:=hr0.shape;rw [List.length_map] at *;have hll:=zItems_length l;have hml:maxLen=9223372036854775807:=rfl;refine enterL (N:=105) (T:=[(0,_),(1,_),(2,_)]) Tryz.func29 rfl Tryz.ntmps29 rfl rfl hO ?_;intro a H;refine kP H (SR fun _ K1=>Ra rfl (Kz K1 (SR fun _ K2=>Ra rfl (Kz K2 (SQ fun _ K3=>SR fun _ K4=>Ra rfl (Kz K4 (SB ?_)))))));clear H K1 K2 K4;intro a H;skip;refine c_loopS (ι:=Nat × Nat × Value × List (Int × Int) × OL × GH) (Tc:=[(1,_),(2,_)]) (Lc:=[]) (fun (gh:Nat × Nat × Value × List (Int × Int) × OL × GH)=>[(0,gh.2.2.1),(7,vi gh.2.1),(8,vi gh.1)]) (fun (gh:Nat × Nat × Value × List (Int × Int) × OL × GH)=>[]++gh.2.2.2.2.1) (fun (gh:Nat × Nat × Value × List (Int × Int) × OL × GH)=>gh.2.2.2.2.2) (fun (gh:Nat × Nat × Value × List (Int × Int) × OL × GH)=>gh.1≤l.length∧PosR gh.2.2.1 gh.2.2.2.1 gh.2.2.2.2.1∧gh.2.2.2.1++vItems flow gh.2.1 (l.drop gh.1)=xs++vItems flow 0 l∧OkL (l.drop gh.1)∧gh.2.1+zItems (l.drop gh.1)≤4294967297∧gh.2.2.2.1.length+(zItems (l.drop gh.1)+1)≤4294967297∧(∀ b o,G b=some o→gh.2.2.2.2.2 b=some o)) (fun (gh:Nat × Nat × Value × List (Int × Int) × OL × GH)=>l.length - gh.1) ((0,0,_,xs,Lo,G)) (by exact (H).sub ⟨rfl,rfl,rfl,rfl,rfl,trivial⟩) ?_ ?_
 ·exact ⟨Nat.zero_le _,hr0,rfl,hok,by dsimp only;rw [List.drop_zero];omega,by dsimp only;rw [List.drop_zero];omega,fun _ _ h=>h⟩
 clear H;intro gh a w hI H;obtain ⟨k,at_,v1,xs1,Lo1,g1⟩:=gh;dsimp only at hI H;obtain ⟨hk,hr1,hX,hok1,hat,hn1,hg1⟩:=hI;obtain ⟨v1A,v1c,rfl,-,-⟩:=hr1.shape;dsimp only [List.cons_append,List.nil_append,List.append_nil] at H;refine kP H (SQ fun _ K5=>SR fun _ K6=>Rm rfl (Rm rfl (Rl un22run rfl (Rc rfl (Kz K6 ?_)))));clear H K6;intro a H;refine c_cond H rfl ?_ ?_
 ·intro h16
  try have p16:=dT h16
  have hk2:k < l.length:=by omega
  obtain ⟨b,o,pA,pn,pc,dA,dn,dc,yA,yn,yc,fA,fn,fc,rA,rn,rc,rfl,hrow,hhd,hfl,hrw⟩:=flow_get hk2 hg;replace hrow:=fun j u hj=>gcell_mono hg1 (hrow j u hj);replace hfl:=hfl.mono hg1;replace hrw:=hrw.mono hg1;have hrn:=hrw.len;rw [List.length_map] at hrn;subst hrn;have hzs:=zItems_at hk2;have hzi:=zItem_eq l[k];have hzm:=zItems_mem (List.getElem_mem hk2);have hus:=unitsS_sz l[k];rw [List.drop_eq_getElem_cons hk2] at hX hok1;obtain ⟨hox,hok2⟩:=hok1.head;rw [vItems,vItem_eq,hox.n1] at hX;obtain ⟨x,hx⟩:∃ x,x=l[k]:=⟨_,rfl⟩;rw [← hx] at hX hox hrow hhd hfl hrw hzs hzi hzm hus;have r0:gcell g1 b (o+k*11+0)=some (vi x.kind):=hrow 0 _ rfl;have r10:gcell g1 b (o+k*11+10)=some (.slice rA x.rows.length rc):=hrow 10 _ rfl;have hll2:=vItems_len x.id 0 x.flow;have hll3:=vRows_len x.rows;have hrl:=zRows_length x.rows;refine kP H (Kc K5 (SQ fun _ K7=>SB (SQ fun _ K8=>SR fun _ K9=>Ra rfl (Kz K9 (SB ?_)))));clear H K5 K9;intro a H;skip;refine c_loopS (ι:=Nat × Value × List (Int × Int) × OL) (Tc:=[(1,_),(2,_),(8,_)]) (Lc:=[]) (fun (gh:Nat × Value × List (Int × Int) × OL)=>[(0,gh.2.1),(7,vi ((at_+gh.1:Nat):Int)),(9,vi gh.1)]) (fun (gh:Nat × Value × List (Int × Int) × OL)=>[]++gh.2.2.2) (fun (gh:Nat × Value × List (Int × Int) × OL)=>g1) (fun (gh:Nat × Value × List (Int × Int) × OL)=>gh.1≤unitsS x∧PosR gh.2.1 gh.2.2.1 gh.2.2.2∧gh.2.2.1=xs1++(List.range gh.1).map (fun q=>(flow,((at_+q:Nat):Int)))) (fun (gh:Nat × Value × List (Int × Int) × OL)=>unitsS x - gh.1) ((0,_,xs1,Lo1)) (by exact (H).sub ⟨rfl,rfl,rfl,rfl,rfl,rfl,trivial⟩) ?_ ?_
  ·exact ⟨Nat.zero_le _,hr1,by simp⟩
  clear H;intro gh a w hI H;obtain ⟨i,v2,xs2,Lo2⟩:=gh;dsimp only at hI H;obtain ⟨hi,hr2,hx2⟩:=hI;obtain ⟨v2A,v2c,rfl,-,-⟩:=hr2.shape
  have hl2:xs2.length=xs1.length+i:=by rw [hx2];simp
  dsimp only [List.cons_append,List.nil_append,List.append_nil] at H;refine kP H (SQ fun _ K10=>SR fun _ K11=>Rm rfl (Rm rfl (Rm rfl (Ri un22run ty85run rfl rfl ?_))));clear H;intro a H;refine s_loada ty85run (cs:=[vi x.kind,vi x.code,vi x.id,.string x.text,.slice pA pn pc,vi x.head.marks.ins,vi x.head.marks.move,.slice dA dn dc,.slice yA yn yc,.slice fA fn fc,.slice rA x.rows.length rc]) H wn rfl rfl (fun j v hj=>H.hp.gcell (hrow j v hj)) rfl ?_;clear H;intro a H;refine s_call en36mp15 H wn rfl (size15_spec _ _ H.hp.ro x _ _ _ _ _ _ _ _ _ (by omega)) rfl ?_;clear H;rintro v24 _ a w ⟨rfl,rfl⟩ - H;refine kH H (Rc rfl (Kz K11 ?_));clear H K11;intro a H;refine c_cond H rfl ?_ ?_
  ·intro h25
   try have p25:=dT h25
   refine kP H (Kc K10 (SQ fun _ K12=>SB (SR fun _ K13=>Rm rfl (Rm rfl (Rm rfl ?_)))));clear H K10;intro a H;refine s_build sr45pos [_,_] H wn rfl rfl rfl rfl ?_;clear H;intro a H;refine s_buildSlice un41pth ty45pq [_,_] [_,_] H wn rfl rfl rfl rfl rfl (by intro i q h;match i,h with|0,h=>exact h|n+1,h=>simp at h) rfl rfl ?_;clear H;intro b32 a w hb32 H;refine s_append (Li:=[_]) (Lo:=Lo2) (news:=[vi flow,vi ((at_+i:Nat):Int)]) un41pth ty45pq rfl rfl H wn rfl rfl hr2 rfl (H.hp.ocells 0 rfl rfl) rfl (by omega) (by omega) rfl ?_;clear H;intro v33 Lo33 a w hrw33 H;refine kH H (Ra rfl (Kz K13 (SC (Rm rfl (Rd rfl (Ra rfl (Kn K12 (SC (Rm rfl (Rd rfl (Ra rfl ?_)))))))))));clear H K13 K12;intro a H;refine wl_nil ?_;refine loop_end ((i+1,v33,xs2++[(flow,((at_+i:Nat):Int))],Lo33)) (by exact (H.pickT (Pl:=[_]) (Pl':=[]) [] (by decide) rfl).sub ⟨rfl,rfl,rfl,rfl,rfl,rfl,trivial⟩) ?_ ?_
   ·(try dsimp only);exact ⟨by omega,PosR.snoc hrw33,by rw [hx2,List.range_succ,List.map_append,List.append_assoc];rfl⟩
   first|omega|(dsimp only;omega)
  intro h25
  try have p25:=dF h25
  obtain rfl:i=unitsS x:=by omega
  refine c_exit ?_;refine K8 _ _ ?_;clear K8;refine c_seqJ (ι:=Value × List (Int × Int) × OL × GH) (Tc:=[(1,_),(2,_),(7,_),(8,_)]) (Lc:=[]) (fun (gh:Value × List (Int × Int) × OL × GH)=>[(0,gh.1)]) (fun (gh:Value × List (Int × Int) × OL × GH)=>[]++gh.2.2.1) (fun (gh:Value × List (Int × Int) × OL × GH)=>gh.2.2.2) (fun (gh:Value × List (Int × Int) × OL × GH)=>PosR gh.1 gh.2.1 gh.2.2.1∧gh.2.1=xs2++(if x.kind=6 then vItems x.id 0 x.flow else [])∧gh.2.1.length+zRows x.rows+(zItems (l.drop (k+1))+1)≤4294967297∧(∀ b o,g1 b=some o→gh.2.2.2 b=some o)) (by exact (H).sub ⟨rfl,rfl,rfl,rfl,trivial⟩) ?_ ?_
  ·skip;refine kP H (SR fun _ K14=>Rm rfl (Rm rfl (Ri un22run ty85run rfl rfl (Rf fd85_0run rfl (Rg ty3run rfl (by assumption) ?_)))));clear H;intro a H;refine kH H (Rc rfl (Kz K14 ?_));clear H K14;intro a H;refine c_cond H rfl ?_ ?_
   ·intro h41
    try have p41:=dT h41
    refine c_drawI (hmx) [[],[],[],[1,2],[1,2,3],[1,2,3,4],[],[],[6,7],[6,7,8],[6,7,8,9],(List.range 11),(List.range 12)] [11,12] (by kernel_rfl) (by kernel_rfl) (fun (ix_:Nat) (v:Value) (G:GH)=>match ix_ with|0=>v=.slice v2A xs2.length v2c|1=>v=.slice (some ⟨b,o,none⟩) l.length c|2=>v=vi k|3=>v=.pointer (some ⟨b,o+k*11,none⟩)|4=>v=.pointer (some ⟨b,o+k*11+2,none⟩)|5=>v=vi x.id|6=>v=.slice (some ⟨b,o,none⟩) l.length c|7=>v=vi k|8=>v=.pointer (some ⟨b,o+k*11,none⟩)|9=>v=.pointer (some ⟨b,o+k*11+9,none⟩)|10=>v=.slice fA fn fc|_=>True) (fun _ _ _ _ _ h=>h) H ?_ ?_
    ·clear H;refine al4 ?_ ?_ ?_ ?_ (al4 ?_ ?_ ?_ ?_ (al4 ?_ ?_ ?_ ?_ (allI_cons ?_ allI_nil)))
     ·exact Z0 rfl rfl fun _ _ _ _ _=>Rm rfl
     ·exact Z0 rfl rfl fun _ _ _ _ _=>Rm rfl
     ·exact Z0 rfl rfl fun _ _ _ _ _=>Rm rfl
     ·exact Z2 1 43 2 44 rfl rfl fun _ _ _ _ _=>Ri un22run ty85run rfl rfl
     ·exact Z1 3 45 rfl rfl fun _ _ _ _ _=>Rf fd85_2pos rfl
     ·exact Op1 4 46 rfl rfl fun _ _ _ _ hG _ H fin=>kH H (Rg ty3run rfl (gcell_mono hG (hrow 2 _ rfl)) fun _ H=>fin H iJ rfl)
     ·exact Z0 rfl rfl fun _ _ _ _ _=>Rm rfl
     ·exact Z0 rfl rfl fun _ _ _ _ _=>Rm rfl
     ·exact Z2 6 48 7 49 rfl rfl fun _ _ _ _ _=>Ri un22run ty85run rfl rfl
     ·exact Z1 8 50 rfl rfl fun _ _ _ _ _=>Rf fd85_5run rfl
     ·exact Op1 9 51 rfl rfl fun _ _ _ _ hG _ H fin=>kH H (Rg ty22run rfl (gcell_mono hG (hrow 9 _ rfl)) fun _ H=>fin H iJ rfl)
     ·exact opB rfl
     exact opB rfl
    clear H;intro a w G hGm11 H hv;obtain ⟨u42,hu42,hp42⟩:=hv 0 42 (by decide) rfl;obtain rfl:u42=.slice v2A xs2.length v2c:=hp42;have H:=H.addS hu42;obtain ⟨u47,hu47,hp47⟩:=hv 5 47 (by decide) rfl;obtain rfl:u47=vi x.id:=hp47;have H:=H.addS hu47;obtain ⟨u52,hu52,hp52⟩:=hv 10 52 (by decide) rfl;obtain rfl:u52=.slice fA fn fc:=hp52;have H:=H.addS hu52;clear hv;refine s_callL en29mp15 (Li:=[]) (L:=Lo2) H wn rfl (ih _ _ _ _ xs2 x.id x.flow _ hr2 (Hp.owns (Li:=[]) H.hp) (hfl.mono hGm11) hox.fl (by omega) (by omega)) rfl ?_;clear H;rintro v53 G53 L53 a w hr53 hm53 H;dsimp only [List.nil_append] at H;refine kH H (Ra rfl ?_);clear H;intro a H;refine wl_nil ⟨rfl,?_⟩;refine ⟨(v53,xs2++vItems x.id 0 x.flow,L53,G53),by exact (H).sub ⟨rfl,rfl,rfl,rfl,rfl,trivial⟩,?_⟩;(try dsimp only);exact ⟨hr53,by rw [if_pos p41],by rw [List.length_append];omega,fun b o h=>hm53 b o (hGm11 b o h)⟩
   intro h41
   try have p41:=dF h41
   refine c_skip ?_;refine ⟨(_,xs2,Lo2,g1),by exact (H).sub ⟨rfl,rfl,rfl,rfl,rfl,trivial⟩,?_⟩;(try dsimp only);exact ⟨hr2,by rw [if_neg p41,List.append_nil],by omega,fun _ _ h=>h⟩
  clear H;intro gh a w hI H;obtain ⟨v3,xs3,Lo3,g2⟩:=gh;dsimp only at hI H;obtain ⟨hr3,hx3,hn3,hg2⟩:=hI;obtain ⟨v3A,v3c,rfl,-,-⟩:=hr3.shape;dsimp only [List.cons_append,List.nil_append,List.append_nil] at H;refine kP H (SR fun _ K15=>Ra rfl (Kz K15 (SB ?_)));clear H K15;intro a H;skip;refine c_loopS (ι:=Nat × Value × List (Int × Int) × OL × GH) (Tc:=[(1,_),(2,_),(7,_),(8,_)]) (Lc:=[]) (fun (gh:Nat × Value × List (Int × Int) × OL × GH)=>[(0,gh.2.1),(10,vi gh.1)]) (fun (gh:Nat × Value × List (Int × Int) × OL × GH)=>[]++gh.2.2.2.1) (fun (gh:Nat × Value × List (Int × Int) × OL × GH)=>gh.2.2.2.2) (fun (gh:Nat × Value × List (Int × Int) × OL × GH)=>gh.1≤x.rows.length∧PosR gh.2.1 gh.2.2.1 gh.2.2.2.1∧gh.2.2.1++vRows (x.rows.drop gh.1)=xs3++vRows x.rows∧gh.2.2.1.length+zRows (x.rows.drop gh.1)+(zItems (l.drop (k+1))+1)≤4294967297∧(∀ b o,g2 b=some o→gh.2.2.2.2 b=some o)) (fun (gh:Nat × Value × List (Int × Int) × OL × GH)=>x.rows.length - gh.1) ((0,_,xs3,Lo3,g2)) (by exact (H).sub ⟨rfl,rfl,rfl,rfl,rfl,rfl,trivial⟩) ?_ ?_
  ·exact ⟨Nat.zero_le _,hr3,rfl,hn3,fun _ _ h=>h⟩
  clear H;intro gh a w hI H;obtain ⟨rk,v4,xs4,Lo4,g3⟩:=gh;dsimp only at hI H;obtain ⟨hrk,hr4,hx4,hn4,hg3⟩:=hI;have r10':=gcell_mono hg3 (gcell_mono hg2 r10);have r0':=gcell_mono hg3 (gcell_mono hg2 r0);obtain ⟨v4A,v4c,rfl,-,-⟩:=hr4.shape;dsimp only [List.cons_append,List.nil_append,List.append_nil] at H;refine kP H (SQ fun _ K16=>SR fun _ K17=>Rm rfl (Rm rfl (Rm rfl (Ri un22run ty85run rfl rfl (Rf fd85_6run rfl (Rg ty83run rfl (by assumption) ?_))))));clear H;intro a H;refine kH H (Rl un83run rfl (Rc rfl (Rm rfl ?_)));clear H;intro a H;refine s_split H 62 rfl ?_ ?_
  ·intro h62
   try have p62:=dT h62
   refine kH H (YM h62 rfl (YM h62 rfl (YI un22run ty85run h62 rfl rfl (YF fd85_0run h62 rfl (YR ty3run h62 rfl (by assumption) ?_)))));clear H;intro a H;refine kH H (YC h62 rfl (Pt h62 rfl (Kz K17 ?_)));clear H K17;intro a H;refine c_cond H rfl ?_ ?_
   ·intro h69
    try have p69:=dT h69
    have hk3:rk < x.rows.length:=by omega
    obtain ⟨b2,o2,qA,qn,qc,eA,en,ec,zA,zn,zc,cA,cn,cc,rfl,hrow2,hrh,hcl⟩:=row_get hk3 ((hrw.mono hg2).mono hg3).at_;have hcn:=hcl.len;rw [List.length_map] at hcn;subst hcn;have r5:gcell g3 b2 (o2+rk*6+5)=some (.slice cA x.rows[rk].cells.length cc):=hrow2 5 _ rfl;have hsz2:=zRows_get hk3;have hcs:=zCells_length x.rows[rk].cells;have hzr:=zRows_at hk3;have hzw:=zRow_eq x.rows[rk];have hoc:=hox.rw _ (List.getElem_mem hk3);rw [List.drop_eq_getElem_cons hk3,vRows,vRow_eq] at hx4;obtain ⟨y,hy⟩:∃ y,y=x.rows[rk]:=⟨_,rfl⟩;rw [← hy] at r5 hx4 hrow2 hrh hcl hsz2 hcs hzr hzw hoc;refine kP H (Kc K16 (SQ fun _ K18=>SB (SR fun _ K19=>Rm rfl (Rm rfl (Ri un22run ty85run rfl rfl (Rf fd85_6run rfl (Rg ty83run rfl (by assumption) ?_)))))));clear H K16;intro a H;refine kH H (Rm rfl (Ri un83run ty88run rfl rfl (Rf fd88_1run rfl (Rg ty86run rfl (by assumption) ?_))));clear H;intro a H;refine kH H (Ra rfl (Kz K19 (SR fun _ K20=>Ra rfl (Kz K20 (SB ?_)))));clear H K19 K20;intro a H;skip;refine c_loopS (ι:=Nat × Value × List (Int × Int) × OL × GH) (Tc:=[(1,_),(2,_),(7,_),(8,_),(10,_),(11,_)]) (Lc:=[]) (fun (gh:Nat × Value × List (Int × Int) × OL × GH)=>[(0,gh.2.1),(12,vi gh.1)]) (fun (gh:Nat × Value × List (Int × Int) × OL × GH)=>[]++gh.2.2.2.1) (fun (gh:Nat × Value × List (Int × Int) × OL × GH)=>gh.2.2.2.2) (fun (gh:Nat × Value × List (Int × Int) × OL × GH)=>gh.1≤y.cells.length∧PosR gh.2.1 gh.2.2.1 gh.2.2.2.1∧gh.2.2.1++(vCells (y.cells.drop gh.1)++vRows (x.rows.drop (rk+1)))=xs4++(vCells y.cells++vRows (x.rows.drop (rk+1)))∧gh.2.2.1.length+zCells (y.cells.drop gh.1)+zRows (x.rows.drop (rk+1))+(zItems (l.drop (k+1))+1)≤4294967297∧(∀ b o,g3 b=some o→gh.2.2.2.2 b=some o)) (fun (gh:Nat × Value × List (Int × Int) × OL × GH)=>y.cells.length - gh.1) ((0,_,xs4,Lo4,g3)) (by exact (H).sub ⟨rfl,rfl,rfl,rfl,rfl,rfl,rfl,rfl,trivial⟩) ?_ ?_
    ·exact ⟨Nat.zero_le _,hr4,rfl,by dsimp only;rw [List.drop_zero];omega,fun _ _ h=>h⟩
    clear H;intro gh a w hI H;obtain ⟨ck,v5,xs5,Lo5,g4⟩:=gh;dsimp only at hI H;obtain ⟨hck,hr5,hx5,hn5,hg4⟩:=hI;obtain ⟨v5A,v5c,rfl,-,-⟩:=hr5.shape;dsimp only [List.cons_append,List.nil_append,List.append_nil] at H;refine kP H (SQ fun _ K21=>SR fun _ K22=>Rm rfl (Rm rfl (Rl un86run rfl (Rc rfl (Kz K22 ?_)))));clear H K22;intro a H;refine c_cond H rfl ?_ ?_
    ·intro h84
     try have p84:=dT h84
     have hk4:ck < y.cells.length:=by omega
     obtain ⟨b3,o3,sA,sn,sc,tA,tn,tc,uA,un,uc,gA,gn,gc,rfl,hrow3,hch,hcf⟩:=cell_get hk4 (hcl.mono hg4).at_;have hsz3:=zCells_get hk4;have hzc:=zCells_at hk4;have hzz:=zCell_eq y.cells[ck];have hoz:=hoc _ (List.getElem_mem hk4);have hll4:=vItems_len y.cells[ck].id 0 y.cells[ck].flow;rw [List.drop_eq_getElem_cons hk4,vCells,vCell_eq,List.append_assoc] at hx5;obtain ⟨z,hzy⟩:∃ z,z=y.cells[ck]:=⟨_,rfl⟩;rw [← hzy] at hx5 hrow3 hch hcf hsz3 hzc hzz hoz hll4;refine kP H (Kc K21 (SQ fun _ K23=>SB ?_));clear H K21;intro a H;refine c_drawI (hmx) [[],[],[],[1,2],[1,2,3],[1,2,3,4],[],[],[6,7],[6,7,8],[6,7,8,9],(List.range 11),(List.range 12)] [11,12] (by kernel_rfl) (by kernel_rfl) (fun (ix_:Nat) (v:Value) (G:GH)=>match ix_ with|0=>v=.slice v5A xs5.length v5c|1=>v=.slice (some ⟨b3,o3,none⟩) y.cells.length cc|2=>v=vi ck|3=>v=.pointer (some ⟨b3,o3+ck*7,none⟩)|4=>v=.pointer (some ⟨b3,o3+ck*7+0,none⟩)|5=>v=vi z.id|6=>v=.slice (some ⟨b3,o3,none⟩) y.cells.length cc|7=>v=vi ck|8=>v=.pointer (some ⟨b3,o3+ck*7,none⟩)|9=>v=.pointer (some ⟨b3,o3+ck*7+6,none⟩)|10=>v=.slice gA gn gc|_=>True) (fun _ _ _ _ _ h=>h) H ?_ ?_
     ·clear H;refine al4 ?_ ?_ ?_ ?_ (al4 ?_ ?_ ?_ ?_ (al4 ?_ ?_ ?_ ?_ (allI_cons ?_ allI_nil)))
      ·exact Z0 rfl rfl fun _ _ _ _ _=>Rm rfl
      ·exact Z0 rfl rfl fun _ _ _ _ _=>Rm rfl
      ·exact Z0 rfl rfl fun _ _ _ _ _=>Rm rfl
      ·exact Z2 1 88 2 89 rfl rfl fun _ _ _ _ _=>Ri un86run ty90run rfl rfl
      ·exact Z1 3 90 rfl rfl fun _ _ _ _ _=>Rf fd90_0run rfl
      ·exact Op1 4 91 rfl rfl fun _ _ _ _ hG _ H fin=>kH H (Rg ty3run rfl (gcell_mono hG (hrow3 0 _ rfl)) fun _ H=>fin H iJ rfl)
      ·exact Z0 rfl rfl fun _ _ _ _ _=>Rm rfl
      ·exact Z0 rfl rfl fun _ _ _ _ _=>Rm rfl
      ·exact Z2 6 93 7 94 rfl rfl fun _ _ _ _ _=>Ri un86run ty90run rfl rfl
      ·exact Z1 8 95 rfl rfl fun _ _ _ _ _=>Rf fd90_2run rfl
      ·exact Op1 9 96 rfl rfl fun _ _ _ _ hG _ H fin=>kH H (Rg ty22run rfl (gcell_mono hG (hrow3 6 _ rfl)) fun _ H=>fin H iJ rfl)
      ·exact opB rfl
      exact opB rfl
     clear H;intro a w G hGm19 H hv;obtain ⟨u87,hu87,hp87⟩:=hv 0 87 (by decide) rfl;obtain rfl:u87=.slice v5A xs5.length v5c:=hp87;have H:=H.addS hu87;obtain ⟨u92,hu92,hp92⟩:=hv 5 92 (by decide) rfl;obtain rfl:u92=vi z.id:=hp92;have H:=H.addS hu92;obtain ⟨u97,hu97,hp97⟩:=hv 10 97 (by decide) rfl;obtain rfl:u97=.slice gA gn gc:=hp97;have H:=H.addS hu97;clear hv;refine s_callL en29mp15 (Li:=[]) (L:=Lo5) H wn rfl (ih _ _ _ _ xs5 z.id z.flow _ hr5 (Hp.owns (Li:=[]) H.hp) (hcf.mono hGm19) hoz (by omega) (by omega)) rfl ?_;clear H;rintro v98 G98 L98 a w hr98 hm98 H;dsimp only [List.nil_append] at H;refine kH H (Ra rfl ?_);clear H;intro a H;refine wl_nil ⟨rfl,?_⟩;refine K23 _ _ ?_;clear K23;refine kP H (SC (Rm rfl (Rd rfl (Ra rfl ?_))));clear H;intro a H;refine wl_nil ?_;refine loop_end ((ck+1,v98,xs5++vItems z.id 0 z.flow,L98,G98)) (by exact (H).sub ⟨rfl,rfl,rfl,rfl,rfl,rfl,rfl,rfl,trivial⟩) ?_ ?_
     ·(try dsimp only);exact ⟨by omega,hr98,by rw [← hx5,List.append_assoc],by rw [List.length_append];omega,fun b o h=>hm98 b o (hGm19 b o (hg4 b o h))⟩
     first|omega|(dsimp only;omega)
    intro h84
    try have p84:=dF h84
    have hck0:y.cells.drop ck=[]:=List.drop_of_length_le (by omega);refine c_exit ?_;refine K18 _ _ ?_;clear K18;refine kP H (SC (Rm rfl (Rd rfl (Ra rfl ?_))));clear H;intro a H;refine wl_nil ?_;refine loop_end ((rk+1,_,xs5,Lo5,g4)) (by exact (H).sub ⟨rfl,rfl,rfl,rfl,rfl,rfl,trivial⟩) ?_ ?_
    ·(try dsimp only);exact ⟨by omega,hr5,by rw [← hx4,← hx5,hck0,vCells,List.nil_append],by rw [hck0] at hn5;simp only [zCells,List.map_nil,szRs] at hn5;omega,fun b o h=>hg4 b o (hg3 b o h)⟩
    first|omega|(dsimp only;omega)
   intro h69
   try have p69:=dF h69
   refine c_exit ?_;refine K7 _ _ ?_;clear K7;refine kP H (SC (Rm rfl (Rd rfl (Ra rfl ?_))));clear H;intro a H;refine wl_nil ?_;refine loop_end ((k+1,at_+unitsS x,_,xs4,Lo4,g3)) (by exact (H).sub ⟨rfl,rfl,rfl,rfl,rfl,trivial⟩) ?_ ?_
   ·try dsimp only
    have hv0:vRows (x.rows.drop rk)=[]:=by
     by_cases h7:x.kind=7
     ·rw [List.drop_of_length_le (by first|omega|(exfalso;simp_all;done))];rfl
     rw [hox.rw0 h7];simp [vRows]
    rw [hv0,List.append_nil] at hx4;exact ⟨by omega,hr4,by rw [← hX,hx4,hx3,hx2];simp only [List.append_assoc],hok2,by omega,by omega,fun b o h=>hg3 b o (hg2 b o (hg1 b o h))⟩
   first|omega|(dsimp only;omega)
  intro h62
  try have p62:=dF h62
  refine kH H (Ks h62 rfl (Ks h62 rfl (Ks h62 rfl (Ks h62 rfl (Ks h62 rfl (Ks h62 rfl (Pf h62 rfl (Kz K17 ?_))))))));clear H K17;intro a H;refine c_cond_f H rfl rfl ?_;refine c_exit ?_;refine K7 _ _ ?_;clear K7;refine kP H (SC (Rm rfl (Rd rfl (Ra rfl ?_))));clear H;intro a H;refine wl_nil ?_;refine loop_end ((k+1,at_+unitsS x,_,xs4,Lo4,g3)) (by exact (H).sub ⟨rfl,rfl,rfl,rfl,rfl,trivial⟩) ?_ ?_
  ·try dsimp only
   have hv0:vRows (x.rows.drop rk)=[]:=by
    by_cases h7:x.kind=7
    ·rw [List.drop_of_length_le (by first|omega|(exfalso;simp_all;done))];rfl
    rw [hox.rw0 h7];simp [vRows]
   rw [hv0,List.append_nil] at hx4;exact ⟨by omega,hr4,by rw [← hX,hx4,hx3,hx2];simp only [List.append_assoc],hok2,by omega,by omega,fun b o h=>hg3 b o (hg2 b o (hg1 b o h))⟩
  first|omega|(dsimp only;omega)
 intro h16
 try have p16:=dF h16
 refine c_exit ?_;refine K3 _ _ ?_;clear K3;refine kP H (SR fun _ K24=>Rm rfl (Rm rfl (Rm rfl ?_)));clear H;intro a H;refine s_build sr45pos [_,_] H wn rfl rfl rfl rfl ?_;clear H;intro a H;refine s_buildSlice un41pth ty45pq [_,_] [_,_] H wn rfl rfl rfl rfl rfl (by intro i q h;match i,h with|0,h=>exact h|n+1,h=>simp at h) rfl rfl ?_;clear H;intro b103 a w hb103 H;refine s_append (Li:=[_]) (Lo:=Lo1) (news:=[vi flow,vi at_]) un41pth ty45pq rfl rfl H wn rfl rfl hr1 rfl (H.hp.ocells 0 rfl rfl) rfl (by omega) (by omega) rfl ?_;clear H;intro v104 Lo104 a w hrw104 H;refine kH H (Ra rfl (Kz K24 ?_));clear H K24;intro a H;refine lr H Tryz.results29 rfl ?_;rw [List.drop_of_length_le (by omega),vItems] at hX;exact H.hp.retD (L':=Lo104) (List.Sublist.cons _ (List.Sublist.refl _)) (by rw [← hX];exact PosR.snoc hrw104)
theorem mpos_ok:∀ m:Nat,m≤4294967297→MposOk m
 | 0,_=>fun _ _ _ _ _ _ _ _ _ _ _ _ h=>absurd h (by omega)
 | m+1,hm=>mpos_step (mpos_ok m (by omega)) (by omega)
end
section
open Go.RowKit
theorem en43rws:∀ args w,(callFunc 43 args).run Tryz.prog w=.ok (.enter 43 args) w:=enters Tryz.func43 rfl (by kernel_rfl)
theorem en102rws:∀ args w,(callFunc 102 args).run Tryz.prog w=.ok (.enter 102 args) w:=enters Tryz.func102 rfl (by kernel_rfl)
theorem en45rws:∀ args w,(callFunc 45 args).run Tryz.prog w=.ok (.enter 45 args) w:=enters Tryz.func45 rfl (by kernel_rfl)
theorem headL_spec (G:GH) (L:OL) (w0:World) (st:List StyleD) (li:List LiD) (rv:List RvD) (b ms ml mr mb mu:Nat) (n:Int) (hck:CkG G st li rv ms ml mr mu) (hO:Owns G (ckB b ms ml mr mb mu n :: L) w0)
  (e:Int) (h:HeadD) (p d l:Value) (hh:HeadR G h p d l) (hz:zHead h≤4294967296) :
  Calls Tryz.prog 43 #[.pointer (some ⟨b,0,none⟩),vi e,hdV h p d l] w0 (RetL w0 G (ckB b ms ml mr mb mu n :: L) fun v G' L'=>G=G'∧L'=ckB b ms ml mr mb mu n :: L∧v=vi (headE (ckP st li rv) e h)):=by
 have hm:=GH.add_mono G (o:=(ckB b ms ml mr mb mu n).2) (hO.sep _ List.mem_cons_self);exact (head_spec (G.add b (ckB b ms ml mr mb mu n).2) w0 hO.add st li rv b ms ml mr mb mu n (hck.mono hm) (GH.add_self _ _ _) e h p d l (hh.mono hm) hz).mono fun _ _=>ret_lend (b:=b) (o:=(ckB b ms ml mr mb mu n).2) (R':=fun v=>v=vi (headE (ckP st li rv) e h)) hO fun _ _ h=>h
/-- What a call of the checker leaves. -/
abbrev CkR (b ms ml mr mb mu:Nat) (L:OL) (r:CR):Value→OL→Prop:=fun u L'=>∃ s:CS,u=vi r.1∧L'=ckB b ms ml mr mb mu s.n :: (mb,mpK (mSet s.bef)) :: L∧(r.1=0→s=r.2)
def ItemsOk (m:Nat):Prop:=∀ (G:GH) (L:OL) (w0:World) (st:List StyleD) (li:List LiD) (rv:List RvD) (b ms ml mr mb mu:Nat) (s:CS) (l:List ItemD) (v:Value) (body note:Bool) (t:Int),
 CkG G st li rv ms ml mr mu→Owns G (ckB b ms ml mr mb mu s.n :: (mb,mpK (mSet s.bef)) :: L) w0→RepV G (.sl 11 (l.map ItemD.dat)) v→zItems l < m→0≤t→t≤4→0≤s.n→s.n+(zItems l:Nat)≤1099511627776 →
 Calls Tryz.prog 45 #[.pointer (some ⟨b,0,none⟩),v,.agg #[.bool body,.bool note,vi t]] w0 (RetL w0 G (ckB b ms ml mr mb mu s.n :: (mb,mpK (mSet s.bef)) :: L) fun u G' L'=>G=G'∧CkR b ms ml mr mb mu L (itemsC (ckP st li rv) body note t l s) u L')
theorem rows_ok {m:Nat} (ih:ItemsOk m) (hm:m≤4294967296) (Gt:GH) (L:OL) (w0:World) (st:List StyleD) (li:List LiD) (rv:List RvD) (b ms ml mr mb mu:Nat) (s:CS) (l:List RowD) (v:Value) (note:Bool) (t:Int)
  (hck:CkG Gt st li rv ms ml mr mu) (hO:Owns Gt (ckB b ms ml mr mb mu s.n :: (mb,mpK (mSet s.bef)) :: L) w0) (hv:RepV Gt (.sl 6 (l.map RowD.dat)) v) (hz:zRows l < m) (ht0:0≤t) (ht4:t≤4) (hs0:0≤s.n) (hs1:s.n+(zRows l:Nat)≤1099511627776) :
  Calls Tryz.prog 103 #[.pointer (some ⟨b,0,none⟩),v,.agg #[.bool false,.bool note,vi t]] w0 (RetL w0 Gt (ckB b ms ml mr mb mu s.n :: (mb,mpK (mSet s.bef)) :: L) fun u G' L'=>CkR b ms ml mr mb mu L (rowsC0 l.length (fun s=>rowsC (ckP st li rv) note t l s) s) u L'):=by
 obtain ⟨A,c,rfl,hc1,hc2,hg⟩:=hv.slice;rw [List.length_map] at *;have hll:=zRows_length l;refine enterL (N:=77) (T:=[(0,_),(1,_),(2,_)]) Tryz.func103 rfl Tryz.ntmps103 rfl rfl hO ?_;intro a H;refine c_seqR (fun _ K1=>?_);refine s_box (cs:=[_,_,_]) H wn rfl rfl rfl ?_;clear H;intro b5 a w hb5 H;refine kH H (Ra rfl (Kz K1 (SQ fun _ K2=>SR fun _ K3=>Rm rfl (Rl un83run rfl (Rc rfl (Kz K3 ?_))))));clear H K1 K3;intro a H;refine c_cond H rfl ?_ ?_
 ·intro h17
  try have p17:=dT h17
  refine c_seq (fun _ K4=>?_);have hE:rowsC0 l.length (fun s=>rowsC (ckP st li rv) note t l s) s=(11,s):=if_pos (by omega);refine kP H (SC (Ra rfl (Kn K4 ?_)));clear H K4;intro a H;refine lr H Tryz.results103 rfl ?_;exact H.hp.retD (L':=ckB b ms ml mr mb mu s.n :: (mb,mpK (mSet s.bef)) :: L) (by repeat (first|exact List.Sublist.refl _|apply List.Sublist.cons)) ⟨s,by rw [hE],rfl,fun h=>by rw [hE]⟩
 intro h17
 try have p17:=dF h17
 refine kP H (Kc K2 (SQ fun _ K5=>SR fun _ K6=>Rm rfl (Rl un83run rfl (Rc rfl (Kz K6 ?_)))));clear H K2 K6;intro a H;refine c_cond H rfl ?_ ?_
 ·intro h20
  try have p20:=dT h20
  refine c_seq (fun _ K7=>?_)
  have hE:rowsC0 l.length (fun s=>rowsC (ckP st li rv) note t l s) s=(9,s):=by rw [rowsC0,if_neg (by omega),if_pos (by omega)]
  refine kP H (SC (Ra rfl (Kn K7 ?_)));clear H K7;intro a H;refine lr H Tryz.results103 rfl ?_;exact H.hp.retD (L':=ckB b ms ml mr mb mu s.n :: (mb,mpK (mSet s.bef)) :: L) (by repeat (first|exact List.Sublist.refl _|apply List.Sublist.cons)) ⟨s,by rw [hE],rfl,fun h=>by rw [hE]⟩
 intro h20
 try have p20:=dF h20
 refine kP H (Kc K5 (SQ fun _ K8=>SQ fun _ K9=>?_));clear H K5;intro a H
 have hE:rowsC0 l.length (fun s=>rowsC (ckP st li rv) note t l s) s=rowsC (ckP st li rv) note t l s:=by rw [rowsC0,if_neg (by omega),if_neg (by omega)]
 refine kP H (SC (Rm rfl (Rl un83run rfl (Rm rfl (Kn K9 (SB ?_))))));clear H K9;intro a H;skip;refine c_loopS (ι:=Nat × CS × GH) (Tc:=[(0,_),(5,_),(21,_),(22,_)]) (Lc:=[(_,_)]) (fun (gh:Nat × CS × GH)=>[(23,vi gh.1)]) (fun (gh:Nat × CS × GH)=>[ckB b ms ml mr mb mu gh.2.1.n,(mb,mpK (mSet gh.2.1.bef))]++L) (fun (gh:Nat × CS × GH)=>gh.2.2) (fun (gh:Nat × CS × GH)=>gh.1≤l.length∧(∀ b o,Gt b=some o→gh.2.2 b=some o)∧rowsC (ckP st li rv) note t l s=rowsC (ckP st li rv) note t (l.drop gh.1) gh.2.1∧0≤gh.2.1.n∧gh.2.1.n+(zRows (l.drop gh.1):Nat)≤1099511627776) (fun (gh:Nat × CS × GH)=>l.length - gh.1) ((0,s,Gt)) (by exact (H).sub ⟨rfl,rfl,rfl,rfl,rfl,trivial⟩) ?_ ?_
 ·exact ⟨Nat.zero_le _,fun _ _ h=>h,rfl,hs0,hs1⟩
 clear H;intro gh a w hI H;obtain ⟨k,s1,g⟩:=gh;dsimp only at hI H;obtain ⟨hk,hgm,hR,hn0,hn1⟩:=hI;dsimp only [List.cons_append,List.nil_append,List.append_nil] at H;refine kP H (SR fun _ K10=>Rc rfl (Kz K10 (SQ fun _ K11=>?_)));clear H K10;intro a H;refine c_cond H rfl ?_ ?_
 ·intro h24
  try have p24:=dT h24
  have hk2:k < l.length:=by omega
  have hsz:=zRows_get hk2;have hcs:=zCells_length l[k].cells
  have hdz:zRows (l.drop k)=1+szR l[k].dat+zRows (l.drop (k+1)):=by simp only [zRows];rw [List.drop_eq_getElem_cons hk2,List.map_cons,szRs]
  have hrz:=zRow_eq l[k];obtain ⟨xb,xo,qA,qn,qc,eA,en,ec,zA,zn,zc,cA,cn,cc,rfl,hrow,hrh,hcl⟩:=row_get hk2 hg;replace hrow:=fun j u hj=>gcell_mono hgm (hrow j u hj);replace hrh:=hrh.mono hgm;replace hcl:=hcl.mono hgm;have hcn:=hcl.len;rw [List.length_map] at hcn;subst hcn;have hckg:=hck.mono hgm;rw [List.drop_eq_getElem_cons hk2,rowsC,rowC_eq] at hR;refine kP H (Kc K11 (SQ fun _ K12=>SB (SR fun _ K13=>Ri un83run ty88run rfl rfl ?_)));clear H K11;intro a H;refine s_loada ty88run (cs:=[_,_,_,_,_,_]) H wn rfl rfl (fun j v hj=>H.hp.gcell (hrow j v hj)) rfl ?_;clear H;intro a H;refine s_alloc ty88run H wn rfl ?_;clear H;intro b8 a w hb8 H;refine s_store ty88run 0 (vs:=[_,_,_,_,_,_]) _ H wn rfl rfl rfl rfl rfl rfl rfl rfl ?_;clear H;intro w H;dsimp only [List.set,setRow] at H;refine K13 _ _ ?_;clear K13;refine c_seq (fun _ K14=>?_);refine c_seq (fun _ K15=>?_);refine c_drawI (hmx) [[],[],[1],[0,1,2],[],[4],[4,5],[4,5,6],(List.range 8),[],[9],[9,10],[9,10,11],(List.range 13),(List.range 14),(List.range 15),(List.range 16)] [14,15,16] (by kernel_rfl) (by kernel_rfl) (fun (ix_:Nat) (v:Value) (G:GH)=>match ix_ with|0=>v=.pointer (some ⟨b,0,none⟩)|1=>v=.pointer (some ⟨b8,0,none⟩)|2=>v=hdV l[k].head (.slice qA qn qc) (.slice eA en ec) (.slice zA zn zc)|3=>v=vi (headE (ckP st li rv) 9 l[k].head)|4=>v=.pointer (some ⟨b8,5,none⟩)|5=>v=.slice cA l[k].cells.length cc|6=>v=vi l[k].cells.length|7=>v=.bool (decide ((l[k].cells.length:Int)=0))|8=>v=vi (whenE (decide ((l[k].cells.length:Int)=0)) 11)|9=>v=.pointer (some ⟨b8,5,none⟩)|10=>v=.slice cA l[k].cells.length cc|11=>v=vi l[k].cells.length|12=>v=.bool (decide (32 < (l[k].cells.length:Int)))|13=>v=vi (whenE (decide (32 < (l[k].cells.length:Int))) 9)|_=>True) (fun _ _ _ _ _ h=>h) H ?_ ?_
  ·clear H;refine al4 ?_ ?_ ?_ ?_ (al4 ?_ ?_ ?_ ?_ (al4 ?_ ?_ ?_ ?_ (al4 ?_ ?_ ?_ ?_ (allI_cons ?_ allI_nil))))
   ·exact Z0 rfl rfl fun _ _ _ _ _=>Rm rfl
   ·exact Z0 rfl rfl fun _ _ _ _ _=>Rf fd88_0run rfl
   ·refine Op1 1 28 rfl rfl fun _ a w G1 hG HT H fin=>?_;refine s_loada ty29run (cs:=[_,_,_,_,_]) H wn rfl rfl (H.hp.ocells 0 rfl rfl) rfl ?_;clear H;intro a H;exact fin H iJ rfl
   ·refine Op2 0 27 2 29 rfl rfl fun _ a w G1 hG HT H fin=>?_;refine s_callL en43rws (Li:=[_,_]) (L:=ckB b ms ml mr mb mu s1.n :: (mb,mpK (mSet s1.bef)) :: L) H wn rfl (headL_spec _ _ _ st li rv b ms ml mr mb mu _ (hckg.mono hG) (Hp.owns (Li:=[_,_]) H.hp) 9 l[k].head _ _ _ (hrh.mono hG) (by omega)) rfl ?_;clear H;rintro v30 _ _ a w ⟨rfl,rfl,rfl⟩ hGm30 H;dsimp only [List.cons_append,List.nil_append] at H;exact fin H hGm30 (rfl)
   ·exact Z0 rfl rfl fun _ _ _ _ _=>Rf fd88_1run rfl
   ·exact Z1 4 31 rfl rfl fun _ _ _ _ _=>Ro ty86run 0 rfl rfl
   ·exact Z1 5 32 rfl rfl fun _ _ _ _ _=>Rl un86run rfl
   ·exact Z1 6 33 rfl rfl fun _ _ _ _ _=>Rc rfl
   ·refine Op1 7 34 rfl rfl fun _ a w G1 hG HT H fin=>?_;refine s_call en44nam H wn rfl (when_spec _ _ H.hp.ro _ 11) rfl ?_;clear H;rintro v35 G35 a w ⟨rfl,-⟩ hGm35 H;exact fin H hGm35 (rfl)
   ·exact Z0 rfl rfl fun _ _ _ _ _=>Rf fd88_1run rfl
   ·exact Z1 9 36 rfl rfl fun _ _ _ _ _=>Ro ty86run 0 rfl rfl
   ·exact Z1 10 37 rfl rfl fun _ _ _ _ _=>Rl un86run rfl
   ·exact Z1 11 38 rfl rfl fun _ _ _ _ _=>Rc rfl
   ·refine Op1 12 39 rfl rfl fun _ a w G1 hG HT H fin=>?_;refine s_call en44nam H wn rfl (when_spec _ _ H.hp.ro _ 9) rfl ?_;clear H;rintro v40 G40 a w ⟨rfl,-⟩ hGm40 H;exact fin H hGm40 (rfl)
   ·exact opB rfl
   ·exact opB rfl
   exact opB rfl
  clear H;intro a w G hGm8 H hv;obtain ⟨u30,hu30,hp30⟩:=hv 3 30 (by decide) rfl;obtain rfl:u30=vi (headE (ckP st li rv) 9 l[k].head):=hp30;have H:=H.addS hu30;obtain ⟨u35,hu35,hp35⟩:=hv 8 35 (by decide) rfl;obtain rfl:u35=vi (whenE (decide ((l[k].cells.length:Int)=0)) 11):=hp35;have H:=H.addS hu35;obtain ⟨u40,hu40,hp40⟩:=hv 13 40 (by decide) rfl;obtain rfl:u40=vi (whenE (decide (32 < (l[k].cells.length:Int))) 9):=hp40;have H:=H.addS hu40;clear hv;refine s_buildSlice un127fst ty46idx [_,_,_] [_,_,_] H wn rfl rfl rfl rfl rfl (by intro i q h;match i,h with|0,h=>exact h|1,h=>exact h|2,h=>exact h|n+3,h=>simp at h) rfl rfl ?_;clear H;intro b41 a w hb41 H;obtain ⟨G41,hm41,hb41',H⟩:=H.giveBox;have hgm1:∀ b o,Gt b=some o→G41 b=some o:=fun b o h=>hm41 _ _ (hGm8 _ _ (hgm _ _ h));refine s_call en39nam H wn rfl (first_spec1 _ _ H.hp.ro _ _ (ints_rep [headE (ckP st li rv) 9 l[k].head,whenE (decide ((l[k].cells.length:Int)=0)) 11,whenE (decide (32 < (l[k].cells.length:Int))) 9] hb41' (show 3≤maxLen by decide))) rfl ?_;clear H;rintro v42 _ a w ⟨rfl,rfl⟩ - H;refine kH H (Ra rfl ?_);clear H;intro a H;refine wl_nil ⟨rfl,?_⟩;refine K15 _ _ ?_;clear K15;refine kP H (SR fun _ K16=>Rm rfl (Rc rfl (Kz K16 ?_)));clear H K16;intro a H;refine c_cond H rfl ?_ ?_
  ·intro h44
   try have p44:=dT h44
   have e44:rowE (ckP st li rv) l[k].head l[k].cells.length≠0:=p44
   have hF1:(rowsC0 l.length (fun s=>rowsC (ckP st li rv) note t l s) s).1=rowE (ckP st li rv) l[k].head l[k].cells.length:=by rw [hE,hR,andT_err (r:=(rowE (ckP st li rv) l[k].head l[k].cells.length,s1)) e44,andT_err e44]
   have hF2:(rowsC0 l.length (fun s=>rowsC (ckP st li rv) note t l s) s).1=0→s1=(rowsC0 l.length (fun s=>rowsC (ckP st li rv) note t l s) s).2:=fun h=>absurd (hF1.symm.trans h) e44;refine kP H (SR fun _ K17=>Rm rfl (Ra rfl (Kz K17 ?_)));clear H K17;intro a H;refine lr H Tryz.results103 rfl ?_;exact H.hp.retD (L':=ckB b ms ml mr mb mu s1.n :: (mb,mpK (mSet s1.bef)) :: L) (by repeat (first|exact List.Sublist.refl _|apply List.Sublist.cons)) ⟨s1,congrArg vi hF1.symm,rfl,hF2⟩
  intro h44
  try have p44:=dF h44
  have e44:rowE (ckP st li rv) l[k].head l[k].cells.length=0:=Decidable.not_not.1 p44;rw [andT_ok (r:=(rowE (ckP st li rv) l[k].head l[k].cells.length,s1)) e44] at hR;dsimp only at hR;have hckg1:=hck.mono hgm1;replace hcl:=hcl.mono (fun b o h=>hm41 _ _ (hGm8 b o h));refine kP H (Kc K14 (SR fun _ K18=>Rf fd88_1run rfl (Ro ty86run 0 rfl rfl (Rl un86run rfl (Rm rfl (Kz K18 (SB ?_)))))));clear H K14 K18;intro a H;skip;refine c_loopS (ι:=Nat × CS × GH) (Tc:=[(0,_),(5,_),(21,_),(22,_),(23,_),(47,_),(48,_)]) (Lc:=[(_,_),(_,_)]) (fun (gh:Nat × CS × GH)=>[(49,vi gh.1)]) (fun (gh:Nat × CS × GH)=>[ckB b ms ml mr mb mu gh.2.1.n,(mb,mpK (mSet gh.2.1.bef))]++L) (fun (gh:Nat × CS × GH)=>gh.2.2) (fun (gh:Nat × CS × GH)=>gh.1≤l[k].cells.length∧(∀ b o,G41 b=some o→gh.2.2 b=some o)∧rowsC (ckP st li rv) note t l s=andT (cellsC (ckP st li rv) note t (l[k].cells.drop gh.1) gh.2.1) (fun s=>rowsC (ckP st li rv) note t (l.drop (k+1)) s)∧0≤gh.2.1.n∧gh.2.1.n+(zCells (l[k].cells.drop gh.1):Nat)+(zRows (l.drop (k+1)):Nat)≤1099511627776) (fun (gh:Nat × CS × GH)=>l[k].cells.length - gh.1) ((0,s1,G41)) (by exact (H).sub ⟨rfl,rfl,rfl,rfl,rfl,rfl,rfl,rfl,trivial⟩) ?_ ?_
  ·exact ⟨Nat.zero_le _,fun _ _ h=>h,hR,hn0,by dsimp only;rw [List.drop_zero];omega⟩
  clear H;intro gh a w hI H;obtain ⟨c,s2,g2⟩:=gh;dsimp only at hI H;obtain ⟨hc,hgm2',hR2,hm0,hm1⟩:=hI;have hgm2:=fun b o h=>hgm2' b o (hgm1 b o h);dsimp only [List.cons_append,List.nil_append,List.append_nil] at H;refine kP H (SR fun _ K19=>Rc rfl (Kz K19 (SQ fun _ K20=>?_)));clear H K19;intro a H;refine c_cond H rfl ?_ ?_
  ·intro h50
   try have p50:=dT h50
   have hk4:c < l[k].cells.length:=by omega
   have hsz4:=zCells_get hk4
   have hdz4:zCells (l[k].cells.drop c)=1+szR l[k].cells[c].dat+zCells (l[k].cells.drop (c+1)):=by simp only [zCells];rw [List.drop_eq_getElem_cons hk4,List.map_cons,szRs]
   have hcz:=zCell_eq l[k].cells[c];obtain ⟨b3',o3,sA,sn,sc,tA,tn,tc,uA,un,uc,gA,gn,gc,rfl,hrow,hch,hcf⟩:=cell_get hk4 (hcl.mono hgm2').at_;have hckg2:=hckg1.mono hgm2';rw [List.drop_eq_getElem_cons hk4,cellsC,cellC_eq] at hR2;obtain ⟨y,hy⟩:∃ y,y=l[k].cells[c]:=⟨_,rfl⟩;rw [← hy] at hR2 hrow hch hcf hcz hsz4 hdz4;refine kP H (Kc K20 (SQ fun _ K21=>SB (SR fun _ K22=>Ri un86run ty90run rfl rfl ?_)));clear H K20;intro a H;refine s_loada ty90run (cs:=[_,_,_,_,_,_,_]) H wn rfl rfl (fun j v hj=>H.hp.gcell (hrow j v hj)) rfl ?_;clear H;intro a H;refine s_alloc ty90run H wn rfl ?_;clear H;intro b11 a w hb11 H;refine s_store ty90run 0 (vs:=[_,_,_,_,_,_,_]) _ H wn rfl rfl rfl rfl rfl rfl rfl rfl ?_;clear H;intro w H;dsimp only [List.set,setRow] at H;refine K22 _ _ ?_;clear K22;refine kP H (SQ fun _ K23=>SR fun _ K24=>Rm rfl (Rf fd90_0run rfl (Ro ty3run 0 rfl rfl ?_)));clear H;intro a H;refine s_callL en102rws (Li:=[_,_,_]) (L:=ckB b ms ml mr mb mu s2.n :: (mb,mpK (mSet s2.bef)) :: L) H wn rfl (ckId_spec _ _ _ st li rv b ms ml mr mb mu _ s2.bef y.id hckg2 (Hp.owns (Li:=[_,_,_]) H.hp)) rfl ?_;clear H;rintro v56 _ _ a w ⟨rfl,rfl,rfl⟩ - H;dsimp only [List.cons_append,List.nil_append] at H;refine kH H (Ra rfl (Kz K24 (SR fun _ K25=>Rm rfl (Rc rfl (Kz K25 ?_)))));clear H K24 K25;intro a H;refine c_cond H rfl ?_ ?_
   ·intro h58
    try have p58:=dT h58
    have hF1:(rowsC0 l.length (fun s=>rowsC (ckP st li rv) note t l s) s).1=idE s2.bef y.id:=by rw [hE,hR2];simp [andT,idC,p58]
    have hF2:(rowsC0 l.length (fun s=>rowsC (ckP st li rv) note t l s) s).1=0→(⟨s2.n,idB s2.bef y.id⟩:CS)=(rowsC0 l.length (fun s=>rowsC (ckP st li rv) note t l s) s).2:=fun h=>absurd (hF1.symm.trans h) p58;refine kP H (SR fun _ K26=>Rm rfl (Ra rfl (Kz K26 ?_)));clear H K26;intro a H;refine lr H Tryz.results103 rfl ?_;exact H.hp.retD (L':=ckB b ms ml mr mb mu s2.n :: (mb,mpK (mSet (idB s2.bef y.id))) :: L) (by repeat (first|exact List.Sublist.refl _|apply List.Sublist.cons)) ⟨⟨s2.n,idB s2.bef y.id⟩,congrArg vi hF1.symm,rfl,hF2⟩
   intro h58
   try have p58:=dF h58
   have e58:idE s2.bef y.id=0:=Decidable.not_not.1 p58;refine kP H (Kc K23 (SQ fun _ K27=>SR fun _ K28=>Rm rfl (Rf fd90_1run rfl ?_)));clear H K23;intro a H;refine s_loada ty29run (cs:=[_,_,_,_,_]) H wn rfl rfl (H.hp.ocells 0 rfl rfl) rfl ?_;clear H;intro a H;refine s_callL en43rws (Li:=[_,_,_]) (L:=ckB b ms ml mr mb mu s2.n :: (mb,mpK (mSet (idB s2.bef y.id))) :: L) H wn rfl (headL_spec _ _ _ st li rv b ms ml mr mb mu _ hckg2 (Hp.owns (Li:=[_,_,_]) H.hp) 10 y.head _ _ _ hch (by omega)) rfl ?_;clear H;rintro v63 _ _ a w ⟨rfl,rfl,rfl⟩ - H;dsimp only [List.cons_append,List.nil_append] at H;refine kH H (Ra rfl (Kz K28 (SR fun _ K29=>Rm rfl (Rc rfl (Kz K29 ?_)))));clear H K28 K29;intro a H;refine c_cond H rfl ?_ ?_
   ·intro h65
    try have p65:=dT h65
    have hF1:(rowsC0 l.length (fun s=>rowsC (ckP st li rv) note t l s) s).1=headE (ckP st li rv) 10 y.head:=by rw [hE,hR2];simp [andT,idC,e58,p65]
    have hF2:(rowsC0 l.length (fun s=>rowsC (ckP st li rv) note t l s) s).1=0→(⟨s2.n,idB s2.bef y.id⟩:CS)=(rowsC0 l.length (fun s=>rowsC (ckP st li rv) note t l s) s).2:=fun h=>absurd (hF1.symm.trans h) p65;refine kP H (SR fun _ K30=>Rm rfl (Ra rfl (Kz K30 ?_)));clear H K30;intro a H;refine lr H Tryz.results103 rfl ?_;exact H.hp.retD (L':=ckB b ms ml mr mb mu s2.n :: (mb,mpK (mSet (idB s2.bef y.id))) :: L) (by repeat (first|exact List.Sublist.refl _|apply List.Sublist.cons)) ⟨⟨s2.n,idB s2.bef y.id⟩,congrArg vi hF1.symm,rfl,hF2⟩
   intro h65
   try have p65:=dF h65
   have e65:headE (ckP st li rv) 10 y.head=0:=Decidable.not_not.1 p65;refine kP H (Kc K27 (SR fun _ K31=>Rm rfl (Rf fd90_2run rfl (Ro ty22run 0 rfl rfl ?_))));clear H K27;intro a H;refine s_loada ty103doc (cs:=[_,_,_]) H wn rfl rfl (H.hp.ocells 2 rfl rfl) rfl ?_;clear H;intro a H;refine s_callL en45rws (Li:=[_,_,_]) (L:=ckB b ms ml mr mb mu s2.n :: (mb,mpK (mSet (idB s2.bef y.id))) :: L) H wn rfl (ih _ _ _ st li rv b ms ml mr mb mu ⟨s2.n,idB s2.bef y.id⟩ y.flow _ false note t hckg2 (Hp.owns (Li:=[_,_,_]) H.hp) hcf (by omega) ht0 ht4 hm0 (by dsimp only;omega)) rfl ?_;clear H;rintro v71 _ _ a w ⟨rfl,s3,rfl,rfl,h3⟩ - H;dsimp only [List.cons_append,List.nil_append] at H;refine kH H (Ra rfl (Kz K31 (SR fun _ K32=>Rm rfl (Rc rfl (Kz K32 ?_)))));clear H K31 K32;intro a H;refine c_cond H rfl ?_ ?_
   ·intro h73
    try have p73:=dT h73
    have hF1:(rowsC0 l.length (fun s=>rowsC (ckP st li rv) note t l s) s).1=(itemsC (ckP st li rv) false note t y.flow ⟨s2.n,idB s2.bef y.id⟩).1:=by rw [hE,hR2];simp [andT,idC,e58,e65,p73]
    have hF2:(rowsC0 l.length (fun s=>rowsC (ckP st li rv) note t l s) s).1=0→s3=(rowsC0 l.length (fun s=>rowsC (ckP st li rv) note t l s) s).2:=fun h=>absurd (hF1.symm.trans h) p73;refine kP H (SR fun _ K33=>Rm rfl (Ra rfl (Kz K33 ?_)));clear H K33;intro a H;refine lr H Tryz.results103 rfl ?_;exact H.hp.retD (L':=ckB b ms ml mr mb mu s3.n :: (mb,mpK (mSet s3.bef)) :: L) (by repeat (first|exact List.Sublist.refl _|apply List.Sublist.cons)) ⟨s3,congrArg vi hF1.symm,rfl,hF2⟩
   intro h73
   try have p73:=dF h73
   have e73:(itemsC (ckP st li rv) false note t y.flow ⟨s2.n,idB s2.bef y.id⟩).1=0:=Decidable.not_not.1 p73;obtain ⟨hu1,hu2⟩:=up_items (ckP st li rv) false note t y.flow ⟨s2.n,idB s2.bef y.id⟩;rw [← h3 e73] at hu1 hu2;dsimp only at hu1 hu2
   have hS:andT (andT (andT (idC s2 y.id) fun s=>andT (headE (ckP st li rv) 10 y.head,s) fun s=>itemsC (ckP st li rv) false note t y.flow s) fun s=>cellsC (ckP st li rv) note t (l[k].cells.drop (c+1)) s) (fun s=>rowsC (ckP st li rv) note t (l.drop (k+1)) s)=andT (cellsC (ckP st li rv) note t (l[k].cells.drop (c+1)) s3) (fun s=>rowsC (ckP st li rv) note t (l.drop (k+1)) s):=by
    rw [h3 e73];simp [andT,idC,e58,e65,e73]
   refine kP H (Kc K21 (SC (Rd rfl (Rm rfl ?_))));clear H K21;intro a H;refine wl_nil ?_;refine loop_end ((c+1,s3,g2)) (by exact (H.pickT (Pl:=[_,_,_,_,_]) (Pl':=[_,_,_,_]) [1,2,3,4] (by decide) rfl).sub ⟨rfl,rfl,rfl,rfl,rfl,rfl,rfl,rfl,trivial⟩) ?_ ?_
   ·(try dsimp only);exact ⟨by omega,hgm2',hR2.trans hS,by omega,by omega⟩
   first|omega|(dsimp only;omega)
  intro h50
  try have p50:=dF h50
  refine c_exit ?_;refine K12 _ _ ?_;clear K12;refine kP H (SC (Rd rfl (Rm rfl ?_)));clear H;intro a H;refine wl_nil ?_;refine loop_end ((k+1,s2,g2)) (by exact (H.pickT (Pl:=[_,_,_,_]) (Pl':=[_,_,_]) [1,2,3] (by decide) rfl).sub ⟨rfl,rfl,rfl,rfl,rfl,trivial⟩) ?_ ?_
  ·(try dsimp only);exact ⟨by omega,hgm2,by rw [hR2,List.drop_of_length_le (by omega),cellsC,andT_ok rfl],hm0,by omega⟩
  first|omega|(dsimp only;omega)
 intro h24
 try have p24:=dF h24
 refine c_exit ?_;refine K8 _ _ ?_;clear K8;refine c_seq (fun _ K34=>?_)
 have hF1:(rowsC0 l.length (fun s=>rowsC (ckP st li rv) note t l s) s).1=0:=by rw [hE,hR,List.drop_of_length_le (by omega),rowsC]
 have hF2:(rowsC0 l.length (fun s=>rowsC (ckP st li rv) note t l s) s).1=0→s1=(rowsC0 l.length (fun s=>rowsC (ckP st li rv) note t l s) s).2:=fun h=>by rw [hE,hR,List.drop_of_length_le (by omega),rowsC]
 refine kP H (SC (Ra rfl (Kn K34 ?_)));clear H K34;intro a H;refine lr H Tryz.results103 rfl ?_;exact H.hp.retD (L':=ckB b ms ml mr mb mu s1.n :: (mb,mpK (mSet s1.bef)) :: L) (by repeat (first|exact List.Sublist.refl _|apply List.Sublist.cons)) ⟨s1,congrArg vi hF1.symm,rfl,hF2⟩
end
section
open Go.RowKit
theorem en103itm:∀ args w,(callFunc 103 args).run Tryz.prog w=.ok (.enter 103 args) w:=enters Tryz.func103 rfl (by kernel_rfl)
theorem en101itm:∀ args w,(callFunc 101 args).run Tryz.prog w=.ok (.enter 101 args) w:=enters Tryz.func101 rfl (by kernel_rfl)
theorem fd107_5itm:Fld Tryz.prog 107 5 5:=⟨by kernel_rfl⟩
theorem fd103_0itm:Fld Tryz.prog 103 0 0:=⟨by kernel_rfl⟩
theorem one_rep {G:GH} {b:Nat} {x:Int} (h:G b=some (.cells #[vi x] 46 (0,0))):RepV G (.sl 1 ([x].map fun k=>[li k])) (.slice (some ⟨b,0,none⟩) 1 1):=ints_rep [x] h (show 1≤maxLen by decide)
theorem item_ok {m:Nat} (ih:ItemsOk m) (hm:m≤4294967296) (Gt:GH) (L:OL) (w0:World) (st:List StyleD) (li:List LiD) (rv:List RvD) (b ms ml mr mb mu:Nat) (s:CS) (x:ItemD) (p d y f r:Value) (body note:Bool) (t:Int)
  (hck:CkG Gt st li rv ms ml mr mu) (hO:Owns Gt (ckB b ms ml mr mb mu s.n :: (mb,mpK (mSet s.bef)) :: L) w0) (hh:HeadR Gt x.head p d y) (hf:RepV Gt (.sl 11 (x.flow.map ItemD.dat)) f) (hr:RepV Gt (.sl 6 (x.rows.map RowD.dat)) r) (hz:szR x.dat≤m) (ht0:0≤t) (ht4:t≤4) (hs0:0≤s.n) (hs1:s.n+(szR x.dat:Nat)≤1099511627776) :
  Calls Tryz.prog 74 #[.pointer (some ⟨b,0,none⟩),.agg #[vi x.kind,vi x.code,vi x.id,.string x.text,p,vi x.head.marks.ins,vi x.head.marks.move,d,y,f,r],.agg #[.bool body,.bool note,vi t]] w0 (RetL w0 Gt (ckB b ms ml mr mb mu s.n :: (mb,mpK (mSet s.bef)) :: L) fun u G' L'=>CkR b ms ml mr mb mu L (itemC (ckP st li rv) body note t x s) u L'):=by
 obtain ⟨pA,pn,pc,rfl⟩:=hh.props.form;obtain ⟨dA,dn,dc,rfl⟩:=hh.dels.form;obtain ⟨lA,ln,lc,rfl⟩:=hh.layers.form;obtain ⟨fA,fc,rfl,-⟩:=hf.slice;obtain ⟨rA,rc,rfl,-⟩:=hr.slice;(iterate 2 rw [List.length_map] at *);have hxz:=zItem_eq x;have hcl:=cntS_le x.text
 have hus:unitsS x≤x.text.size+1:=by unfold unitsS;split <;> omega
 have hE:=itemC_eq (ckP st li rv) body note t x s;refine enterL (N:=117) (T:=[(0,_),(1,_),(2,_)]) Tryz.func74 rfl Tryz.ntmps74 rfl rfl hO ?_;intro a H;refine c_seqR (fun _ K1=>?_);refine s_box (cs:=[_,_,_,_,_,_,_,_,_,_,_]) H wn rfl rfl rfl ?_;clear H;intro b4 a w hb4 H;refine s_box (cs:=[_,_,_]) H wn rfl rfl rfl ?_;clear H;intro b5 a w hb5 H;refine kH H (Ra rfl (Kz K1 (SQ fun _ K2=>SR fun _ K3=>?_)));clear H K1;intro a H;refine s_loada ty85run (cs:=[_,_,_,_,_,_,_,_,_,_,_]) H wn rfl rfl (H.hp.ocells 1 rfl rfl) rfl ?_;clear H;intro a H;refine s_call en101itm H wn rfl (form_spec _ _ H.hp.ro x _ _ _ _ _ _ _ (by omega)) rfl ?_;clear H;rintro v15 _ a w ⟨rfl,rfl⟩ - H;refine kH H (Ra rfl (Kz K3 (SR fun _ K4=>Rm rfl (Rc rfl (Kz K4 ?_)))));clear H K3 K4;intro a H;refine c_cond H rfl ?_ ?_
 ·intro h17
  try have p17:=dT h17
  rw [andT_err (r:=(formE x,s)) p17] at hE;refine kP H (SR fun _ K5=>Rm rfl (Ra rfl (Kz K5 ?_)));clear H K5;intro a H;refine lr H Tryz.results74 rfl ?_;exact H.hp.retD (L':=ckB b ms ml mr mb mu s.n :: (mb,mpK (mSet s.bef)) :: L) (by repeat (first|exact List.Sublist.refl _|apply List.Sublist.cons)) ⟨s,by rw [hE],rfl,fun h=>by rw [hE]⟩
 intro h17
 try have p17:=dF h17
 rw [andT_ok (r:=(formE x,s)) (Decidable.not_not.1 p17)] at hE;dsimp only at hE;refine kP H (Kc K2 (SR fun _ K6=>Rm rfl (Rk rfl (Rf fd107_5itm rfl (Ro ty3run 2 rfl rfl (Rd rfl (Rk rfl (Rf fd107_5itm rfl ?_))))))));clear H K2;intro a H;refine s_store ty3run 2 (vs:=[_]) _ H wn rfl rfl rfl rfl rfl rfl rfl rfl ?_;clear H;intro w H;dsimp only [List.set,setRow] at H;refine K6 _ _ ?_;clear K6;refine c_seqJ (ι:=CS × GH) (Tc:=[(0,_),(4,_),(5,_)]) (Lc:=[(_,_),(_,_)]) (fun (gh:CS × GH)=>[]) (fun (gh:CS × GH)=>[ckB b ms ml mr mb mu gh.1.n,(mb,mpK (mSet gh.1.bef))]++L) (fun (gh:CS × GH)=>gh.2) (fun (gh:CS × GH)=>preC body note t x.kind x.id ⟨s.n+(unitsS x:Nat),s.bef⟩=(0,gh.1)∧(∀ b o,Gt b=some o→gh.2 b=some o)∧gh.1.n=s.n+(unitsS x:Nat)∧(x.kind=7→t < 4)) (by exact (H).sub ⟨rfl,rfl,rfl,trivial⟩) ?_ ?_
 ·skip;refine kP H (SR fun _ K7=>Rf fd85_0run rfl (Ro ty3run 1 rfl rfl (Kz K7 (SB (SR fun _ K8=>Rc rfl (Ra rfl (Kz K8 ?_)))))));clear H K7 K8;intro a H;refine c_cond H rfl ?_ ?_
  ·intro h28
   try have p28:=dT h28
   have hu:((unitsS x:Nat):Int)=cntS x.text:=by rw [unitsS,if_pos p28]
   refine kP H (SR fun _ K9=>Rf fd85_3run rfl (Ro ty9run 1 rfl rfl ?_));clear H;intro a H;refine s_call en57run H wn rfl (count_spec _ _ H.hp.ro x.text (by omega)) rfl ?_;clear H;rintro v33 _ a w ⟨rfl,rfl⟩ - H;refine kH H (Rm rfl ?_);clear H;intro a H;(iterate 2 refine s_extract H wn rfl rfl rfl ?_;clear H;intro a H);refine kH H (Ra rfl (Ra rfl (Kz K9 (SC (Rm rfl (Rk rfl (Rf fd107_5itm rfl (Ro ty3run 2 rfl rfl (Rm rfl (Rs rfl (Rd rfl ?_)))))))))));clear H K9;intro a H;rw [show s.n+1+((cntS x.text:Int) - 1)=s.n+(unitsS x:Nat) by omega] at H;refine kH H (Rk rfl (Rf fd107_5itm rfl ?_));clear H;intro a H;refine s_store ty3run 2 (vs:=[_]) _ H wn rfl rfl rfl rfl rfl rfl rfl rfl ?_;clear H;intro w H;dsimp only [List.set,setRow] at H;refine wl_nil ?_;refine ⟨(⟨s.n+(unitsS x:Nat),s.bef⟩,Gt),by exact (H).sub ⟨rfl,rfl,rfl,trivial⟩,?_⟩;(try dsimp only)
   first
   | exact ⟨by simp_all [preC,whenE,andT,idC],fun _ _ h=>h,rfl,fun h7=>by first|omega|(exfalso;simp_all)⟩
   | exact ⟨by simp_all [preC,whenE,andT,idC],hm55,rfl,fun h7=>by first|omega|(exfalso;simp_all)⟩
  intro h28
  try have p28:=dF h28
  have hu:((unitsS x:Nat):Int)=1:=by rw [unitsS,if_neg p28];rfl
  rw [show s.n+1=s.n+((unitsS x:Nat):Int) by omega] at H;refine kP H (SR fun _ K10=>Rc rfl (Ra rfl (Kz K10 ?_)));clear H K10;intro a H;refine c_cond H rfl ?_ ?_
  ·intro h45
   try have p45:=dT h45
   refine kP H (SR fun _ K11=>Rf fd103_0itm rfl (Ro ty4doc 0 rfl rfl (Rn rfl (Kz K11 ?_))));clear H K11;intro a H;refine c_cond H rfl ?_ ?_
   ·intro h49
    try have p49:=dT h49
    refine c_seq (fun _ K12=>?_)
    have hF1:(itemC (ckP st li rv) body note t x s).1=19:=by rw [hE];simp [andT,preC,p45,whenE,h49]
    have hF2:(itemC (ckP st li rv) body note t x s).1=0→(⟨s.n+(unitsS x:Nat),s.bef⟩:CS)=(itemC (ckP st li rv) body note t x s).2:=fun h=>absurd (hF1.symm.trans h) (by decide);refine kP H (SC (Ra rfl (Kn K12 ?_)));clear H K12;intro a H;refine lr H Tryz.results74 rfl ?_;exact H.hp.retD (L':=ckB b ms ml mr mb mu (s.n+(unitsS x:Nat)) :: (mb,mpK (mSet (s.bef))) :: L) (by repeat (first|exact List.Sublist.refl _|apply List.Sublist.cons)) ⟨⟨s.n+(unitsS x:Nat),s.bef⟩,congrArg vi hF1.symm,rfl,hF2⟩
   intro h49
   try have p49:=dF h49
   refine c_skip ?_;refine ⟨(⟨s.n+(unitsS x:Nat),s.bef⟩,Gt),by exact (H).sub ⟨rfl,rfl,rfl,trivial⟩,?_⟩;(try dsimp only)
   first
   | exact ⟨by simp_all [preC,whenE,andT,idC],fun _ _ h=>h,rfl,fun h7=>by first|omega|(exfalso;simp_all)⟩
   | exact ⟨by simp_all [preC,whenE,andT,idC],hm55,rfl,fun h7=>by first|omega|(exfalso;simp_all)⟩
  intro h45
  try have p45:=dF h45
  refine kP H (SR fun _ K13=>Rc rfl (Ra rfl (Kz K13 ?_)));clear H K13;intro a H;refine c_cond H rfl ?_ ?_
  ·intro h50
   try have p50:=dT h50
   refine kP H (SQ fun _ K14=>SR fun _ K15=>Rf fd103_1doc rfl (Ro ty4doc 0 rfl rfl ?_));clear H;intro a H;refine s_call en44nam H wn rfl (when_spec _ _ H.hp.ro _ 19) rfl ?_;clear H;rintro v54 _ a w ⟨rfl,rfl⟩ - H;refine s_buildSlice un127fst ty46idx [_] [_] H wn rfl rfl rfl rfl rfl (by intro i q h;match i,h with|0,h=>exact h|n+1,h=>simp at h) rfl rfl ?_;clear H;intro b55 a w hb55 H;obtain ⟨G55,hm55,hb55',H⟩:=H.giveBox;refine s_call en39nam H wn rfl (first_spec1 _ _ H.hp.ro _ _ (one_rep hb55')) rfl ?_;clear H;rintro v56 _ a w ⟨rfl,rfl⟩ - H;refine kH H (Ra rfl (Kz K15 (SR fun _ K16=>Rm rfl (Rc rfl (Kz K16 ?_)))));clear H K15 K16;intro a H;refine c_cond H rfl ?_ ?_
   ·intro h58
    try have p58:=dT h58
    have e58:whenE note 19≠0:=fun h=>p58 (by rw [h];rfl)
    have hv58:firstE [whenE note 19]=whenE note 19:=by simp [firstE,e58]
    rw [hv58] at H
    have hF1:(itemC (ckP st li rv) body note t x s).1=whenE note 19:=by rw [hE];simp [andT,preC,p50,e58]
    have hF2:(itemC (ckP st li rv) body note t x s).1=0→(⟨s.n+(unitsS x:Nat),s.bef⟩:CS)=(itemC (ckP st li rv) body note t x s).2:=fun h=>absurd (hF1.symm.trans h) (e58);refine kP H (SR fun _ K17=>Rm rfl (Ra rfl (Kz K17 ?_)));clear H K17;intro a H;refine lr H Tryz.results74 rfl ?_;exact H.hp.retD (L':=ckB b ms ml mr mb mu (s.n+(unitsS x:Nat)) :: (mb,mpK (mSet (s.bef))) :: L) (by repeat (first|exact List.Sublist.refl _|apply List.Sublist.cons)) ⟨⟨s.n+(unitsS x:Nat),s.bef⟩,congrArg vi hF1.symm,rfl,hF2⟩
   intro h58
   try have p58:=dF h58
   have e58:whenE note 19=0:=Decidable.byContradiction fun h=>p58 (by simp [firstE,h]);refine kP H (Kc K14 (SR fun _ K18=>Rm rfl (Rf fd85_2pos rfl (Ro ty3run 1 rfl rfl ?_))));clear H K14;intro a H;refine s_callL en102rws (Li:=[_,_]) (L:=ckB b ms ml mr mb mu _ :: (mb,mpK (mSet s.bef)) :: L) H wn rfl (ckId_spec _ _ _ st li rv b ms ml mr mb mu _ s.bef x.id (hck.mono hm55) (Hp.owns (Li:=[_,_]) H.hp)) rfl ?_;clear H;rintro v63 _ _ a w ⟨rfl,rfl,rfl⟩ - H;dsimp only [List.cons_append,List.nil_append] at H;refine kH H (Ra rfl (Kz K18 (SR fun _ K19=>Rm rfl (Rc rfl (Kz K19 ?_)))));clear H K18 K19;intro a H;refine c_cond H rfl ?_ ?_
   ·intro h65
    try have p65:=dT h65
    have hF1:(itemC (ckP st li rv) body note t x s).1=idE s.bef x.id:=by rw [hE];simp [andT,preC,p50,e58,idC,p65]
    have hF2:(itemC (ckP st li rv) body note t x s).1=0→(⟨s.n+(unitsS x:Nat),idB s.bef x.id⟩:CS)=(itemC (ckP st li rv) body note t x s).2:=fun h=>absurd (hF1.symm.trans h) (p65);refine kP H (SR fun _ K20=>Rm rfl (Ra rfl (Kz K20 ?_)));clear H K20;intro a H;refine lr H Tryz.results74 rfl ?_;exact H.hp.retD (L':=ckB b ms ml mr mb mu (s.n+(unitsS x:Nat)) :: (mb,mpK (mSet (idB s.bef x.id))) :: L) (by repeat (first|exact List.Sublist.refl _|apply List.Sublist.cons)) ⟨⟨s.n+(unitsS x:Nat),idB s.bef x.id⟩,congrArg vi hF1.symm,rfl,hF2⟩
   intro h65
   try have p65:=dF h65
   have e65:idE s.bef x.id=0:=Decidable.not_not.1 p65;refine c_skip ?_;refine ⟨(⟨s.n+(unitsS x:Nat),idB s.bef x.id⟩,G55),by exact (H).sub ⟨rfl,rfl,rfl,trivial⟩,?_⟩;(try dsimp only)
   first
   | exact ⟨by simp_all [preC,whenE,andT,idC],fun _ _ h=>h,rfl,fun h7=>by first|omega|(exfalso;simp_all)⟩
   | exact ⟨by simp_all [preC,whenE,andT,idC],hm55,rfl,fun h7=>by first|omega|(exfalso;simp_all)⟩
  intro h50
  try have p50:=dF h50
  refine kP H (SR fun _ K21=>Rc rfl (Ra rfl (Kz K21 ?_)));clear H K21;intro a H;refine c_cond H rfl ?_ ?_
  ·intro h67
   try have p67:=dT h67
   refine kP H (SQ fun _ K22=>SR fun _ K23=>Rf fd103_2doc rfl (Ro ty3run 0 rfl rfl (Rc rfl (Kz K23 ?_))));clear H K23;intro a H;refine c_cond H rfl ?_ ?_
   ·intro h71
    try have p71:=dT h71
    refine c_seq (fun _ K24=>?_)
    have hF1:(itemC (ckP st li rv) body note t x s).1=17:=by rw [hE];simp [andT,preC,p67,whenE,p71]
    have hF2:(itemC (ckP st li rv) body note t x s).1=0→(⟨s.n+(unitsS x:Nat),s.bef⟩:CS)=(itemC (ckP st li rv) body note t x s).2:=fun h=>absurd (hF1.symm.trans h) (by decide);refine kP H (SC (Ra rfl (Kn K24 ?_)));clear H K24;intro a H;refine lr H Tryz.results74 rfl ?_;exact H.hp.retD (L':=ckB b ms ml mr mb mu (s.n+(unitsS x:Nat)) :: (mb,mpK (mSet (s.bef))) :: L) (by repeat (first|exact List.Sublist.refl _|apply List.Sublist.cons)) ⟨⟨s.n+(unitsS x:Nat),s.bef⟩,congrArg vi hF1.symm,rfl,hF2⟩
   intro h71
   try have p71:=dF h71
   have e71:¬ 4≤t:=by omega
   refine kP H (Kc K22 (SR fun _ K25=>Rm rfl (Rf fd85_2pos rfl (Ro ty3run 1 rfl rfl ?_))));clear H K22;intro a H;refine s_callL en102rws (Li:=[_,_]) (L:=ckB b ms ml mr mb mu _ :: (mb,mpK (mSet s.bef)) :: L) H wn rfl (ckId_spec _ _ _ st li rv b ms ml mr mb mu _ s.bef x.id hck (Hp.owns (Li:=[_,_]) H.hp)) rfl ?_;clear H;rintro v75 _ _ a w ⟨rfl,rfl,rfl⟩ - H;dsimp only [List.cons_append,List.nil_append] at H;refine kH H (Ra rfl (Kz K25 (SR fun _ K26=>Rm rfl (Rc rfl (Kz K26 ?_)))));clear H K25 K26;intro a H;refine c_cond H rfl ?_ ?_
   ·intro h77
    try have p77:=dT h77
    have hF1:(itemC (ckP st li rv) body note t x s).1=idE s.bef x.id:=by rw [hE];simp [andT,preC,p67,whenE,e71,idC,p77]
    have hF2:(itemC (ckP st li rv) body note t x s).1=0→(⟨s.n+(unitsS x:Nat),idB s.bef x.id⟩:CS)=(itemC (ckP st li rv) body note t x s).2:=fun h=>absurd (hF1.symm.trans h) (p77);refine kP H (SR fun _ K27=>Rm rfl (Ra rfl (Kz K27 ?_)));clear H K27;intro a H;refine lr H Tryz.results74 rfl ?_;exact H.hp.retD (L':=ckB b ms ml mr mb mu (s.n+(unitsS x:Nat)) :: (mb,mpK (mSet (idB s.bef x.id))) :: L) (by repeat (first|exact List.Sublist.refl _|apply List.Sublist.cons)) ⟨⟨s.n+(unitsS x:Nat),idB s.bef x.id⟩,congrArg vi hF1.symm,rfl,hF2⟩
   intro h77
   try have p77:=dF h77
   have e77:idE s.bef x.id=0:=Decidable.not_not.1 p77;refine c_skip ?_;refine ⟨(⟨s.n+(unitsS x:Nat),idB s.bef x.id⟩,Gt),by exact (H).sub ⟨rfl,rfl,rfl,trivial⟩,?_⟩;(try dsimp only)
   first
   | exact ⟨by simp_all [preC,whenE,andT,idC],fun _ _ h=>h,rfl,fun h7=>by first|omega|(exfalso;simp_all)⟩
   | exact ⟨by simp_all [preC,whenE,andT,idC],hm55,rfl,fun h7=>by first|omega|(exfalso;simp_all)⟩
  intro h67
  try have p67:=dF h67
  refine kP H (SR fun _ K28=>Rc rfl (Ra rfl (Kz K28 ?_)));clear H K28;intro a H;refine c_cond H rfl ?_ ?_
  ·intro h79
   try have p79:=dT h79
   refine kP H (SR fun _ K29=>Rf fd85_2pos rfl (Ro ty3run 1 rfl rfl ?_));clear H;intro a H;refine s_call en68fst H wn rfl (in_spec _ _ H.hp.ro x.id 1 1073741824) rfl ?_;clear H;rintro v83 _ a w ⟨rfl,rfl⟩ - H;refine kH H (Rn rfl (Kz K29 ?_));clear H K29;intro a H;refine c_cond H rfl ?_ ?_
   ·intro h84
    try have p84:=dT h84
    refine c_seq (fun _ K30=>?_)
    have e84:¬ (1≤x.id∧x.id≤1073741824):=by have h0:=h84;simp at h0;omega
    have hF1:(itemC (ckP st li rv) body note t x s).1=18:=by rw [hE];simp [andT,preC,p79,whenE,e84]
    have hF2:(itemC (ckP st li rv) body note t x s).1=0→(⟨s.n+(unitsS x:Nat),s.bef⟩:CS)=(itemC (ckP st li rv) body note t x s).2:=fun h=>absurd (hF1.symm.trans h) (by decide);refine kP H (SC (Ra rfl (Kn K30 ?_)));clear H K30;intro a H;refine lr H Tryz.results74 rfl ?_;exact H.hp.retD (L':=ckB b ms ml mr mb mu (s.n+(unitsS x:Nat)) :: (mb,mpK (mSet (s.bef))) :: L) (by repeat (first|exact List.Sublist.refl _|apply List.Sublist.cons)) ⟨⟨s.n+(unitsS x:Nat),s.bef⟩,congrArg vi hF1.symm,rfl,hF2⟩
   intro h84
   try have p84:=dF h84
   refine c_skip ?_;refine ⟨(⟨s.n+(unitsS x:Nat),s.bef⟩,Gt),by exact (H).sub ⟨rfl,rfl,rfl,trivial⟩,?_⟩;(try dsimp only)
   first
   | exact ⟨by simp_all [preC,whenE,andT,idC],fun _ _ h=>h,rfl,fun h7=>by first|omega|(exfalso;simp_all)⟩
   | exact ⟨by simp_all [preC,whenE,andT,idC],hm55,rfl,fun h7=>by first|omega|(exfalso;simp_all)⟩
  intro h79
  try have p79:=dF h79
  refine c_skip ?_;refine ⟨(⟨s.n+(unitsS x:Nat),s.bef⟩,Gt),by exact (H).sub ⟨rfl,rfl,rfl,trivial⟩,?_⟩;(try dsimp only)
  first
  | exact ⟨by simp_all [preC,whenE,andT,idC],fun _ _ h=>h,rfl,fun h7=>by first|omega|(exfalso;simp_all)⟩
  | exact ⟨by simp_all [preC,whenE,andT,idC],hm55,rfl,fun h7=>by first|omega|(exfalso;simp_all)⟩
 clear H;intro gh a w hI H;obtain ⟨s1,g⟩:=gh;dsimp only at hI H;obtain ⟨hP,hmg,hs1n,ht7⟩:=hI;rw [hP,andT_ok rfl] at hE;dsimp only at hE;replace hck:=hck.mono hmg;replace hh:=hh.mono hmg;replace hf:=hf.mono hmg;replace hr:=hr.mono hmg;dsimp only [List.cons_append,List.nil_append,List.append_nil] at H;refine kP H (SQ fun _ K31=>SR fun _ K32=>Rm rfl (Rf fd85_0run rfl (Ro ty3run 1 rfl rfl (Rf fd85_4run rfl ?_))));clear H;intro a H;refine s_loada ty29run (cs:=[_,_,_,_,_]) H wn rfl rfl (H.hp.ocells 1 rfl rfl) rfl ?_;clear H;intro a H;refine s_callL en43rws (Li:=[_,_]) (L:=ckB b ms ml mr mb mu s1.n :: (mb,mpK (mSet s1.bef)) :: L) H wn rfl (headL_spec _ _ _ st li rv b ms ml mr mb mu _ hck (Hp.owns (Li:=[_,_]) H.hp) x.kind x.head _ _ _ hh (by omega)) rfl ?_;clear H;rintro v90 _ _ a w ⟨rfl,rfl,rfl⟩ - H;dsimp only [List.cons_append,List.nil_append] at H;refine kH H (Ra rfl (Kz K32 (SR fun _ K33=>Rm rfl (Rc rfl (Kz K33 ?_)))));clear H K32 K33;intro a H;refine c_cond H rfl ?_ ?_
 ·intro h92
  try have p92:=dT h92
  have hF1:(itemC (ckP st li rv) body note t x s).1=headE (ckP st li rv) x.kind x.head:=by rw [hE,andT_err (r:=(headE (ckP st li rv) x.kind x.head,s1)) p92]
  have hF2:(itemC (ckP st li rv) body note t x s).1=0→s1=(itemC (ckP st li rv) body note t x s).2:=fun h=>absurd (hF1.symm.trans h) p92;refine kP H (SR fun _ K34=>Rm rfl (Ra rfl (Kz K34 ?_)));clear H K34;intro a H;refine lr H Tryz.results74 rfl ?_;exact H.hp.retD (L':=ckB b ms ml mr mb mu (s1.n) :: (mb,mpK (mSet (s1.bef))) :: L) (by repeat (first|exact List.Sublist.refl _|apply List.Sublist.cons)) ⟨s1,congrArg vi hF1.symm,rfl,hF2⟩
 intro h92
 try have p92:=dF h92
 rw [andT_ok (r:=(headE (ckP st li rv) x.kind x.head,s1)) (Decidable.not_not.1 p92)] at hE;dsimp only at hE;refine kP H (Kc K31 (SQ fun _ K35=>SR fun _ K36=>Rf fd85_0run rfl (Ro ty3run 1 rfl rfl (Kz K36 (SB (SR fun _ K37=>Rc rfl (Ra rfl (Kz K37 ?_))))))));clear H K31 K36 K37;intro a H;refine c_cond H rfl ?_ ?_
 ·intro h96
  try have p96:=dT h96
  rw [if_pos p96] at hE;refine kP H (SR fun _ K38=>Rm rfl (Rf fd85_5run rfl (Ro ty22run 1 rfl rfl (Rf fd103_2doc rfl (Ro ty3run 0 rfl rfl ?_)))));clear H;intro a H;refine s_build sr103doc [_,_,_] H wn rfl rfl rfl rfl ?_;clear H;intro a H;refine s_callL en45rws (Li:=[_,_]) (L:=ckB b ms ml mr mb mu s1.n :: (mb,mpK (mSet s1.bef)) :: L) H wn rfl (ih _ _ _ st li rv b ms ml mr mb mu s1 x.flow _ false true t hck (Hp.owns (Li:=[_,_]) H.hp) hf (by omega) ht0 ht4 (by omega) (by omega)) rfl ?_;clear H;rintro v104 _ _ a w ⟨rfl,s3,rfl,rfl,h3⟩ - H;dsimp only [List.cons_append,List.nil_append] at H
  have hF1:(itemC (ckP st li rv) body note t x s).1=(itemsC (ckP st li rv) false true t x.flow s1).1:=by rw [hE]
  have hF2:(itemC (ckP st li rv) body note t x s).1=0→s3=(itemC (ckP st li rv) body note t x s).2:=by rw [hE];exact h3
  refine kH H (Ra rfl (Kz K38 ?_));clear H K38;intro a H;refine lr H Tryz.results74 rfl ?_;exact H.hp.retD (L':=ckB b ms ml mr mb mu (s3.n) :: (mb,mpK (mSet (s3.bef))) :: L) (by repeat (first|exact List.Sublist.refl _|apply List.Sublist.cons)) ⟨s3,congrArg vi hF1.symm,rfl,hF2⟩
 intro h96
 try have p96:=dF h96
 rw [if_neg p96] at hE;refine kP H (SR fun _ K39=>Rc rfl (Ra rfl (Kz K39 ?_)));clear H K39;intro a H;refine c_cond H rfl ?_ ?_
 ·intro h105
  try have p105:=dT h105
  rw [if_pos p105] at hE;refine kP H (SR fun _ K40=>Rm rfl (Rf fd85_6run rfl (Ro ty83run 1 rfl rfl (Rf fd103_1doc rfl (Ro ty4doc 0 rfl rfl (Rf fd103_2doc rfl (Ro ty3run 0 rfl rfl (Rd rfl ?_))))))));clear H;intro a H;refine s_build sr103doc [_,_,_] H wn rfl rfl rfl rfl ?_;clear H;intro a H;refine s_callL en103itm (Li:=[_,_]) (L:=ckB b ms ml mr mb mu s1.n :: (mb,mpK (mSet s1.bef)) :: L) H wn rfl (rows_ok ih hm _ _ _ st li rv b ms ml mr mb mu s1 x.rows _ note (t+1) hck (Hp.owns (Li:=[_,_]) H.hp) hr (by omega) (by omega) (by have:=ht7 p105;omega) (by omega) (by omega)) rfl ?_;clear H;rintro v116 _ _ a w ⟨s3,rfl,rfl,h3⟩ - H;dsimp only [List.cons_append,List.nil_append] at H
  have hF1:(itemC (ckP st li rv) body note t x s).1=(rowsC0 x.rows.length (fun s=>rowsC (ckP st li rv) note (t+1) x.rows s) s1).1:=by rw [hE]
  have hF2:(itemC (ckP st li rv) body note t x s).1=0→s3=(itemC (ckP st li rv) body note t x s).2:=by rw [hE];exact h3
  refine kH H (Ra rfl (Kz K40 ?_));clear H K40;intro a H;refine lr H Tryz.results74 rfl ?_;exact H.hp.retD (L':=ckB b ms ml mr mb mu (s3.n) :: (mb,mpK (mSet (s3.bef))) :: L) (by repeat (first|exact List.Sublist.refl _|apply List.Sublist.cons)) ⟨s3,congrArg vi hF1.symm,rfl,hF2⟩
 intro h105
 try have p105:=dF h105
 rw [if_neg p105] at hE
 have hF1:(itemC (ckP st li rv) body note t x s).1=0:=by rw [hE]
 have hF2:(itemC (ckP st li rv) body note t x s).1=0→s1=(itemC (ckP st li rv) body note t x s).2:=fun h=>by rw [hE]
 refine kP H (Kc K35 (SR fun _ K41=>Ra rfl (Kz K41 ?_)));clear H K35 K41;intro a H;refine lr H Tryz.results74 rfl ?_;exact H.hp.retD (L':=ckB b ms ml mr mb mu (s1.n) :: (mb,mpK (mSet (s1.bef))) :: L) (by repeat (first|exact List.Sublist.refl _|apply List.Sublist.cons)) ⟨s1,congrArg vi hF1.symm,rfl,hF2⟩
end
section
open Go.RowKit
theorem en74its:∀ args w,(callFunc 74 args).run Tryz.prog w=.ok (.enter 74 args) w:=enters Tryz.func74 rfl (by kernel_rfl)
theorem en73its:∀ args w,(callFunc 73 args).run Tryz.prog w=.ok (.enter 73 args) w:=enters Tryz.func73 rfl (by kernel_rfl)
/-- A function of an index that gives an error and turns blocks: ahead of the call at i they are B i. -/
def IxL (fv:Value) (Gi:GH) (n:Nat) (E:Nat→Int) {σ:Type} (B:σ→OL) (S:Nat→σ):Prop:=∀ i,i < n→∀ (G1:GH) (w1:World),(∀ b o,Gi b=some o→G1 b=some o)→Owns G1 (B (S i)) w1 →
 CallV Tryz.prog fv [vi i] w1 (RetL w1 G1 (B (S i)) fun u G' L'=>∃ s,u=vi (E i)∧L'=B s∧(E i=0→s=S (i+1)))
theorem allL_spec (G:GH) (w0:World) {σ:Type} (B:σ→OL) (S:Nat→σ) (n:Nat) (E:Nat→Int) (fv:Value) (hO:Owns G (B (S 0)) w0) (hn:n≤4611686018427387904) (hf:IxL fv G n E B S) :
  Calls Tryz.prog 63 #[vi n,fv] w0 (RetL w0 G (B (S 0)) fun u G' L'=>∃ s,u=vi (allE E n)∧L'=B s∧(allE E n=0→s=S n)):=by
 refine enterL (N:=18) (T:=[(0,_),(1,_)]) Tryz.func63 rfl Tryz.ntmps63 rfl rfl hO ?_;intro a H;refine kP H (SR fun _ K1=>Ra rfl (Kz K1 (SQ fun _ K2=>SR fun _ K3=>Rm rfl (Rm rfl (Kz K3 (SB ?_))))));clear H K1 K3;intro a H;skip;refine c_loopS (ι:=Nat × GH) (Tc:=[(1,_),(7,_)]) (Lc:=[]) (fun (gh:Nat × GH)=>[(8,vi gh.1)]) (fun (gh:Nat × GH)=>[]++B (S gh.1)) (fun (gh:Nat × GH)=>gh.2) (fun (gh:Nat × GH)=>gh.1≤n∧firstE (((List.range n).map E).drop gh.1)=allE E n∧(∀ b o,G b=some o→gh.2 b=some o)) (fun (gh:Nat × GH)=>n - gh.1) ((0,G)) (by exact (H).sub ⟨rfl,rfl,rfl,trivial⟩) ?_ ?_
 ·exact ⟨Nat.zero_le _,rfl,fun _ _ h=>h⟩
 clear H;intro gh a w hI H;obtain ⟨k,g⟩:=gh;dsimp only at hI H;obtain ⟨hk,he,hgm⟩:=hI;dsimp only [List.cons_append,List.nil_append,List.append_nil] at H;refine kP H (SR fun _ K4=>Rc rfl (Kz K4 (SQ fun _ K5=>?_)));clear H K4;intro a H;refine c_cond H rfl ?_ ?_
 ·intro h9
  try have p9:=dT h9
  have hk2:k < n:=by omega
  refine kP H (Kc K5 (SQ fun _ K6=>SB (SR fun _ K7=>Rm rfl (Ra rfl (Kz K7 (SR fun _ K8=>Rm rfl (Rm rfl ?_)))))));clear H K5 K7;intro a H;refine s_callv (Li:=[]) (L:=B (S k)) H wn rfl rfl (hf k hk2 _ _ hgm (Hp.owns (Li:=[]) H.hp)) rfl ?_;clear H;rintro v13 G13 L13 a w ⟨s3,rfl,rfl,h3⟩ hm13 H;refine kH H (Ra rfl (Kz K8 (SR fun _ K9=>Rm rfl (Rc rfl (Kz K9 ?_)))));clear H K8 K9;intro a H;refine c_cond H rfl ?_ ?_
  ·intro h15
   try have p15:=dT h15
   have hE:allE E n=E k:=by rw [allE_at hk2,if_pos p15] at he;exact he.symm
   refine kP H (SR fun _ K10=>Rm rfl (Ra rfl (Kz K10 ?_)));clear H K10;intro a H;refine lr H Tryz.results63 rfl ?_;exact H.hp.retL ⟨s3,by rw [hE],rfl,fun h=>absurd (hE.symm.trans h) p15⟩
  intro h15
  try have p15:=dF h15
  have hS:=h3 (Decidable.not_not.1 p15);subst hS;refine kP H (Kc K6 (SC (Rd rfl (Rm rfl ?_))));clear H K6;intro a H;refine wl_nil ?_;refine loop_end ((k+1,G13)) (by exact (H).sub ⟨rfl,rfl,rfl,trivial⟩) ?_ ?_
  ·(try dsimp only);exact ⟨by omega,by rw [allE_at hk2,if_neg p15] at he;exact he,fun b o h=>hm13 b o (hgm b o h)⟩
  first|omega|(dsimp only;omega)
 intro h9
 try have p9:=dF h9
 refine c_exit ?_;refine K2 _ _ ?_;clear K2;refine kP H (SR fun _ K11=>Ra rfl (Kz K11 ?_));clear H K11;intro a H;refine lr H Tryz.results63 rfl ?_;exact H.hp.retL ⟨S n,congrArg vi (by rw [List.drop_of_length_le (by simp;omega)] at he;exact he),by rw [show k=n by omega],fun _=>rfl⟩
abbrev ckS (b ms ml mr mb mu:Nat) (L:OL) (s:CS):OL:=ckB b ms ml mr mb mu s.n :: (mb,mpK (mSet s.bef)) :: L
theorem item_cb {m:Nat} (ih:ItemsOk m) (hm:m≤4294967296) {G:GH} {L:OL} {st:List StyleD} {li:List LiD} {rv:List RvD} {b ms ml mr mb mu:Nat} {s:CS} {l:List ItemD} {v:Value} {body note:Bool} {t:Int} {x3 x4 x5:Nat}
  (hck:CkG G st li rv ms ml mr mu) (h3:gcell G x3 0=some (.pointer (some ⟨b,0,none⟩))) (h4:gcell G x4 0=some v) (h5:∀ (j:Nat) (u:Value),[.bool body,.bool note,vi t][j]?=some u→gcell G x5 (0+j)=some u)
  (hv:RepV G (.sl 11 (l.map ItemD.dat)) v) (hz:zItems l≤m) (ht0:0≤t) (ht4:t≤4) (hs0:0≤s.n) (hs1:s.n+(zItems l:Nat)≤1099511627776) :
  IxL (.func (.func 73) #[] #[.pointer (some ⟨x3,0,none⟩),.pointer (some ⟨x4,0,none⟩),.pointer (some ⟨x5,0,none⟩)]) G l.length (erC (itemC (ckP st li rv) body note t) l s) (ckS b ms ml mr mb mu L) (stC (itemC (ckP st li rv) body note t) l s):=by
 intro k hk G1 w0 hmG hO;refine callV_func (caps:=[.pointer (some ⟨x3,0,none⟩),.pointer (some ⟨x4,0,none⟩),.pointer (some ⟨x5,0,none⟩)]) en73its ?_;replace h3:=gcell_mono hmG h3;replace h4:=gcell_mono hmG h4;replace h5:=fun j u hj=>gcell_mono hmG (h5 j u hj);replace hck:=hck.mono hmG;replace hv:=hv.mono hmG;obtain ⟨A,c,rfl,hc1,hc2,hg⟩:=hv.slice;rw [List.length_map] at *;obtain ⟨o,xo,pA,pn,pc,dA,dn,dc,yA,yn,yc,fA,fn,fc,rA,rn,rc,rfl,hrow,hhd,hfl,hrw⟩:=flow_get hk hg;obtain ⟨hn0,hn1⟩:=up_st (ckP st li rv) body note t l s k (by omega)
 have hdz:zItems (l.drop k)=1+szR l[k].dat+zItems (l.drop (k+1)):=by
  simp only [zItems];rw [List.drop_eq_getElem_cons hk,List.map_cons,szRs]
 have hzm:=zItems_mem (List.getElem_mem hk)
 have hE:erC (itemC (ckP st li rv) body note t) l s k=(itemC (ckP st li rv) body note t l[k] (stC (itemC (ckP st li rv) body note t) l s k)).1:=by unfold erC;rw [List.getElem?_eq_getElem hk]
 have hS:stC (itemC (ckP st li rv) body note t) l s (k+1)=(itemC (ckP st li rv) body note t l[k] (stC (itemC (ckP st li rv) body note t) l s k)).2:=by rw [stC,List.getElem?_eq_getElem hk]
 rw [hE,hS]
 generalize stC (itemC (ckP st li rv) body note t) l s k=s1 at *
 refine enterL (N:=13) (T:=[(0,_),(1,_),(2,_),(3,_)]) Tryz.func73 rfl Tryz.ntmps73 rfl rfl hO ?_;intro a H;refine kP H (SR fun _ K1=>Ra rfl (Kz K1 (SQ fun _ K2=>?_)));clear H K1;intro a H;refine c_drawI (hmx) [[],[],[],[1,2],[1,2,3],[],[0,1,2,3,4,5],(List.range 7)] [6,7] (by kernel_rfl) (by kernel_rfl) (fun (ix_:Nat) (v:Value) (G:GH)=>match ix_ with|0=>v=.pointer (some ⟨b,0,none⟩)|1=>v=.slice (some ⟨o,xo,none⟩) l.length c|2=>v=vi k|3=>v=.pointer (some ⟨o,xo+k*11,none⟩)|4=>v=.agg #[vi l[k].kind,vi l[k].code,vi l[k].id,.string l[k].text,.slice pA pn pc,vi l[k].head.marks.ins,vi l[k].head.marks.move,.slice dA dn dc,.slice yA yn yc,.slice fA fn fc,.slice rA rn rc]|5=>v=.agg #[.bool body,.bool note,vi t]|_=>True) (fun _ _ _ _ _ h=>h) H ?_ ?_
 ·clear H;refine al4 ?_ ?_ ?_ ?_ (al4 ?_ ?_ ?_ ?_ allI_nil)
  ·exact Op0 rfl fun _ _ _ _ hG _ H fin=>kH H (Rg ty97hea rfl (gcell_mono hG h3) fun _ H=>fin H iJ rfl)
  ·exact Op0 rfl fun _ _ _ _ hG _ H fin=>kH H (Rg ty22run rfl (gcell_mono hG h4) fun _ H=>fin H iJ rfl)
  ·exact Z0 rfl rfl fun _ _ _ _ _=>Rm rfl
  ·exact Z2 1 7 2 8 rfl rfl fun _ _ _ _ _=>Ri un22run ty85run rfl rfl
  ·refine Op1 3 9 rfl rfl fun _ a w G1 hG HT H fin=>?_;refine s_loada ty85run (cs:=[_,_,_,_,_,_,_,_,_,_,_]) H wn rfl rfl (fun j v hj=>H.hp.gcell (gcell_mono hG (hrow j v hj))) rfl ?_;clear H;intro a H;exact fin H iJ rfl
  ·refine Op0 rfl fun _ a w G1 hG HT H fin=>?_;refine s_loada ty103doc (cs:=[.bool body,.bool note,vi t]) H wn rfl rfl (fun j v hj=>H.hp.gcell (gcell_mono hG (h5 j v hj))) rfl ?_;clear H;intro a H;exact fin H iJ rfl
  ·exact opB rfl
  exact opB rfl
 clear H;intro a w G hGm1 H hv;obtain ⟨u6,hu6,hp6⟩:=hv 0 6 (by decide) rfl;obtain rfl:u6=.pointer (some ⟨b,0,none⟩):=hp6;have H:=H.addS hu6;obtain ⟨u10,hu10,hp10⟩:=hv 4 10 (by decide) rfl;obtain rfl:u10=.agg #[vi l[k].kind,vi l[k].code,vi l[k].id,.string l[k].text,.slice pA pn pc,vi l[k].head.marks.ins,vi l[k].head.marks.move,.slice dA dn dc,.slice yA yn yc,.slice fA fn fc,.slice rA rn rc]:=hp10;have H:=H.addS hu10;obtain ⟨u11,hu11,hp11⟩:=hv 5 11 (by decide) rfl;obtain rfl:u11=.agg #[.bool body,.bool note,vi t]:=hp11;have H:=H.addS hu11;clear hv;refine s_callL en74its (Li:=[]) (L:=ckS b ms ml mr mb mu L s1) H wn rfl (item_ok ih hm _ _ _ st li rv b ms ml mr mb mu s1 l[k] _ _ _ _ _ body note t (hck.mono hGm1) (Hp.owns (Li:=[]) H.hp) (hhd.mono hGm1) (hfl.mono hGm1) (hrw.mono hGm1) (by omega) ht0 ht4 (by omega) (by omega)) rfl ?_;clear H;rintro v12 _ _ a w ⟨s3,rfl,rfl,h12⟩ - H;dsimp only [List.nil_append] at H;refine kH H (Ra rfl ?_);clear H;intro a H;refine wl_nil ⟨rfl,?_⟩;refine K2 _ _ ?_;clear K2;refine lr H Tryz.results73 rfl ?_;exact H.hp.retL ⟨s3,rfl,rfl,h12⟩
theorem items_step {m:Nat} (ih:ItemsOk m) (hm:m≤4294967296):ItemsOk (m+1):=by
 intro G L w0 st li rv b ms ml mr mb mu s l v body note t hck hO hv hz ht0 ht4 hs0 hs1;obtain ⟨hA1,hA2⟩:=items_all (ckP st li rv) body note t l s;refine Calls.backL (R:=fun u G' L'=>CkR b ms ml mr mb mu L (itemsC (ckP st li rv) body note t l s) u L') ?_ fun _ _ _ h=>h;obtain ⟨A,c,rfl,hc1,hc2,-⟩:=hv.slice;rw [List.length_map] at *;have hll:=zItems_length l;refine enterL (N:=11) (T:=[(0,_),(1,_),(2,_)]) Tryz.func45 rfl Tryz.ntmps45 rfl rfl hO ?_;intro a H;refine c_seqR (fun _ K1=>?_);refine s_box (cs:=[_]) H wn rfl rfl rfl ?_;clear H;intro b3 a w hb3 H;refine s_box (cs:=[_]) H wn rfl rfl rfl ?_;clear H;intro b4 a w hb4 H;refine s_box (cs:=[_,_,_]) H wn rfl rfl rfl ?_;clear H;intro b5 a w hb5 H;refine kH H (Ra rfl (Kz K1 (SQ fun _ K2=>?_)));clear H K1;intro a H;obtain ⟨Ga5,hma5,hb5',H⟩:=H.giveBox;obtain ⟨Ga4,hma4,hb4',H⟩:=H.giveBox;obtain ⟨Ga,hma3,hb3',H⟩:=H.giveBox;replace hb5':=hma3 _ _ (hma4 _ _ hb5');replace hb4':=hma3 _ _ hb4';have hma:∀ b o,G b=some o→Ga b=some o:=fun b o h=>hma3 _ _ (hma4 _ _ (hma5 _ _ h))
 have g3:gcell Ga b3 0=some (.pointer (some ⟨b,0,none⟩)):=by unfold gcell;rw [hb3'];rfl
 have g4:gcell Ga b4 0=some (.slice A l.length c):=by unfold gcell;rw [hb4'];rfl
 have g5:∀ (j:Nat) (u:Value),[.bool body,.bool note,vi t][j]?=some u→gcell Ga b5 (0+j)=some u:=by
  intro j u hj;unfold gcell;rw [hb5'];simpa using hj
 have hcb:=item_cb (mb:=mb) (L:=L) (s:=s) ih hm (hck.mono hma) g3 g4 g5 (hv.mono hma) (by omega) ht0 ht4 hs0 hs1;refine kP H (SC (Rg ty22run rfl (by assumption) ?_));clear H;intro a H;refine kH H (Rl un22run rfl ?_);clear H;intro a H;refine s_makeFunc H wn rfl rfl ?_;clear H;intro a H;refine s_callL en63dst (Li:=[]) (L:=ckS b ms ml mr mb mu L s) H wn rfl (allL_spec _ _ (ckS b ms ml mr mb mu L) (stC (itemC (ckP st li rv) body note t) l s) l.length (erC (itemC (ckP st li rv) body note t) l s) _ (Hp.owns (Li:=[]) H.hp) (by omega) hcb) rfl ?_;clear H;rintro v10 _ _ a w ⟨s3,rfl,rfl,h10⟩ - H;dsimp only [List.nil_append] at H;refine kH H (Ra rfl (Kn K2 ?_));clear H K2;intro a H;refine lr H Tryz.results45 rfl ?_;exact H.hp.retL ⟨s3,by rw [hA1],rfl,fun h=>by rw [hA1] at h;exact (h10 h).trans (hA2 (hA1.trans h)).symm⟩
theorem items_ok:∀ m:Nat,m≤4294967297→ItemsOk m
 | 0,_=>fun _ _ _ _ _ _ _ _ _ _ _ _ _ _ _ _ _ _ _ _ _ h=>absurd h (by omega)
 | m+1,hm=>items_step (items_ok m (by omega)) (by omega)
end
section
open Go.RowKit
theorem fd135_1rvs:Fld Tryz.prog 135 1 1:=⟨by kernel_rfl⟩
theorem fd135_2rvs:Fld Tryz.prog 135 2 2:=⟨by kernel_rfl⟩
theorem en66rvs:∀ args w,(callFunc 66 args).run Tryz.prog w=.ok (.enter 66 args) w:=enters Tryz.func66 rfl (by kernel_rfl)
theorem en64rvs:∀ args w,(callFunc 64 args).run Tryz.prog w=.ok (.enter 64 args) w:=enters Tryz.func64 rfl (by kernel_rfl)
theorem rvid_cb {G:GH} {bl:Nat} {l:List RvD} {A:Option Addr} {n c:Nat} (hb:gcell G bl 0=some (.slice A n c)) (hv:RepV G (.sl 3 (l.map RvD.dat)) (.slice A n c)):IxCb (.func (.func 66) #[] #[.pointer (some ⟨bl,0,none⟩)]) G l.length fun k=>(l[k]?.map RvD.id).getD 0:=by
 intro k hk G1 w0 hm hG;refine callV_func (caps:=[.pointer (some ⟨bl,0,none⟩)]) en66rvs ?_;replace hb:=gcell_mono hm hb
 obtain rfl:n=l.length:=by have:=hv.len;simpa using this
 obtain ⟨b,o,rfl,hrow⟩:=rv_at (hv.mono hm) hk;have hq:=hrow 0 _ rfl;refine eN [(0,_),(1,_)] Tryz.func66 rfl Tryz.ntmps66 rfl rfl hG ?_;intro a H;refine kP H (SR fun _ K1=>Ra rfl (Kz K1 (SR fun _ K2=>Rg ty30nck rfl (by assumption) ?_)));clear H K1;intro a H;refine kH H (Rm rfl (Ri un30nck ty135nck rfl rfl (Rf fd135_0nck rfl (Rg ty3run rfl (by assumption) ?_))));clear H;intro a H;refine kH H (Ra rfl (Kz K2 ?_));clear H K2;intro a H;refine lr H Tryz.results66 rfl ?_;exact H.hp.ret (by dsimp only;rw [List.getElem?_eq_getElem hk];rfl)
def revE0 (l:List RvD) (i:Nat) (x:RvD):Int:=firstE [incE (fun k=>(l[k]?.map RvD.id).getD 0) i,whenE (!autS x.author) 39,whenE (!decide (0≤x.time∧x.time≤1099511627776)) 40]
def revE (l:List RvD) (i:Nat):Int:=match l[i]? with|some x=>revE0 l i x|none=>0
theorem rev_cb {G:GH} {bl:Nat} {l:List RvD} {A:Option Addr} {n c:Nat} (hb:gcell G bl 0=some (.slice A n c)) (hv:RepV G (.sl 3 (l.map RvD.dat)) (.slice A n c)) (hl:l.length≤4294967296) (ht:∀ x∈l,x.author.size < 4611686018427387904):IxCb (.func (.func 64) #[] #[.pointer (some ⟨bl,0,none⟩)]) G l.length (revE l):=by
 intro k hk G1 w0 hm hG;refine callV_func (caps:=[.pointer (some ⟨bl,0,none⟩)]) en64rvs ?_;replace hb:=gcell_mono hm hb;replace hv:=hv.mono hm;have hcb:=rvid_cb hb hv
 obtain rfl:n=l.length:=by have:=hv.len;simpa using this
 obtain ⟨b,o,rfl,hrow⟩:=rv_at hv hk;have hte:=ht _ (List.getElem_mem hk)
 have he:revE l k=revE0 l k l[k]:=by unfold revE;rw [List.getElem?_eq_getElem hk]
 obtain ⟨x,hx⟩:∃ x,x=l[k]:=⟨_,rfl⟩;rw [← hx] at hrow hte he;refine eN [(0,_),(1,_)] Tryz.func64 rfl Tryz.ntmps64 rfl rfl hG ?_;intro a H;refine kP H (SR fun _ K1=>Ra rfl (Kz K1 (SQ fun _ K2=>?_)));clear H K1;intro a H;have H:=H.sub (T':=[(0,_),(1,_)]) ⟨rfl,rfl,trivial⟩;refine c_drawI (hmx) [[],[],[0,1],[],[],[3,4],[3,4,5],[3,4,5,6],(List.range 8),(List.range 9),(List.range 10),[],[],[11,12],[11,12,13],[11,12,13,14],(List.range 16),(List.range 17),(List.range 18),(List.range 19),(List.range 20),(List.range 21)] [19,20,21] (by kernel_rfl) (by kernel_rfl) (fun (ix_:Nat) (v:Value) (G:GH)=>match ix_ with|0=>v=vi k|1=>v=.func (.func 66) #[] #[.pointer (some ⟨bl,0,none⟩)]|2=>v=vi (incE (fun k=>(l[k]?.map RvD.id).getD 0) k)|3=>v=.slice (some ⟨b,o,none⟩) l.length c|4=>v=vi k|5=>v=.pointer (some ⟨b,o+k*3,none⟩)|6=>v=.pointer (some ⟨b,o+k*3+1,none⟩)|7=>v=.string x.author|8=>v=.bool (autS x.author)|9=>v=.bool (!autS x.author)|10=>v=vi (whenE (!autS x.author) 39)|11=>v=.slice (some ⟨b,o,none⟩) l.length c|12=>v=vi k|13=>v=.pointer (some ⟨b,o+k*3,none⟩)|14=>v=.pointer (some ⟨b,o+k*3+2,none⟩)|15=>v=vi x.time|16=>v=.bool (decide (0≤x.time∧x.time≤1099511627776))|17=>v=.bool (!decide (0≤x.time∧x.time≤1099511627776))|18=>v=vi (whenE (!decide (0≤x.time∧x.time≤1099511627776)) 40)|_=>True) (fun _ _ _ _ _ h=>h) H ?_ ?_
 ·clear H;refine al4 ?_ ?_ ?_ ?_ (al4 ?_ ?_ ?_ ?_ (al4 ?_ ?_ ?_ ?_ (al4 ?_ ?_ ?_ ?_ (al4 ?_ ?_ ?_ ?_ (allI_cons ?_ (allI_cons ?_ allI_nil))))))
  ·exact Z0 rfl rfl fun _ _ _ _ _=>Rm rfl
  ·refine Op0 rfl fun _ a w G1 hG HT H fin=>?_;refine s_makeFunc H wn rfl rfl ?_;clear H;intro a H;exact fin H iJ rfl
  ·refine Op2 0 4 1 5 rfl rfl fun _ a w G1 hG HT H fin=>?_;refine s_call en65dst H wn rfl (increasing_spec _ _ H.hp.ro k _ _ (by omega) (fun i hi=>(hcb.mono hG) i (by omega))) rfl ?_;clear H;rintro v6 G6 a w rfl hGm6 H;exact fin H hGm6 (rfl)
  ·exact Op0 rfl fun _ _ _ _ hG _ H fin=>kH H (Rg ty30nck rfl (gcell_mono hG hb) fun _ H=>fin H iJ rfl)
  ·exact Z0 rfl rfl fun _ _ _ _ _=>Rm rfl
  ·exact Z2 3 7 4 8 rfl rfl fun _ _ _ _ _=>Ri un30nck ty135nck rfl rfl
  ·exact Z1 5 9 rfl rfl fun _ _ _ _ _=>Rf fd135_1rvs rfl
  ·exact Op1 6 10 rfl rfl fun _ _ _ _ hG _ H fin=>kH H (Rg ty9run rfl (gcell_mono hG (hrow 1 _ rfl)) fun _ H=>fin H iJ rfl)
  ·refine Op1 7 11 rfl rfl fun _ a w G1 hG HT H fin=>?_;refine s_call en67dsc H wn rfl (author_spec _ _ H.hp.ro x.author hte) rfl ?_;clear H;rintro v12 G12 a w ⟨rfl,-⟩ hGm12 H;exact fin H hGm12 (rfl)
  ·exact Z1 8 12 rfl rfl fun _ _ _ _ _=>Rn rfl
  ·refine Op1 9 13 rfl rfl fun _ a w G1 hG HT H fin=>?_;refine s_call en44nam H wn rfl (when_spec _ _ H.hp.ro _ 39) rfl ?_;clear H;rintro v14 G14 a w ⟨rfl,-⟩ hGm14 H;exact fin H hGm14 (rfl)
  ·exact Op0 rfl fun _ _ _ _ hG _ H fin=>kH H (Rg ty30nck rfl (gcell_mono hG hb) fun _ H=>fin H iJ rfl)
  ·exact Z0 rfl rfl fun _ _ _ _ _=>Rm rfl
  ·exact Z2 11 15 12 16 rfl rfl fun _ _ _ _ _=>Ri un30nck ty135nck rfl rfl
  ·exact Z1 13 17 rfl rfl fun _ _ _ _ _=>Rf fd135_2rvs rfl
  ·exact Op1 14 18 rfl rfl fun _ _ _ _ hG _ H fin=>kH H (Rg ty3run rfl (gcell_mono hG (hrow 2 _ rfl)) fun _ H=>fin H iJ rfl)
  ·refine Op1 15 19 rfl rfl fun _ a w G1 hG HT H fin=>?_;refine s_call en68fst H wn rfl (in_spec _ _ H.hp.ro x.time 0 1099511627776) rfl ?_;clear H;rintro v20 G20 a w ⟨rfl,-⟩ hGm20 H;exact fin H hGm20 (rfl)
  ·exact Z1 16 20 rfl rfl fun _ _ _ _ _=>Rn rfl
  ·refine Op1 17 21 rfl rfl fun _ a w G1 hG HT H fin=>?_;refine s_call en44nam H wn rfl (when_spec _ _ H.hp.ro _ 40) rfl ?_;clear H;rintro v22 G22 a w ⟨rfl,-⟩ hGm22 H;exact fin H hGm22 (rfl)
  ·exact opB rfl
  ·exact opB rfl
  exact opB rfl
 clear H;intro a w G hGm1 H hv;obtain ⟨u6,hu6,hp6⟩:=hv 2 6 (by decide) rfl;obtain rfl:u6=vi (incE (fun k=>(l[k]?.map RvD.id).getD 0) k):=hp6;have H:=H.addS hu6;obtain ⟨u14,hu14,hp14⟩:=hv 10 14 (by decide) rfl;obtain rfl:u14=vi (whenE (!autS x.author) 39):=hp14;have H:=H.addS hu14;obtain ⟨u22,hu22,hp22⟩:=hv 18 22 (by decide) rfl;obtain rfl:u22=vi (whenE (!decide (0≤x.time∧x.time≤1099511627776)) 40):=hp22;have H:=H.addS hu22;clear hv;refine s_buildSlice un127fst ty46idx [_,_,_] [_,_,_] H wn rfl rfl rfl rfl rfl (by intro i q h;match i,h with|0,h=>exact h|1,h=>exact h|2,h=>exact h|n+3,h=>simp at h) rfl rfl ?_;clear H;intro b23 a w hb23 H;obtain ⟨G23,hm23,hb23',H⟩:=H.giveBox;refine s_call en39nam H wn rfl (first_spec1 _ _ H.hp.ro _ _ (ints_rep [incE (fun k=>(l[k]?.map RvD.id).getD 0) k,whenE (!autS x.author) 39,whenE (!decide (0≤x.time∧x.time≤1099511627776)) 40] hb23' (show 3≤maxLen by decide))) rfl ?_;clear H;rintro v24 _ a w ⟨rfl,rfl⟩ - H;refine kH H (Ra rfl ?_);clear H;intro a H;refine wl_nil ⟨rfl,?_⟩;refine K2 _ _ ?_;clear K2;refine lr H Tryz.results64 rfl ?_;exact H.hp.ret (by rw [he,revE0])
def chkRvs (l:List RvD):Int:=firstE [whenE (decide (256 < (l.length:Int))) 9,allE (revE l) (min l.length 256)]
theorem checkRevs_spec (G:GH) (w0:World) (hG:Hold G w0) (l:List RvD) (v:Value) (hv:RepV G (.sl 3 (l.map RvD.dat)) v) (hl:l.length≤4294967296) (ht:∀ x∈l,x.author.size < 4611686018427387904) :
  Calls Tryz.prog 41 #[v] w0 (Ret w0 G fun u G'=>u=vi (chkRvs l)):=by
 obtain ⟨A,c,rfl,hc1,hc2,-⟩:=hv.slice;rw [List.length_map] at *;refine eN [(0,_)] Tryz.func41 rfl Tryz.ntmps41 rfl rfl hG ?_;intro a H;refine c_seqR (fun _ K1=>?_);refine s_box (cs:=[_]) H wn rfl rfl rfl ?_;clear H;intro b1 a w hb1 H;refine kH H (Ra rfl (Kz K1 (SQ fun _ K2=>?_)));clear H K1;intro a H;have H:=H.sub (T':=[(1,_)]) ⟨rfl,trivial⟩;obtain ⟨Ga,hma,hb1',H⟩:=H.giveBox
 have hbl:gcell Ga b1 0=some (.slice A l.length c):=by unfold gcell;rw [hb1'];rfl
 have hcb:=rev_cb hbl (hv.mono hma) hl ht;refine c_drawI (hmx) [[],[0],[0,1],[0,1,2],[],[4],[4,5],[],(List.range 8),(List.range 9),(List.range 10),(List.range 11)] [9,10,11] (by kernel_rfl) (by kernel_rfl) (fun (ix_:Nat) (v:Value) (G:GH)=>match ix_ with|0=>v=.slice A l.length c|1=>v=vi l.length|2=>v=.bool (decide (256 < (l.length:Int)))|3=>v=vi (whenE (decide (256 < (l.length:Int))) 9)|4=>v=.slice A l.length c|5=>v=vi l.length|6=>v=vi ((min l.length 256:Nat):Int)|7=>v=.func (.func 64) #[] #[.pointer (some ⟨b1,0,none⟩)]|8=>v=vi (allE (revE l) (min l.length 256))|_=>True) (fun _ _ _ _ _ h=>h) H ?_ ?_
 ·clear H;refine al4 ?_ ?_ ?_ ?_ (al4 ?_ ?_ ?_ ?_ (al4 ?_ ?_ ?_ ?_ allI_nil))
  ·exact Op0 rfl fun _ _ _ _ hG _ H fin=>kH H (Rg ty30nck rfl (gcell_mono hG hbl) fun _ H=>fin H iJ rfl)
  ·exact Z1 0 3 rfl rfl fun _ _ _ _ _=>Rl un30nck rfl
  ·exact Z1 1 4 rfl rfl fun _ _ _ _ _=>Rc rfl
  ·refine Op1 2 5 rfl rfl fun _ a w G1 hG HT H fin=>?_;refine s_call en44nam H wn rfl (when_spec _ _ H.hp.ro _ 9) rfl ?_;clear H;rintro v6 G6 a w ⟨rfl,-⟩ hGm6 H;exact fin H hGm6 (rfl)
  ·exact Op0 rfl fun _ _ _ _ hG _ H fin=>kH H (Rg ty30nck rfl (gcell_mono hG hbl) fun _ H=>fin H iJ rfl)
  ·exact Z1 4 7 rfl rfl fun _ _ _ _ _=>Rl un30nck rfl
  ·refine Op1 5 8 rfl rfl fun _ a w G1 hG HT H fin=>?_;refine s_min H wn rfl rfl rfl ?_;clear H;intro a H;exact fin H iJ (congrArg vi (by omega))
  ·refine Op0 rfl fun _ a w G1 hG HT H fin=>?_;refine s_makeFunc H wn rfl rfl ?_;clear H;intro a H;exact fin H iJ rfl
  ·refine Op2 6 9 7 10 rfl rfl fun _ a w G1 hG HT H fin=>?_;refine s_call en63dst H wn rfl (all_spec _ _ H.hp.ro (min l.length 256) (revE l) _ (by omega) ((hcb.mono hG).le (Nat.min_le_left _ _))) rfl ?_;clear H;rintro v11 G11 a w rfl hGm11 H;exact fin H hGm11 (rfl)
  ·exact opB rfl
  ·exact opB rfl
  exact opB rfl
 clear H;intro a w G hGm1 H hv;obtain ⟨u6,hu6,hp6⟩:=hv 3 6 (by decide) rfl;obtain rfl:u6=vi (whenE (decide (256 < (l.length:Int))) 9):=hp6;have H:=H.addS hu6;obtain ⟨u11,hu11,hp11⟩:=hv 8 11 (by decide) rfl;obtain rfl:u11=vi (allE (revE l) (min l.length 256)):=hp11;have H:=H.addS hu11;clear hv;refine s_buildSlice un127fst ty46idx [_,_] [_,_] H wn rfl rfl rfl rfl rfl (by intro i q h;match i,h with|0,h=>exact h|1,h=>exact h|n+2,h=>simp at h) rfl rfl ?_;clear H;intro b12 a w hb12 H;obtain ⟨G12,hm12,hb12',H⟩:=H.giveBox;refine s_call en39nam H wn rfl (first_spec1 _ _ H.hp.ro _ _ (two_rep hb12')) rfl ?_;clear H;rintro v13 _ a w ⟨rfl,rfl⟩ - H;refine kH H (Ra rfl ?_);clear H;intro a H;refine wl_nil ⟨rfl,?_⟩;refine K2 _ _ ?_;clear K2;refine lr H Tryz.results41 rfl ?_;exact H.hp.ret rfl
/-! ## No id twice -/
theorem firstE_zero:∀ {l:List Int},firstE l=0→∀ x∈l,x=0
 | [],_,_,h=>by cases h
 | e :: r,h,x,hx=>by
  unfold firstE at h
  by_cases he:e=0
  ·rw [if_neg (fun h'=>h' he)] at h
   rcases List.mem_cons.1 hx with rfl|hx
   ·exact he
   exact firstE_zero h x hx
  rw [if_pos he] at h;exact absurd h he
theorem allE_zero {E:Nat→Int} {n:Nat} (h:allE E n=0) (i:Nat) (hi:i < n):E i=0:=firstE_zero h _ (by simp;exact ⟨i,hi,rfl⟩)
theorem incE_zero {id:Nat→Int} {i:Nat} (h:incE id i=0):1≤id i∧id i≤1073741824∧(0 < i→id (i - 1) < id i):=by
 unfold incE at h
 by_cases h1:1≤id i∧id i≤1073741824
 ·rw [if_neg (fun h'=>h' h1)] at h
  by_cases h2:0 < i∧id i=id (i - 1)
  ·rw [if_pos h2] at h;cases h
  rw [if_neg h2] at h
  by_cases h3:0 < i∧id i < id (i - 1)
  ·rw [if_pos h3] at h;cases h
  exact ⟨h1.1,h1.2,fun h0=>by omega⟩
 rw [if_pos h1] at h;cases h
theorem inc_fresh {l:List Int} (h:∀ i (h:i+1 < l.length),l[i] < l[i+1]):Fresh l:=by
 have hlt:∀ (j i:Nat) (hj:j < l.length) (hi:i < j),l[i] < l[j]:=by
  intro j
  induction j with
  | zero=>intro i _ hi;omega
  | succ j ih =>
   intro i hj hi;have h1:=h j hj
   by_cases e:i=j
   ·subst e;exact h1
   have:=ih i (by omega) (by omega);omega
 intro k hk hm;obtain ⟨i,hi,he⟩:=List.getElem_of_mem hm;rw [List.length_take] at hi;have:=hlt k i hk (by omega);rw [List.getElem_take] at he
 omega
theorem rev_fresh {l:List RvD} (h:chkRvs l=0):Fresh (l.map RvD.id):=by
 have h1:=firstE_zero h _ (List.mem_cons_self);have h2:=firstE_zero h _ (List.mem_cons_of_mem _ List.mem_cons_self)
 have hl:l.length≤256:=by
  unfold whenE at h1
  by_cases hd:256 < (l.length:Int)
  ·rw [if_pos (decide_eq_true hd)] at h1;cases h1
  omega
 refine inc_fresh fun i hi=>?_;rw [List.length_map] at hi;have h3:=allE_zero h2 (i+1) (by omega)
 unfold revE at h3
 rw [List.getElem?_eq_getElem hi] at h3;have h4:=(incE_zero (firstE_zero h3 _ List.mem_cons_self)).2.2 (by omega);rw [Nat.add_sub_cancel,List.getElem?_eq_getElem hi,List.getElem?_eq_getElem (show i < l.length by omega)] at h4
 simpa using h4
theorem lis_fresh {l:List LiD} (h:chkLis l=0):Fresh (l.map LiD.id):=by
 have h1:=firstE_zero h _ (List.mem_cons_self);have h2:=firstE_zero h _ (List.mem_cons_of_mem _ List.mem_cons_self)
 have hl:l.length≤64:=by
  unfold whenE at h1
  by_cases hd:64 < (l.length:Int)
  ·rw [if_pos (decide_eq_true hd)] at h1;cases h1
  omega
 refine inc_fresh fun i hi=>?_;rw [List.length_map] at hi;have h3:=allE_zero h2 (i+1) (by omega)
 unfold lisE at h3
 have h4:=(incE_zero (firstE_zero h3 _ List.mem_cons_self)).2.2 (by omega);rw [Nat.add_sub_cancel,List.getElem?_eq_getElem hi,List.getElem?_eq_getElem (show i < l.length by omega)] at h4
 simpa using h4
theorem sty_fresh {l:List StyleD} (h:checkS l=0):Fresh (l.map StyleD.id):=by
 unfold checkS at h
 by_cases h1:128 < l.length
 ·rw [if_pos h1] at h;cases h
 rw [if_neg h1] at h
 by_cases h2:errF (ownAt l) 0 l.length≠0
 ·rw [if_pos h2] at h;exact absurd h h2
 intro k hk;rw [List.length_map] at hk;have:=own_nodup (Decidable.not_not.1 h2) k hk;rw [← List.map_take,List.getElem_map];exact this
end
section
open Go.RowKit
theorem en42chd:∀ args w,(callFunc 42 args).run Tryz.prog w=.ok (.enter 42 args) w:=enters Tryz.func42 rfl (by kernel_rfl)
theorem ty36chd:Ty Tryz.prog 36 4 96 [.slice none 0 0,.slice none 0 0,.slice none 0 0,.slice none 0 0] true:=⟨by kernel_rfl,by kernel_rfl⟩
theorem en40chd:∀ args w,(callFunc 40 args).run Tryz.prog w=.ok (.enter 40 args) w:=enters Tryz.func40 rfl (by kernel_rfl)
theorem en41chd:∀ args w,(callFunc 41 args).run Tryz.prog w=.ok (.enter 41 args) w:=enters Tryz.func41 rfl (by kernel_rfl)
theorem fd38_1chd:Fld Tryz.prog 38 1 1:=⟨by kernel_rfl⟩
theorem firstE_one (e:Int):firstE [e]=e:=by
 by_cases h:e=0 <;> simp [firstE,h]
/-- A document. -/
structure DocD where
 flow:List ItemD
 fin:HeadD
 revs:List RvD
 stg:StgD
structure DocR (G:GH) (D:DocV) (d:DocD):Prop where
 fl:RepV G (.sl 11 (d.flow.map ItemD.dat)) (sl3 D.f)
 hd:HeadR G d.fin (sl3 D.p) (sl3 D.d) (sl3 D.y)
 ins:D.ins=d.fin.marks.ins
 mv:D.move=d.fin.marks.move
 rv:RepV G (.sl 3 (d.revs.map RvD.dat)) (sl3 D.r)
 st:StgR G d.stg (sl3 D.s1) (sl3 D.s2) (sl3 D.s3) (sl3 D.s4)
theorem StgR.mono {G G':GH} (hm:∀ b o,G b=some o→G' b=some o) {s:StgD} {a b c d:Value} (h:StgR G s a b c d):StgR G' s a b c d:=⟨h.st.mono hm,h.li.mono hm,h.cm.mono hm,h.va.mono hm⟩
theorem DocR.mono {G G':GH} (hm:∀ b o,G b=some o→G' b=some o) {D:DocV} {d:DocD} (h:DocR G D d):DocR G' D d:=⟨h.fl.mono hm,h.hd.mono hm,h.ins,h.mv,h.rv.mono hm,h.st.mono hm⟩
/-- Bounds that no machine passes. -/
structure DocZ (d:DocD):Prop where
 fl:zItems d.flow≤1073741824
 hd:zHead d.fin≤4294967296
 rn:d.revs.length≤4294967296
 rt:∀ x∈d.revs,x.author.size < 4611686018427387904
 sn:d.stg.styles.length≤4294967296
 st:StgZ d.stg
abbrev DocD.ckp (d:DocD):CkP:=ckP d.stg.styles d.stg.lists d.revs
def mrkB (m:MarksD):Bool:=decide ((m.ins≠0∨m.move≠0)∨0 < (m.dels.length:Int))
/-- The first error of a document. -/
def chkDoc (d:DocD):Int:=firstE [firstE [chkStg d.stg,chkRvs d.revs],firstE [headE d.ckp 3 d.fin,whenE (mrkB d.fin.marks) 21],(itemsC d.ckp true false 0 d.flow ⟨0,[]⟩).1,whenE (decide (16384 < (itemsC d.ckp true false 0 d.flow ⟨0,[]⟩).2.n)) 9]
theorem check_doc (G:GH) (w0:World) (hG:Hold G w0) (D:DocV) (d:DocD) (hR:DocR G D d) (hz:DocZ d) :
  Calls Tryz.prog 26 #[D.val] w0 (Ret w0 G fun u G'=>u=vi (chkDoc d)):=by
 obtain ⟨df,dp,dd,dy,dr,d1,d2,d3,d4,ins,mv⟩:=D;obtain ⟨hfl,hhd,hin,hmv,hrv,hst⟩:=hR;dsimp only at hfl hhd hin hmv hrv hst;subst hin;subst hmv;obtain ⟨zf,zh,zr,zt,zs,zg⟩:=hz;have hdl:=hhd.dels.len;rw [List.length_map] at hdl
 have hdn:d.fin.marks.dels.length≤4294967296:=by
  have h1:=zHead_eq d.fin;have h2:=szRs_length (d.fin.marks.dels.map DelD.dat);rw [List.length_map] at h2;omega
 refine eN [(0,_)] Tryz.func26 rfl Tryz.ntmps26 rfl rfl hG ?_;intro a H;refine c_seqR (fun _ K1=>?_);refine s_box (cs:=[_,_,_,_,_,_,_,_,_,_,_]) H wn rfl rfl rfl ?_;clear H;intro b1 a w hb1 H;refine kH H (Ra rfl (Kz K1 (SQ fun _ K2=>SQ fun _ K3=>?_)));clear H K1;intro a H;refine c_drawI (hmx) [[],[0],[0,1],[],[3],[0,1,2,3,4],[0,1,2,3,4,5],(List.range 7),(List.range 8)] [6,7,8] (by kernel_rfl) (by kernel_rfl) (fun (ix_:Nat) (v:Value) (G:GH)=>match ix_ with|0=>v=.pointer (some ⟨b1,7,none⟩)|1=>v=.agg #[sl3 d1,sl3 d2,sl3 d3,sl3 d4]|2=>v=vi (chkStg d.stg)|3=>v=.pointer (some ⟨b1,6,none⟩)|4=>v=sl3 dr|5=>v=vi (chkRvs d.revs)|_=>True) (fun _ _ _ _ _ h=>h) H ?_ ?_
 ·clear H;refine al4 ?_ ?_ ?_ ?_ (al4 ?_ ?_ ?_ ?_ (allI_cons ?_ allI_nil))
  ·exact Z0 rfl rfl fun _ _ _ _ _=>Rf fd38_3nck rfl
  ·refine Op1 0 8 rfl rfl fun _ a w G1 hG HT H fin=>?_;refine s_loada ty36chd (cs:=[_,_,_,_]) H wn rfl rfl (H.hp.ocells 0 rfl rfl) rfl ?_;clear H;intro a H;exact fin H iJ rfl
  ·refine Op1 1 9 rfl rfl fun _ a w G1 hG HT H fin=>?_;refine s_call en40chd H wn rfl (checkSettings_spec _ _ H.hp.ro d.stg _ _ _ _ (hst.mono hG) zg) rfl ?_;clear H;rintro v10 G10 a w rfl hGm10 H;exact fin H hGm10 (rfl)
  ·exact Z0 rfl rfl fun _ _ _ _ _=>Rf fd38_2nck rfl
  ·exact Z1 3 11 rfl rfl fun _ _ _ _ _=>Ro ty30nck 0 rfl rfl
  ·refine Op1 4 12 rfl rfl fun _ a w G1 hG HT H fin=>?_;refine s_call en41chd H wn rfl (checkRevs_spec _ _ H.hp.ro d.revs _ (hrv.mono hG) zr zt) rfl ?_;clear H;rintro v13 G13 a w rfl hGm13 H;exact fin H hGm13 (rfl)
  ·exact opB rfl
  ·exact opB rfl
  exact opB rfl
 clear H;intro a w G hGm1 H hv;obtain ⟨u10,hu10,hp10⟩:=hv 2 10 (by decide) rfl;obtain rfl:u10=vi (chkStg d.stg):=hp10;have H:=H.addS hu10;obtain ⟨u13,hu13,hp13⟩:=hv 5 13 (by decide) rfl;obtain rfl:u13=vi (chkRvs d.revs):=hp13;have H:=H.addS hu13;clear hv;refine s_buildSlice un127fst ty46idx [_,_] [_,_] H wn rfl rfl rfl rfl rfl (by intro i q h;match i,h with|0,h=>exact h|1,h=>exact h|n+2,h=>simp at h) rfl rfl ?_;clear H;intro b14 a w hb14 H;obtain ⟨G14,hm14,hb14',H⟩:=H.giveBox;have hg1:=fun b o h=>hm14 b o (hGm1 b o h);replace hfl:=hfl.mono hg1;replace hhd:=hhd.mono hg1;replace hrv:=hrv.mono hg1;replace hst:=hst.mono hg1;refine s_call en39nam H wn rfl (first_spec1 _ _ H.hp.ro _ _ (two_rep hb14')) rfl ?_;clear H;rintro v15 _ a w ⟨rfl,rfl⟩ - H;refine kH H (Ra rfl ?_);clear H;intro a H;refine wl_nil ⟨rfl,?_⟩;refine K3 _ _ ?_;clear K3;refine kP H (SR fun _ K4=>Rm rfl (Rc rfl (Kz K4 ?_)));clear H K4;intro a H;refine c_cond H rfl ?_ ?_
 ·intro h17
  try have p17:=dT h17
  have hE:chkDoc d=firstE [chkStg d.stg,chkRvs d.revs]:=by rw [chkDoc,firstE,if_pos p17]
  refine kP H (SR fun _ K5=>Rm rfl (Ra rfl (Kz K5 ?_)));clear H K5;intro a H;refine lr H Tryz.results26 rfl ?_;exact H.hp.ret (by rw [hE])
 intro h17
 try have p17:=dF h17
 have e1:=Decidable.not_not.1 p17;have s1:=firstE_zero e1 _ List.mem_cons_self;have s2:=firstE_zero e1 _ (List.mem_cons_of_mem _ List.mem_cons_self);have t1:=firstE_zero s1 _ List.mem_cons_self;have t2:=firstE_zero s1 _ (List.mem_cons_of_mem _ List.mem_cons_self);refine c_skip ?_;refine K2 _ _ ?_;clear K2;refine c_seqR (fun _ K6=>?_);refine s_loada ty38pq (cs:=[_,_,_,_,_,_,_,_,_,_,_]) H wn rfl rfl (H.hp.ocells 0 rfl rfl) rfl ?_;clear H;intro a H;refine s_callL en42chd (Li:=[_]) (L:=[]) H wn rfl (newChecker_spec _ _ (Hp.owns (Li:=[_]) H.hp) ⟨df,dp,dd,dy,dr,d1,d2,d3,d4,d.fin.marks.ins,d.fin.marks.move⟩ d.stg.styles d.stg.lists d.revs hst.st hst.li hrv (sty_fresh t1) (lis_fresh t2) (rev_fresh s2) zs zg.ln zr) rfl ?_;clear H;rintro v20 G20 _ a w ⟨b,ms,ml,mr,mb,mu,rfl,rfl,hck⟩ hm20 H;dsimp only [List.cons_append,List.nil_append] at H;replace hfl:=hfl.mono hm20;replace hhd:=hhd.mono hm20;refine kH H (Ra rfl (Kz K6 (SR fun _ K7=>Rf fd38_1chd rfl (Rf fd29_1run rfl ?_))));clear H K6;intro a H;refine s_loada ty27hea (cs:=[_,_,_,_]) H wn rfl rfl (H.hp.ocells 0 rfl rfl) rfl ?_;clear H;intro a H;refine s_alloc ty27hea H wn rfl ?_;clear H;intro b5 a w hb5 H;refine s_store ty27hea 0 (vs:=[_,_,_,_]) _ H wn rfl rfl rfl rfl rfl rfl rfl rfl ?_;clear H;intro w H;dsimp only [List.set,setRow] at H;refine K7 _ _ ?_;clear K7;refine c_seq (fun _ K8=>?_);refine c_seq (fun _ K9=>?_)
 by_cases c0:d.fin.marks.ins≠0
 ·skip;have c1:d.fin.marks.ins≠0∨d.fin.marks.move≠0:=Or.inl c0;refine c_drawI (hmx) [[],[],[1],[0,1,2],[],[4],[4,5],(List.range 7),(List.range 8),(List.range 9),(List.range 10),(List.range 11),(List.range 12),(List.range 13),(List.range 14),(List.range 15),(List.range 16),(List.range 17),(List.range 18),(List.range 19),(List.range 20),(List.range 21)] [19,20,21] (by kernel_rfl) (by kernel_rfl) (fun (ix_:Nat) (v:Value) (G:GH)=>match ix_ with|0=>v=.pointer (some ⟨b,0,none⟩)|1=>v=.pointer (some ⟨b1,1,none⟩)|2=>v=hdV d.fin (sl3 dp) (sl3 dd) (sl3 dy)|3=>v=vi (headE d.ckp 3 d.fin)|4=>v=.pointer (some ⟨b5,0,none⟩)|5=>v=vi d.fin.marks.ins|6=>v=.bool (decide (d.fin.marks.ins≠0))|7=>v=.bool (decide (d.fin.marks.ins≠0))|8=>v=undef|9=>v=undef|10=>v=undef|11=>v=.bool (decide (d.fin.marks.ins≠0∨d.fin.marks.move≠0))|12=>v=.bool (decide (d.fin.marks.ins≠0∨d.fin.marks.move≠0))|13=>v=undef|14=>v=undef|15=>v=undef|16=>v=undef|17=>v=.bool (mrkB d.fin.marks)|18=>v=vi (whenE (mrkB d.fin.marks) 21)|_=>True) (fun _ _ _ _ _ h=>h) H ?_ ?_
  ·clear H;refine al4 ?_ ?_ ?_ ?_ (al4 ?_ ?_ ?_ ?_ (al4 ?_ ?_ ?_ ?_ (al4 ?_ ?_ ?_ ?_ (al4 ?_ ?_ ?_ ?_ (allI_cons ?_ (allI_cons ?_ allI_nil))))))
   ·exact Z0 rfl rfl fun _ _ _ _ _=>Rm rfl
   ·exact Z0 rfl rfl fun _ _ _ _ _=>Rf fd38_1chd rfl
   ·refine Op1 1 25 rfl rfl fun _ a w G1 hG HT H fin=>?_;refine s_loada ty29run (cs:=[_,_,_,_,_]) H wn rfl rfl (H.hp.ocells 1 rfl rfl) rfl ?_;clear H;intro a H;exact fin H iJ rfl
   ·refine Op2 0 24 2 26 rfl rfl fun _ a w G1 hG HT H fin=>?_;refine s_callL en43rws (Li:=[_,_]) (L:=ckB b ms ml mr mb mu 0 :: (mb,mpK []) :: []) H wn rfl (headL_spec _ _ _ d.stg.styles d.stg.lists d.revs b ms ml mr mb mu _ (hck.mono hG) (Hp.owns (Li:=[_,_]) H.hp) 3 d.fin _ _ _ (hhd.mono hG) zh) rfl ?_;clear H;rintro v27 _ _ a w ⟨rfl,rfl,rfl⟩ hGm27 H;dsimp only [List.cons_append,List.nil_append] at H;exact fin H hGm27 (rfl)
   ·exact Z0 rfl rfl fun _ _ _ _ _=>Rf fd27_0hea rfl
   ·exact Z1 4 28 rfl rfl fun _ _ _ _ _=>Ro ty3run 0 rfl rfl
   ·exact Z1 5 29 rfl rfl fun _ _ _ _ _=>Rc rfl
   ·exact Z1 6 30 rfl rfl fun _ _ _ _ _=>Rm rfl
   ·exact skI 7 (decide_eq_true c0) rfl rfl
   ·exact skI 7 (decide_eq_true c0) rfl rfl
   ·exact skI 7 (decide_eq_true c0) rfl rfl
   ·refine Op2 7 31 10 34 rfl rfl fun _ a w G1 hG HT H fin=>?_;refine kH H (Pt (decide_eq_true c0) rfl ?_);clear H;intro a H;exact fin H iJ (by first|exact congrArg Value.bool (decide_eq_true c1).symm|exact congrArg Value.bool (by simp [c0]))
   ·exact Z1 11 35 rfl rfl fun _ _ _ _ _=>Rm rfl
   ·exact skI 12 (decide_eq_true c1) rfl rfl
   ·exact skI 12 (decide_eq_true c1) rfl rfl
   ·exact skI 12 (decide_eq_true c1) rfl rfl
   ·exact skI 12 (decide_eq_true c1) rfl rfl
   ·refine Op2 12 36 16 40 rfl rfl fun _ a w G1 hG HT H fin=>?_;refine kH H (Pt (decide_eq_true c1) rfl ?_);clear H;intro a H;exact fin H iJ (by first|exact congrArg Value.bool (decide_eq_true (Or.inl c1)).symm|exact congrArg Value.bool (by simp [mrkB,c1]))
   ·refine Op1 17 41 rfl rfl fun _ a w G1 hG HT H fin=>?_;refine s_call en44nam H wn rfl (when_spec _ _ H.hp.ro _ 21) rfl ?_;clear H;rintro v42 G42 a w ⟨rfl,-⟩ hGm42 H;exact fin H hGm42 (rfl)
   ·exact opB rfl
   ·exact opB rfl
   exact opB rfl
  clear H;intro a w G hGm6 H hv;obtain ⟨u27,hu27,hp27⟩:=hv 3 27 (by decide) rfl;obtain rfl:u27=vi (headE d.ckp 3 d.fin):=hp27;have H:=H.addS hu27;obtain ⟨u42,hu42,hp42⟩:=hv 18 42 (by decide) rfl;obtain rfl:u42=vi (whenE (mrkB d.fin.marks) 21):=hp42;have H:=H.addS hu42;clear hv;refine s_buildSlice un127fst ty46idx [_,_] [_,_] H wn rfl rfl rfl rfl rfl (by intro i q h;match i,h with|0,h=>exact h|1,h=>exact h|n+2,h=>simp at h) rfl rfl ?_;clear H;intro b43 a w hb43 H;obtain ⟨G43,hm43,hb43',H⟩:=H.giveBox;have hg6:=fun b o h=>hm43 b o (hGm6 b o h);replace hfl:=hfl.mono hg6;replace hck:=hck.mono hg6;refine s_call en39nam H wn rfl (first_spec1 _ _ H.hp.ro _ _ (two_rep hb43')) rfl ?_;clear H;rintro v44 _ a w ⟨rfl,rfl⟩ - H;refine kH H (Ra rfl ?_);clear H;intro a H;refine wl_nil ⟨rfl,?_⟩;refine K9 _ _ ?_;clear K9;refine kP H (SR fun _ K10=>Rm rfl (Rc rfl (Kz K10 ?_)));clear H K10;intro a H;refine c_cond H rfl ?_ ?_
  ·intro h46
   try have p46:=dT h46
   have hE:chkDoc d=firstE [headE d.ckp 3 d.fin,whenE (mrkB d.fin.marks) 21]:=by rw [chkDoc,firstE,if_neg (by simpa using e1),firstE,if_pos p46]
   refine kP H (SR fun _ K11=>Rm rfl (Ra rfl (Kz K11 ?_)));clear H K11;intro a H;refine lr H Tryz.results26 rfl ?_;exact H.hp.ret (by rw [hE])
  intro h46
  try have p46:=dF h46
  have e2:=Decidable.not_not.1 p46;refine kP H (Kc K8 (SQ fun _ K12=>SR fun _ K13=>Rm rfl (Rf fd38_0pq rfl (Ro ty22run 1 rfl rfl ?_))));clear H K8;intro a H;refine s_build sr103doc [_,_,_] H wn rfl rfl rfl rfl ?_;clear H;intro a H;refine s_callL en45rws (Li:=[_,_]) (L:=ckB b ms ml mr mb mu 0 :: (mb,mpK []) :: []) H wn rfl (items_ok 4294967297 (by omega) _ _ _ d.stg.styles d.stg.lists d.revs b ms ml mr mb mu ⟨0,[]⟩ d.flow _ true false 0 hck (Hp.owns (Li:=[_,_]) H.hp) hfl (by omega) (by omega) (by omega) (by decide) (by dsimp only;omega)) rfl ?_;clear H;rintro v52 _ _ a w ⟨rfl,s3,rfl,rfl,h3⟩ - H;dsimp only [List.cons_append,List.nil_append] at H;refine kH H (Ra rfl (Kz K13 (SR fun _ K14=>Rm rfl (Rc rfl (Kz K14 ?_)))));clear H K13 K14;intro a H;refine c_cond H rfl ?_ ?_
  ·intro h54
   try have p54:=dT h54
   have hE:chkDoc d=(itemsC d.ckp true false 0 d.flow ⟨0,[]⟩).1:=by rw [chkDoc,firstE,if_neg (by simpa using e1),firstE,if_neg (by simpa using e2),firstE,if_pos p54]
   refine kP H (SR fun _ K15=>Rm rfl (Ra rfl (Kz K15 ?_)));clear H K15;intro a H;refine lr H Tryz.results26 rfl ?_;exact H.hp.ret (by rw [hE])
  intro h54
  try have p54:=dF h54
  have e3:=Decidable.not_not.1 p54;have hs3:=h3 e3;subst hs3;refine kP H (Kc K12 (SR fun _ K16=>Rm rfl (Rk rfl (Rf fd107_5itm rfl (Ro ty3run 2 rfl rfl (Rc rfl ?_))))));clear H K12;intro a H;refine s_call en44nam H wn rfl (when_spec _ _ H.hp.ro _ 9) rfl ?_;clear H;rintro v61 _ a w ⟨rfl,rfl⟩ - H
  have hE:chkDoc d=whenE (decide (16384 < (itemsC d.ckp true false 0 d.flow ⟨0,[]⟩).2.n)) 9:=by rw [chkDoc,firstE,if_neg (by simpa using e1),firstE,if_neg (by simpa using e2),firstE,if_neg (by simpa using e3)];exact firstE_one _
  refine kH H (Ra rfl (Kz K16 ?_));clear H K16;intro a H;refine lr H Tryz.results26 rfl ?_;exact H.hp.ret (by rw [hE])
 skip
 by_cases c1:d.fin.marks.ins≠0∨d.fin.marks.move≠0
 ·skip;refine c_drawI (hmx) [[],[],[1],[0,1,2],[],[4],[4,5],(List.range 7),(List.range 8),(List.range 9),(List.range 10),(List.range 11),(List.range 12),(List.range 13),(List.range 14),(List.range 15),(List.range 16),(List.range 17),(List.range 18),(List.range 19),(List.range 20),(List.range 21)] [19,20,21] (by kernel_rfl) (by kernel_rfl) (fun (ix_:Nat) (v:Value) (G:GH)=>match ix_ with|0=>v=.pointer (some ⟨b,0,none⟩)|1=>v=.pointer (some ⟨b1,1,none⟩)|2=>v=hdV d.fin (sl3 dp) (sl3 dd) (sl3 dy)|3=>v=vi (headE d.ckp 3 d.fin)|4=>v=.pointer (some ⟨b5,0,none⟩)|5=>v=vi d.fin.marks.ins|6=>v=.bool (decide (d.fin.marks.ins≠0))|7=>v=.bool (decide (d.fin.marks.ins≠0))|8=>v=.pointer (some ⟨b5,1,none⟩)|9=>v=vi d.fin.marks.move|10=>v=.bool (decide (d.fin.marks.move≠0))|11=>v=.bool (decide (d.fin.marks.ins≠0∨d.fin.marks.move≠0))|12=>v=.bool (decide (d.fin.marks.ins≠0∨d.fin.marks.move≠0))|13=>v=undef|14=>v=undef|15=>v=undef|16=>v=undef|17=>v=.bool (mrkB d.fin.marks)|18=>v=vi (whenE (mrkB d.fin.marks) 21)|_=>True) (fun _ _ _ _ _ h=>h) H ?_ ?_
  ·clear H;refine al4 ?_ ?_ ?_ ?_ (al4 ?_ ?_ ?_ ?_ (al4 ?_ ?_ ?_ ?_ (al4 ?_ ?_ ?_ ?_ (al4 ?_ ?_ ?_ ?_ (allI_cons ?_ (allI_cons ?_ allI_nil))))))
   ·exact Z0 rfl rfl fun _ _ _ _ _=>Rm rfl
   ·exact Z0 rfl rfl fun _ _ _ _ _=>Rf fd38_1chd rfl
   ·refine Op1 1 25 rfl rfl fun _ a w G1 hG HT H fin=>?_;refine s_loada ty29run (cs:=[_,_,_,_,_]) H wn rfl rfl (H.hp.ocells 1 rfl rfl) rfl ?_;clear H;intro a H;exact fin H iJ rfl
   ·refine Op2 0 24 2 26 rfl rfl fun _ a w G1 hG HT H fin=>?_;refine s_callL en43rws (Li:=[_,_]) (L:=ckB b ms ml mr mb mu 0 :: (mb,mpK []) :: []) H wn rfl (headL_spec _ _ _ d.stg.styles d.stg.lists d.revs b ms ml mr mb mu _ (hck.mono hG) (Hp.owns (Li:=[_,_]) H.hp) 3 d.fin _ _ _ (hhd.mono hG) zh) rfl ?_;clear H;rintro v27 _ _ a w ⟨rfl,rfl,rfl⟩ hGm27 H;dsimp only [List.cons_append,List.nil_append] at H;exact fin H hGm27 (rfl)
   ·exact Z0 rfl rfl fun _ _ _ _ _=>Rf fd27_0hea rfl
   ·exact Z1 4 28 rfl rfl fun _ _ _ _ _=>Ro ty3run 0 rfl rfl
   ·exact Z1 5 29 rfl rfl fun _ _ _ _ _=>Rc rfl
   ·exact Z1 6 30 rfl rfl fun _ _ _ _ _=>Rm rfl
   ·exact Op1 7 31 rfl rfl fun _ _ _ _ hG _ H fin=>kH H (YF fd27_1hea (decide_eq_false c0) rfl fun _ H=>fin H iJ rfl)
   ·exact Op2 8 32 7 31 rfl rfl fun _ _ _ _ hG _ H fin=>kH H (YO ty3run 0 (decide_eq_false c0) rfl rfl fun _ H=>fin H iJ rfl)
   ·exact Op2 9 33 7 31 rfl rfl fun _ _ _ _ hG _ H fin=>kH H (YC (decide_eq_false c0) rfl fun _ H=>fin H iJ rfl)
   ·refine Op2 7 31 10 34 rfl rfl fun _ a w G1 hG HT H fin=>?_;refine kH H (Pf (decide_eq_false c0) rfl ?_);clear H;intro a H;exact fin H iJ (by first|exact congrArg Value.bool (decide_eq_true c1).symm|exact congrArg Value.bool (by simp [c0]))
   ·exact Z1 11 35 rfl rfl fun _ _ _ _ _=>Rm rfl
   ·exact skI 12 (decide_eq_true c1) rfl rfl
   ·exact skI 12 (decide_eq_true c1) rfl rfl
   ·exact skI 12 (decide_eq_true c1) rfl rfl
   ·exact skI 12 (decide_eq_true c1) rfl rfl
   ·refine Op2 12 36 16 40 rfl rfl fun _ a w G1 hG HT H fin=>?_;refine kH H (Pt (decide_eq_true c1) rfl ?_);clear H;intro a H;exact fin H iJ (by first|exact congrArg Value.bool (decide_eq_true (Or.inl c1)).symm|exact congrArg Value.bool (by simp [mrkB,c1]))
   ·refine Op1 17 41 rfl rfl fun _ a w G1 hG HT H fin=>?_;refine s_call en44nam H wn rfl (when_spec _ _ H.hp.ro _ 21) rfl ?_;clear H;rintro v42 G42 a w ⟨rfl,-⟩ hGm42 H;exact fin H hGm42 (rfl)
   ·exact opB rfl
   ·exact opB rfl
   exact opB rfl
  clear H;intro a w G hGm6 H hv;obtain ⟨u27,hu27,hp27⟩:=hv 3 27 (by decide) rfl;obtain rfl:u27=vi (headE d.ckp 3 d.fin):=hp27;have H:=H.addS hu27;obtain ⟨u42,hu42,hp42⟩:=hv 18 42 (by decide) rfl;obtain rfl:u42=vi (whenE (mrkB d.fin.marks) 21):=hp42;have H:=H.addS hu42;clear hv;refine s_buildSlice un127fst ty46idx [_,_] [_,_] H wn rfl rfl rfl rfl rfl (by intro i q h;match i,h with|0,h=>exact h|1,h=>exact h|n+2,h=>simp at h) rfl rfl ?_;clear H;intro b43 a w hb43 H;obtain ⟨G43,hm43,hb43',H⟩:=H.giveBox;have hg6:=fun b o h=>hm43 b o (hGm6 b o h);replace hfl:=hfl.mono hg6;replace hck:=hck.mono hg6;refine s_call en39nam H wn rfl (first_spec1 _ _ H.hp.ro _ _ (two_rep hb43')) rfl ?_;clear H;rintro v44 _ a w ⟨rfl,rfl⟩ - H;refine kH H (Ra rfl ?_);clear H;intro a H;refine wl_nil ⟨rfl,?_⟩;refine K9 _ _ ?_;clear K9;refine kP H (SR fun _ K17=>Rm rfl (Rc rfl (Kz K17 ?_)));clear H K17;intro a H;refine c_cond H rfl ?_ ?_
  ·intro h46
   try have p46:=dT h46
   have hE:chkDoc d=firstE [headE d.ckp 3 d.fin,whenE (mrkB d.fin.marks) 21]:=by rw [chkDoc,firstE,if_neg (by simpa using e1),firstE,if_pos p46]
   refine kP H (SR fun _ K18=>Rm rfl (Ra rfl (Kz K18 ?_)));clear H K18;intro a H;refine lr H Tryz.results26 rfl ?_;exact H.hp.ret (by rw [hE])
  intro h46
  try have p46:=dF h46
  have e2:=Decidable.not_not.1 p46;refine kP H (Kc K8 (SQ fun _ K19=>SR fun _ K20=>Rm rfl (Rf fd38_0pq rfl (Ro ty22run 1 rfl rfl ?_))));clear H K8;intro a H;refine s_build sr103doc [_,_,_] H wn rfl rfl rfl rfl ?_;clear H;intro a H;refine s_callL en45rws (Li:=[_,_]) (L:=ckB b ms ml mr mb mu 0 :: (mb,mpK []) :: []) H wn rfl (items_ok 4294967297 (by omega) _ _ _ d.stg.styles d.stg.lists d.revs b ms ml mr mb mu ⟨0,[]⟩ d.flow _ true false 0 hck (Hp.owns (Li:=[_,_]) H.hp) hfl (by omega) (by omega) (by omega) (by decide) (by dsimp only;omega)) rfl ?_;clear H;rintro v52 _ _ a w ⟨rfl,s3,rfl,rfl,h3⟩ - H;dsimp only [List.cons_append,List.nil_append] at H;refine kH H (Ra rfl (Kz K20 (SR fun _ K21=>Rm rfl (Rc rfl (Kz K21 ?_)))));clear H K20 K21;intro a H;refine c_cond H rfl ?_ ?_
  ·intro h54
   try have p54:=dT h54
   have hE:chkDoc d=(itemsC d.ckp true false 0 d.flow ⟨0,[]⟩).1:=by rw [chkDoc,firstE,if_neg (by simpa using e1),firstE,if_neg (by simpa using e2),firstE,if_pos p54]
   refine kP H (SR fun _ K22=>Rm rfl (Ra rfl (Kz K22 ?_)));clear H K22;intro a H;refine lr H Tryz.results26 rfl ?_;exact H.hp.ret (by rw [hE])
  intro h54
  try have p54:=dF h54
  have e3:=Decidable.not_not.1 p54;have hs3:=h3 e3;subst hs3;refine kP H (Kc K19 (SR fun _ K23=>Rm rfl (Rk rfl (Rf fd107_5itm rfl (Ro ty3run 2 rfl rfl (Rc rfl ?_))))));clear H K19;intro a H;refine s_call en44nam H wn rfl (when_spec _ _ H.hp.ro _ 9) rfl ?_;clear H;rintro v61 _ a w ⟨rfl,rfl⟩ - H
  have hE:chkDoc d=whenE (decide (16384 < (itemsC d.ckp true false 0 d.flow ⟨0,[]⟩).2.n)) 9:=by rw [chkDoc,firstE,if_neg (by simpa using e1),firstE,if_neg (by simpa using e2),firstE,if_neg (by simpa using e3)];exact firstE_one _
  refine kH H (Ra rfl (Kz K23 ?_));clear H K23;intro a H;refine lr H Tryz.results26 rfl ?_;exact H.hp.ret (by rw [hE])
 skip;refine c_drawI (hmx) [[],[],[1],[0,1,2],[],[4],[4,5],(List.range 7),(List.range 8),(List.range 9),(List.range 10),(List.range 11),(List.range 12),(List.range 13),(List.range 14),(List.range 15),(List.range 16),(List.range 17),(List.range 18),(List.range 19),(List.range 20),(List.range 21)] [19,20,21] (by kernel_rfl) (by kernel_rfl) (fun (ix_:Nat) (v:Value) (G:GH)=>match ix_ with|0=>v=.pointer (some ⟨b,0,none⟩)|1=>v=.pointer (some ⟨b1,1,none⟩)|2=>v=hdV d.fin (sl3 dp) (sl3 dd) (sl3 dy)|3=>v=vi (headE d.ckp 3 d.fin)|4=>v=.pointer (some ⟨b5,0,none⟩)|5=>v=vi d.fin.marks.ins|6=>v=.bool (decide (d.fin.marks.ins≠0))|7=>v=.bool (decide (d.fin.marks.ins≠0))|8=>v=.pointer (some ⟨b5,1,none⟩)|9=>v=vi d.fin.marks.move|10=>v=.bool (decide (d.fin.marks.move≠0))|11=>v=.bool (decide (d.fin.marks.ins≠0∨d.fin.marks.move≠0))|12=>v=.bool (decide (d.fin.marks.ins≠0∨d.fin.marks.move≠0))|13=>v=.pointer (some ⟨b5,2,none⟩)|14=>v=sl3 dd|15=>v=vi d.fin.marks.dels.length|16=>v=.bool (decide (0 < (d.fin.marks.dels.length:Int)))|17=>v=.bool (mrkB d.fin.marks)|18=>v=vi (whenE (mrkB d.fin.marks) 21)|_=>True) (fun _ _ _ _ _ h=>h) H ?_ ?_
 ·clear H;refine al4 ?_ ?_ ?_ ?_ (al4 ?_ ?_ ?_ ?_ (al4 ?_ ?_ ?_ ?_ (al4 ?_ ?_ ?_ ?_ (al4 ?_ ?_ ?_ ?_ (allI_cons ?_ (allI_cons ?_ allI_nil))))))
  ·exact Z0 rfl rfl fun _ _ _ _ _=>Rm rfl
  ·exact Z0 rfl rfl fun _ _ _ _ _=>Rf fd38_1chd rfl
  ·refine Op1 1 25 rfl rfl fun _ a w G1 hG HT H fin=>?_;refine s_loada ty29run (cs:=[_,_,_,_,_]) H wn rfl rfl (H.hp.ocells 1 rfl rfl) rfl ?_;clear H;intro a H;exact fin H iJ rfl
  ·refine Op2 0 24 2 26 rfl rfl fun _ a w G1 hG HT H fin=>?_;refine s_callL en43rws (Li:=[_,_]) (L:=ckB b ms ml mr mb mu 0 :: (mb,mpK []) :: []) H wn rfl (headL_spec _ _ _ d.stg.styles d.stg.lists d.revs b ms ml mr mb mu _ (hck.mono hG) (Hp.owns (Li:=[_,_]) H.hp) 3 d.fin _ _ _ (hhd.mono hG) zh) rfl ?_;clear H;rintro v27 _ _ a w ⟨rfl,rfl,rfl⟩ hGm27 H;dsimp only [List.cons_append,List.nil_append] at H;exact fin H hGm27 (rfl)
  ·exact Z0 rfl rfl fun _ _ _ _ _=>Rf fd27_0hea rfl
  ·exact Z1 4 28 rfl rfl fun _ _ _ _ _=>Ro ty3run 0 rfl rfl
  ·exact Z1 5 29 rfl rfl fun _ _ _ _ _=>Rc rfl
  ·exact Z1 6 30 rfl rfl fun _ _ _ _ _=>Rm rfl
  ·exact Op1 7 31 rfl rfl fun _ _ _ _ hG _ H fin=>kH H (YF fd27_1hea (decide_eq_false c0) rfl fun _ H=>fin H iJ rfl)
  ·exact Op2 8 32 7 31 rfl rfl fun _ _ _ _ hG _ H fin=>kH H (YO ty3run 0 (decide_eq_false c0) rfl rfl fun _ H=>fin H iJ rfl)
  ·exact Op2 9 33 7 31 rfl rfl fun _ _ _ _ hG _ H fin=>kH H (YC (decide_eq_false c0) rfl fun _ H=>fin H iJ rfl)
  ·refine Op2 7 31 10 34 rfl rfl fun _ a w G1 hG HT H fin=>?_;refine kH H (Pf (decide_eq_false c0) rfl ?_);clear H;intro a H;exact fin H iJ (by first|exact congrArg Value.bool (decide_eq_true c1).symm|exact congrArg Value.bool (by simp [c0]))
  ·exact Z1 11 35 rfl rfl fun _ _ _ _ _=>Rm rfl
  ·exact Op1 12 36 rfl rfl fun _ _ _ _ hG _ H fin=>kH H (YF fd27_2run (decide_eq_false c1) rfl fun _ H=>fin H iJ rfl)
  ·exact Op2 13 37 12 36 rfl rfl fun _ _ _ _ hG _ H fin=>kH H (YO ty24run 0 (decide_eq_false c1) rfl rfl fun _ H=>fin H iJ rfl)
  ·refine Op2 14 38 12 36 rfl rfl fun _ a w G1 hG HT H fin=>?_;refine kH H (YL un24run (decide_eq_false c1) rfl ?_);clear H;intro a H;exact fin H iJ (by first|rfl|exact congrArg (fun n:Nat=>vi n) hdl)
  ·exact Op2 15 39 12 36 rfl rfl fun _ _ _ _ hG _ H fin=>kH H (YC (decide_eq_false c1) rfl fun _ H=>fin H iJ rfl)
  ·refine Op2 12 36 16 40 rfl rfl fun _ a w G1 hG HT H fin=>?_;refine kH H (Pf (decide_eq_false c1) rfl ?_);clear H;intro a H;exact fin H iJ (by first|exact congrArg Value.bool (decide_eq_true (Or.inl c1)).symm|exact congrArg Value.bool (by simp [mrkB,c1]))
  ·refine Op1 17 41 rfl rfl fun _ a w G1 hG HT H fin=>?_;refine s_call en44nam H wn rfl (when_spec _ _ H.hp.ro _ 21) rfl ?_;clear H;rintro v42 G42 a w ⟨rfl,-⟩ hGm42 H;exact fin H hGm42 (rfl)
  ·exact opB rfl
  ·exact opB rfl
  exact opB rfl
 clear H;intro a w G hGm6 H hv;obtain ⟨u27,hu27,hp27⟩:=hv 3 27 (by decide) rfl;obtain rfl:u27=vi (headE d.ckp 3 d.fin):=hp27;have H:=H.addS hu27;obtain ⟨u42,hu42,hp42⟩:=hv 18 42 (by decide) rfl;obtain rfl:u42=vi (whenE (mrkB d.fin.marks) 21):=hp42;have H:=H.addS hu42;clear hv;refine s_buildSlice un127fst ty46idx [_,_] [_,_] H wn rfl rfl rfl rfl rfl (by intro i q h;match i,h with|0,h=>exact h|1,h=>exact h|n+2,h=>simp at h) rfl rfl ?_;clear H;intro b43 a w hb43 H;obtain ⟨G43,hm43,hb43',H⟩:=H.giveBox;have hg6:=fun b o h=>hm43 b o (hGm6 b o h);replace hfl:=hfl.mono hg6;replace hck:=hck.mono hg6;refine s_call en39nam H wn rfl (first_spec1 _ _ H.hp.ro _ _ (two_rep hb43')) rfl ?_;clear H;rintro v44 _ a w ⟨rfl,rfl⟩ - H;refine kH H (Ra rfl ?_);clear H;intro a H;refine wl_nil ⟨rfl,?_⟩;refine K9 _ _ ?_;clear K9;refine kP H (SR fun _ K24=>Rm rfl (Rc rfl (Kz K24 ?_)));clear H K24;intro a H;refine c_cond H rfl ?_ ?_
 ·intro h46
  try have p46:=dT h46
  have hE:chkDoc d=firstE [headE d.ckp 3 d.fin,whenE (mrkB d.fin.marks) 21]:=by rw [chkDoc,firstE,if_neg (by simpa using e1),firstE,if_pos p46]
  refine kP H (SR fun _ K25=>Rm rfl (Ra rfl (Kz K25 ?_)));clear H K25;intro a H;refine lr H Tryz.results26 rfl ?_;exact H.hp.ret (by rw [hE])
 intro h46
 try have p46:=dF h46
 have e2:=Decidable.not_not.1 p46;refine kP H (Kc K8 (SQ fun _ K26=>SR fun _ K27=>Rm rfl (Rf fd38_0pq rfl (Ro ty22run 1 rfl rfl ?_))));clear H K8;intro a H;refine s_build sr103doc [_,_,_] H wn rfl rfl rfl rfl ?_;clear H;intro a H;refine s_callL en45rws (Li:=[_,_]) (L:=ckB b ms ml mr mb mu 0 :: (mb,mpK []) :: []) H wn rfl (items_ok 4294967297 (by omega) _ _ _ d.stg.styles d.stg.lists d.revs b ms ml mr mb mu ⟨0,[]⟩ d.flow _ true false 0 hck (Hp.owns (Li:=[_,_]) H.hp) hfl (by omega) (by omega) (by omega) (by decide) (by dsimp only;omega)) rfl ?_;clear H;rintro v52 _ _ a w ⟨rfl,s3,rfl,rfl,h3⟩ - H;dsimp only [List.cons_append,List.nil_append] at H;refine kH H (Ra rfl (Kz K27 (SR fun _ K28=>Rm rfl (Rc rfl (Kz K28 ?_)))));clear H K27 K28;intro a H;refine c_cond H rfl ?_ ?_
 ·intro h54
  try have p54:=dT h54
  have hE:chkDoc d=(itemsC d.ckp true false 0 d.flow ⟨0,[]⟩).1:=by rw [chkDoc,firstE,if_neg (by simpa using e1),firstE,if_neg (by simpa using e2),firstE,if_pos p54]
  refine kP H (SR fun _ K29=>Rm rfl (Ra rfl (Kz K29 ?_)));clear H K29;intro a H;refine lr H Tryz.results26 rfl ?_;exact H.hp.ret (by rw [hE])
 intro h54
 try have p54:=dF h54
 have e3:=Decidable.not_not.1 p54;have hs3:=h3 e3;subst hs3;refine kP H (Kc K26 (SR fun _ K30=>Rm rfl (Rk rfl (Rf fd107_5itm rfl (Ro ty3run 2 rfl rfl (Rc rfl ?_))))));clear H K26;intro a H;refine s_call en44nam H wn rfl (when_spec _ _ H.hp.ro _ 9) rfl ?_;clear H;rintro v61 _ a w ⟨rfl,rfl⟩ - H
 have hE:chkDoc d=whenE (decide (16384 < (itemsC d.ckp true false 0 d.flow ⟨0,[]⟩).2.n)) 9:=by rw [chkDoc,firstE,if_neg (by simpa using e1),firstE,if_neg (by simpa using e2),firstE,if_neg (by simpa using e3)];exact firstE_one _
 refine kH H (Ra rfl (Kz K30 ?_));clear H K30;intro a H;refine lr H Tryz.results26 rfl ?_;exact H.hp.ret (by rw [hE])
end
section
open Go.RowKit
theorem ty70frs:Ty Tryz.prog 70 1 24 [.slice none 0 0] false:=⟨by kernel_rfl,by kernel_rfl⟩
theorem intRow1 (G:GH) (n:Int):RepRow G [li n] [vi n]:=by simp [RepRow,RepV,Value.oneCell']
/-- How many units all flows have. -/
def unS (A:List FlowD):Int:=A.foldl (fun n f=>n+lenS f.items) 0
theorem unS_snoc {A:List FlowD} {k:Nat} (h:k < A.length):unS (A.take (k+1))=unS (A.take k)+lenS A[k].items:=by
 rw [unS,List.take_succ_eq_append_getElem h,List.foldl_append];rfl
theorem units_doc (G:GH) (w0:World) (hG:Hold G w0) (D:DocV) (l:List ItemD) (hv:RepV G (.sl 11 (l.map ItemD.dat)) (sl3 D.f)) (hz:zItems l≤4294967296) (hm:∀ k,k≤(flowsD l).length→0≤unS ((flowsD l).take k)∧unS ((flowsD l).take k)≤4611686018427387904) :
  Calls Tryz.prog 27 #[D.val] w0 (Ret w0 G fun v G'=>v=vi (unS (flowsD l))):=by
 refine eN [(0,_)] Tryz.func27 rfl Tryz.ntmps27 rfl rfl hG ?_;intro a H;refine c_seqR (fun _ K1=>?_);refine s_box (cs:=[_,_,_,_,_,_,_,_,_,_,_]) H wn rfl rfl rfl ?_;clear H;intro b1 a w hb1 H;refine kH H (Ra rfl (Kz K1 (SR fun _ K2=>?_)));clear H K1;intro a H;refine s_alloc ty3run H wn rfl ?_;clear H;intro b3 a w hb3 H;refine s_store ty3run 0 (vs:=[_]) _ H wn rfl rfl rfl rfl rfl rfl rfl rfl ?_;clear H;intro w H;dsimp only [List.set,setRow] at H;refine K2 _ _ ?_;clear K2;refine c_seq (fun _ K3=>?_);refine c_seqR (fun _ K4=>?_);refine s_loada ty38pq (cs:=[_,_,_,_,_,_,_,_,_,_,_]) H wn rfl rfl (H.hp.ocells 1 rfl rfl) rfl ?_;clear H;intro a H;refine s_call en46dq H wn rfl (of_spec _ _ H.hp.ro D l hv hz) rfl ?_;clear H;rintro v9 G9 a w ⟨ba,bl,bp,rfl,hit⟩ hm9 H;refine K4 _ _ ?_;clear K4;refine c_block ?_;skip;refine c_rangeJ (ι:=Unit) (κ:=Empty) (Lc:=[(_,_)]) (fun (k:Nat) (gh:Unit)=>[(b3,.cells #[vi (unS ((flowsD l).take k))] 3 (0,0))]) (fun (k:Nat) (gh:Unit)=>[]) (fun (k:Nat) (gh:Unit) (g:GH)=>True) (fun x=>x.elim) (fun x=>x.elim) (fun x=>x.elim) (fun x=>x.elim) (()) (by exact H.pickT (Pl:=[_,_]) (Pl':=[_,_]) [1,0] (by decide) rfl) rfl en104doc (hit) (fun _ _ h=>h) rfl (fun k args g h=>by obtain ⟨_,_,_,_,rfl,_⟩:=fl_at h;rfl) (fun _ _ _ _ _ h=>h) (fun x=>x.elim) (trivial) ?_ ?_ ?_
 ·clear H;intro l3 rdy bsy bk k args gh G3 w3 F3 B3 a hk3 hm3 hI hbeg3 hnext3 hstop3 H;obtain ⟨hk,vA,vn,vc,rfl,hfr⟩:=fl_at hk3;dsimp only [asg,List.cons_append,List.nil_append] at H;refine c_region ?_;refine s_alloc ty112dq H wn rfl ?_;clear H;intro b5 a w hb5 H;refine s_store ty112dq 0 (vs:=[_,_,_,_]) _ H wn rfl rfl rfl rfl rfl rfl rfl rfl ?_;clear H;intro w H;dsimp only [List.set,setRow] at H;refine wl_nil ?_;refine hbeg3 _ _ _ _ _ _ (by exact H.pickT (Pl:=[_,_,_,_]) (Pl':=[_,_,_,_]) [1,0,2,3] (by decide) rfl) ?_;clear H;intro w H;refine kP H (SB (SR fun _ K5=>Rf fd112_0dq rfl (Ro ty22run 1 rfl rfl ?_)));clear H;intro a H;refine s_call en32pos H wn rfl (len_spec _ _ H.hp.ro (flowsD l)[k].items _ hfr (Nat.le_trans (flowsD_sz (List.getElem_mem hk)) hz)) rfl ?_;clear H;rintro v15 _ a w ⟨rfl,rfl⟩ - H;refine kH H (Rm rfl ?_);clear H;intro a H;(iterate 2 refine s_extract H wn rfl rfl rfl ?_;clear H;intro a H);refine kH H (Ra rfl (Ra rfl (Kz K5 ?_)));clear H K5;intro a H;have hb20:=hm (k+1) hk;rw [unS_snoc hk] at hb20;refine kP H (SC (Ro ty3run 3 rfl rfl (Rm rfl (Rd rfl ?_))));clear H;intro a H;rw [← unS_snoc hk] at H;refine s_store ty3run 3 (vs:=[_]) _ H wn rfl rfl rfl rfl rfl rfl rfl rfl ?_;clear H;intro w H;dsimp only [List.set,setRow] at H;refine wl_nil ?_;refine hnext3 (()) _ _ _ _ _ (by exact H.pickT (Pl:=[_,_,_,_]) (Pl':=[_,_,_]) [0,2,3] (by decide) rfl) ?_
  trivial
 ·clear H;intro Dk3 gh Gd3 a w hm3 hI H;dsimp only [List.cons_append,List.nil_append,List.append_nil] at H;refine K3 _ _ ?_;clear K3;refine c_seq (fun _ K6=>?_);rw [List.take_of_length_le (by simp)] at H;refine kP H (SC (Ro ty3run 2 rfl rfl (Ra rfl (Kn K6 ?_))));clear H K6;intro a H;refine c_ret ?_;refine (leaveM H 0 rfl ?_).1;clear H;intro a w H;dsimp only [List.eraseIdx_cons_succ,List.eraseIdx_cons_zero] at H;refine lv H Tryz.results27 rfl ?_;exact H.hp.ret rfl
 intro Dk x;exact x.elim
mutual
theorem wItem_n (note:Bool) (t:Int):∀ x:ItemD,(wItem note t x).length < szR x.dat
 | .mk k c i tx h f r=>by
  have h4:=zItem_eq (.mk k c i tx h f r);have hf:=wItems_n true t f;have hr:=wRows_n note t r;dsimp only [ItemD.text,ItemD.head,ItemD.flow,ItemD.rows] at h4;rw [wItem]
  split
  ·rw [List.length_cons];omega
  split <;> first|omega|(simp only [List.length_nil];omega)
theorem wItems_n (note:Bool) (t:Int):∀ l:List ItemD,(wItems note t l).length≤zItems l
 | []=>by simp [wItems]
 | x :: l=>by
  have h1:=wItem_n note t x;have h2:=wItems_n note t l;rw [wItems,List.length_append]
  simp only [zItems,List.map_cons,szRs] at *;omega
theorem wRow_n (note:Bool) (t:Int):∀ x:RowD,(wRow note t x).length≤szR x.dat
 | .mk h cs=>by
  have h4:=zRow_eq (.mk h cs);have hc:=wCells_n note t cs;dsimp only [RowD.head,RowD.cells] at h4;rw [wRow];omega
theorem wRows_n (note:Bool) (t:Int):∀ l:List RowD,(wRows note t l).length≤zRows l
 | []=>by simp [wRows]
 | x :: l=>by
  have h1:=wRow_n note t x;have h2:=wRows_n note t l;rw [wRows,List.length_append]
  simp only [zRows,List.map_cons,szRs] at *;omega
theorem wCell_n (note:Bool) (t:Int):∀ x:CellD,(wCell note t x).length≤szR x.dat
 | .mk i h f=>by
  have h4:=zCell_eq (.mk i h f);have hf:=wItems_n note (t+1) f;dsimp only [CellD.head,CellD.flow] at h4;rw [wCell,List.length_cons];omega
theorem wCells_n (note:Bool) (t:Int):∀ l:List CellD,(wCells note t l).length≤zCells l
 | []=>by simp [wCells]
 | x :: l=>by
  have h1:=wCell_n note t x;have h2:=wCells_n note t l;rw [wCells,List.length_append]
  simp only [zCells,List.map_cons,szRs] at *;omega
end
theorem docFlows_spec (G:GH) (w0:World) (hG:Hold G w0) (D:DocV) (l:List ItemD) (hv:RepV G (.sl 11 (l.map ItemD.dat)) (sl3 D.f)) (hz:zItems l≤4294967296) :
  Calls Tryz.prog 28 #[D.val] w0 (Ret w0 G fun u G'=>RepV G' (.sl 1 ((flowsD l).map fun f:FlowD=>[li f.id])) u):=by
 have hml:4294967299≤maxLen:=by decide
 have hn:(flowsD l).length≤4294967297:=by
  have:=wItems_n false 0 l;rw [flowsD,List.length_cons];omega
 refine eN [(0,_)] Tryz.func28 rfl Tryz.ntmps28 rfl rfl hG ?_;intro a H;refine c_seqR (fun _ K1=>?_);refine s_box (cs:=[_,_,_,_,_,_,_,_,_,_,_]) H wn rfl rfl rfl ?_;clear H;intro b1 a w hb1 H;refine kH H (Ra rfl (Kz K1 (SR fun _ K2=>?_)));clear H K1;intro a H;refine s_alloc ty70frs H wn rfl ?_;clear H;intro b3 a w hb3 H;refine K2 _ _ ?_;clear K2;refine c_seq (fun _ K3=>?_);refine c_seq (fun _ K4=>?_);have H:=H.pickT (Pl:=[_,_]) (Pl':=[_,_]) [1,0] (by decide) rfl;refine c_region ?_;refine s_loada ty38pq (cs:=[_,_,_,_,_,_,_,_,_,_,_]) H wn rfl rfl (H.hp.ocells 0 rfl rfl) rfl ?_;clear H;intro a H;refine s_call en46dq H wn rfl (of_spec _ _ H.hp.ro D l hv hz) rfl ?_;clear H;rintro v6 G6 a w ⟨ba,bl,bp,rfl,hit⟩ hm6 H;refine wl_nil ?_;refine K4 _ _ ?_;clear K4;refine c_block ?_;skip;refine c_rangeJ (ι:=Value × List Value × OL) (κ:=Empty) (Lc:=[(_,_)]) (fun (k:Nat) (gh:Value × List Value × OL)=>[(b3,.cells #[gh.1] 70 (0,0))]) (fun (k:Nat) (gh:Value × List Value × OL)=>gh.2.2) (fun (k:Nat) (gh:Value × List Value × OL) (g:GH)=>IsRow 3 1 gh.1 k gh.2.1 gh.2.2∧RepCat g 1 (((flowsD l).take k).map fun f:FlowD=>[li f.id]) gh.2.1) (fun x=>x.elim) (fun x=>x.elim) (fun x=>x.elim) (fun x=>x.elim) ((.slice none 0 0,[],[])) (by exact H.nilT (A:=[_,_])) rfl en104doc (hit) (fun _ _ h=>h) rfl (fun k args g h=>by obtain ⟨_,_,_,_,rfl,_⟩:=fl_at h;rfl) (fun k i G G' hm h=>⟨h.1,h.2.mono hm⟩) (fun x=>x.elim) (⟨IsRow.nil,RepCat.nil⟩) ?_ ?_ ?_
 ·clear H;intro l3 rdy bsy bk k args gh G3 w3 F3 B3 a hk3 hm3 hI hbeg3 hnext3 hstop3 H;obtain ⟨v,xs,Lo⟩:=gh;dsimp only at hI H;obtain ⟨hk,vA,vn,vc,rfl,hfr⟩:=fl_at hk3;dsimp only [asg,List.cons_append,List.nil_append] at H;obtain ⟨hrw,hcat⟩:=hI;refine kP H (SC (Ra rfl ?_));clear H;intro a H;refine wl_nil ?_;refine hbeg3 _ _ _ _ _ _ (by exact H) ?_;clear H;intro w H;refine kP H (SB (SC (Ro ty70frs 2 rfl rfl (Rm rfl ?_))));clear H;intro a H;refine s_buildSlice un70prq ty3run [_] [_] H wn rfl rfl rfl rfl rfl (by intro i q h;match i,h with|0,h=>exact h|n+1,h=>simp at h) rfl rfl ?_;clear H;intro b11 a w hb11 H;refine s_append (Li:=[_,_,_,_]++bk) (Lo:=Lo) (news:=[vi (flowsD l)[k].id]) un70prq ty3run rfl rfl (St.un (A:=[_,_,_,_]) H) wn rfl rfl hrw rfl (H.hp.ocells 0 rfl rfl) rfl (by omega) (by omega) rfl ?_;clear H;intro v12 Lo12 a w hrw12 H;obtain ⟨A12,c12,rfl,-,-⟩:=hrw12.shape
  simp only [List.append_assoc,List.cons_append,List.nil_append] at H
  refine s_store ty70frs 3 (vs:=[_]) _ H wn rfl rfl rfl rfl rfl rfl rfl rfl ?_;clear H;intro w H;dsimp only [List.set,setRow] at H;refine wl_nil ?_;refine hnext3 ((.slice A12 (k+1) c12,xs++[vi (flowsD l)[k].id],Lo12)) _ _ _ _ _ (by exact H.pickT (Pl:=[_,_,_,_]) (Pl':=[_,_,_]) [1,2,3] (by decide) rfl) ?_;exact ⟨hrw12,by rw [List.take_succ_eq_append_getElem hk,List.map_append];exact hcat.snoc (intRow1 _ _) rfl⟩
 ·clear H;intro Dk3 gh Gd3 a w hm3 hI H;obtain ⟨v,xs,Lo⟩:=gh;dsimp only at hI H;dsimp only [List.cons_append,List.nil_append,List.append_nil] at H;obtain ⟨hrw,hcat⟩:=hI;rw [List.length_map] at hrw hcat;rw [List.take_length] at hcat;refine K3 _ _ ?_;clear K3;refine kP H (SR fun _ K5=>Ro ty70frs 2 rfl rfl (Ra rfl (Kz K5 ?_)));clear H K5;intro a H;refine c_ret ?_;refine (leaveM H 0 rfl ?_).1;clear H;intro a w H;dsimp only [List.eraseIdx_cons_succ,List.eraseIdx_cons_zero] at H;refine lv H Tryz.results28 rfl ?_;obtain ⟨Gr,hmr,hrep,H⟩:=St.giveRow (Li:=[_,_]) H hrw (rows:=(flowsD l).map fun f:FlowD=>[li f.id]) (by simp) hcat;exact H.hp.ret hrep
 intro Dk x;exact x.elim
end
section
open Go.RowKit
theorem en26ml15:∀ args w,(callFunc 26 args).run Tryz.prog w=.ok (.enter 26 args) w:=enters Tryz.func26 rfl (by kernel_rfl)
theorem en27ml15:∀ args w,(callFunc 27 args).run Tryz.prog w=.ok (.enter 27 args) w:=enters Tryz.func27 rfl (by kernel_rfl)
theorem en28ml15:∀ args w,(callFunc 28 args).run Tryz.prog w=.ok (.enter 28 args) w:=enters Tryz.func28 rfl (by kernel_rfl)
theorem all15_spec (G:GH) (w0:World) (hG:Hold G w0) (D:DocV) (l:List ItemD) (hv:RepV G (.sl 11 (l.map ItemD.dat)) (sl3 D.f)) (hz:zItems l≤1073741824) (hok:OkL l) :
  Calls Tryz.prog 10 #[D.val] w0 (Ret w0 G fun u G'=>RepV G' (.sl 2 ((vItems 0 0 l).map posD)) u):=by
 refine eN [(0,_)] Tryz.func10 rfl Tryz.ntmps10 rfl rfl hG ?_;intro a H;refine c_seqR (fun _ K1=>?_);refine s_box (cs:=[_,_,_,_,_,_,_,_,_,_,_]) H wn rfl rfl rfl ?_;clear H;intro b1 a w hb1 H;refine kH H (Ra rfl (Kz K1 (SR fun _ K2=>Rf fd38_0pq rfl (Ro ty22run 0 rfl rfl ?_))));clear H K1;intro a H;refine s_callL en29mp15 (Li:=[_]) (L:=[]) H wn rfl (mpos_ok 4294967297 (by omega) _ [] _ (.slice none 0 0) [] 0 l _ IsRow.nil (Hp.owns (Li:=[_]) H.hp) hv hok (by omega) (by simp only [List.length_nil];omega)) rfl ?_;clear H;rintro v5 G5 L5 a w hr5 hm5 H;dsimp only [List.nil_append,List.cons_append] at H;refine kH H (Ra rfl (Kz K2 ?_));clear H K2;intro a H;refine lr H Tryz.results10 rfl ?_;obtain ⟨Gr,hmr,hrep,H⟩:=St.giveRow (Li:=[_]) H hr5 (rows:=(vItems 0 0 l).map posD) (by simp) (ps_cat _ _);exact H.hp.ret hrep
theorem pos_at {G:GH} {A:List (Int × Int)} {B:Option Addr} {n c k:Nat} (hv:RepV G (.sl 2 (A.map posD)) (.slice B n c)) (hk:k < A.length):∃ b o,B=some ⟨b,o,none⟩∧∀ j u,[vi A[k].1,vi A[k].2][j]?=some u→gcell G b (o+k*2+j)=some u:=by
 obtain ⟨b,o,cs,h1,h2,h3,h4⟩:=hv.at_ k (posD A[k]) (by simp [hk]);obtain rfl:=posD_row h4;exact ⟨b,o,h1,h3⟩
/-- Where a position stands in a list, or -1. -/
def fnd (A:List (Int × Int)) (f t:Int):Int:=match A.findIdx? (fun q=>q.1 == f && q.2 == t) with|some i=>i|none=>-1
theorem find15_spec (G:GH) (w0:World) (hG:Hold G w0) (A:List (Int × Int)) (v:Value) (f t:Int) (hv:RepV G (.sl 2 (A.map posD)) v) (hl:A.length≤4294967297) :
  Calls Tryz.prog 23 #[v,.agg #[vi f,vi t]] w0 (Ret w0 G fun u G'=>u=vi (fnd A f t)):=by
 obtain ⟨B,c,rfl,hc1,hc2,-⟩:=hv.slice;rw [List.length_map] at *;refine eN [(0,_),(1,_)] Tryz.func23 rfl Tryz.ntmps23 rfl rfl hG ?_;intro a H;refine c_seqR (fun _ K1=>?_);refine s_box (cs:=[_,_]) H wn rfl rfl rfl ?_;clear H;intro b3 a w hb3 H;refine kH H (Ra rfl (Kz K1 (SQ fun _ K2=>SR fun _ K3=>Ra rfl (Kz K3 (SB ?_)))));clear H K1 K3;intro a H;skip;refine c_loopS (ι:=Nat × GH) (Tc:=[(0,_),(3,_)]) (Lc:=[(_,_)]) (fun (gh:Nat × GH)=>[(5,vi gh.1)]) (fun (gh:Nat × GH)=>[]) (fun (gh:Nat × GH)=>gh.2) (fun (gh:Nat × GH)=>gh.1≤A.length∧(A.take gh.1).findIdx? (fun q=>q.1 == f && q.2 == t)=none∧(∀ b o,G b=some o→gh.2 b=some o)) (fun (gh:Nat × GH)=>A.length - gh.1) ((0,G)) (by exact (H).sub ⟨rfl,rfl,rfl,trivial⟩) ?_ ?_
 ·exact ⟨Nat.zero_le _,rfl,fun _ _ h=>h⟩
 clear H;intro gh a w hI H;obtain ⟨k,g⟩:=gh;dsimp only at hI H;obtain ⟨hk,hno,hgm⟩:=hI;dsimp only [List.cons_append,List.nil_append,List.append_nil] at H;refine kP H (SQ fun _ K4=>SR fun _ K5=>Rm rfl (Rm rfl (Rl un41pth rfl (Rc rfl (Kz K5 ?_)))));clear H K5;intro a H;refine c_cond H rfl ?_ ?_
 ·intro h9
  try have p9:=dT h9
  have hk2:k < A.length:=by omega
  obtain ⟨b,o,rfl,hrow⟩:=pos_at hv hk2;replace hrow:=fun j u hj=>gcell_mono hgm (hrow j u hj);refine kP H (Kc K4 (SQ fun _ K6=>SB (SQ fun _ K7=>?_)));clear H K4;intro a H;refine c_drawI (hmx) [[],[],[0,1],[0,1,2],[],[0,1,2,3,4]] [] (by kernel_rfl) (by kernel_rfl) (fun (ix_:Nat) (v:Value) (G:GH)=>match ix_ with|0=>v=.slice (some ⟨b,o,none⟩) A.length c|1=>v=vi k|2=>v=.pointer (some ⟨b,o+k*2,none⟩)|3=>v=.agg #[vi A[k].1,vi A[k].2]|4=>v=.agg #[vi f,vi t]|5=>v=.bool (A[k].1 == f && A[k].2 == t)|_=>True) (fun _ _ _ _ _ h=>h) H ?_ ?_
  ·clear H;refine al4 ?_ ?_ ?_ ?_ (allI_cons ?_ (allI_cons ?_ allI_nil))
   ·exact Z0 rfl rfl fun _ _ _ _ _=>Rm rfl
   ·exact Z0 rfl rfl fun _ _ _ _ _=>Rm rfl
   ·exact Z2 0 12 1 13 rfl rfl fun _ _ _ _ _=>Ri un41pth ty45pq rfl rfl
   ·refine Op1 2 14 rfl rfl fun _ a w G1 hG HT H fin=>?_;refine s_loada ty45pq (cs:=[vi A[k].1,vi A[k].2]) H wn rfl rfl (fun j v hj=>H.hp.gcell (gcell_mono hG (hrow j v hj))) rfl ?_;clear H;intro a H;exact fin H iJ rfl
   ·refine Op0 rfl fun _ a w G1 hG HT H fin=>?_;refine s_loada ty45pq (cs:=[_,_]) H wn rfl rfl (H.hp.ocells 0 rfl rfl) rfl ?_;clear H;intro a H;exact fin H iJ rfl
   refine Op2 3 15 4 16 rfl rfl fun _ a w G1 hG HT H fin=>?_;refine s_eqagg eqi45idx H wn rfl rfl rfl rfl ?_;clear H;intro a H;exact fin H iJ (congrArg Value.bool (by simp [getI]))
  clear H;intro a w G hGm4 H hv;obtain ⟨u17,hu17,hp17⟩:=hv 5 17 (by decide) rfl;obtain rfl:u17=.bool (A[k].1 == f && A[k].2 == t):=hp17;have H:=H.addS hu17;clear hv;refine wl_nil ⟨rfl,?_⟩;refine K7 _ _ ?_;clear K7;refine c_cond H rfl ?_ ?_
  ·intro h17
   try have p17:=dT h17
   refine kP H (SR fun _ K8=>Rm rfl (Ra rfl (Kz K8 ?_)));clear H K8;intro a H;refine lr H Tryz.results23 rfl ?_;exact H.hp.ret (by unfold fnd;rw [idx_stop hk2 hno (by simpa using h17)])
  intro h17
  try have p17:=dF h17
  refine kP H (Kc K6 (SC (Rm rfl (Rd rfl (Ra rfl ?_)))));clear H K6;intro a H;refine wl_nil ?_;refine loop_end ((k+1,_)) (by exact (H).sub ⟨rfl,rfl,rfl,trivial⟩) ?_ ?_
  ·(try dsimp only);exact ⟨by omega,idx_next hk2 hno (by simpa using h17),fun b o h=>hGm4 b o (hgm b o h)⟩
  first|omega|(dsimp only;omega)
 intro h9
 try have p9:=dF h9
 refine c_exit ?_;refine K2 _ _ ?_;clear K2;refine kP H (SR fun _ K9=>Ra rfl (Kz K9 ?_));clear H K9;intro a H;refine lr H Tryz.results23 rfl ?_;exact H.hp.ret (by unfold fnd;rw [show A.take k=A from List.take_of_length_le (by omega)] at hno;rw [hno])
theorem mchk15_spec (G:GH) (w0:World) (hG:Hold G w0) (D:DocV) (l:List ItemD) (f t:Int) (hv:RepV G (.sl 11 (l.map ItemD.dat)) (sl3 D.f)) (hz:zItems l≤4294967296) :
  Calls Tryz.prog 15 #[D.val,.agg #[vi f,vi t]] w0 (Ret w0 G fun u G'=>u=vi (chkR l f t t)):=by
 have hsz:zItems ((flowOf l f).getD [])≤zItems l:=by
  cases h:flowOf l f with
  | none=>exact Nat.zero_le _
  | some f=>exact flowOf_sz h
 refine eN [(0,_),(1,_)] Tryz.func15 rfl Tryz.ntmps15 rfl rfl hG ?_;intro a H;refine c_seqR (fun _ K1=>?_);refine s_box (cs:=[_,_,_,_,_,_,_,_,_,_,_]) H wn rfl rfl rfl ?_;clear H;intro b2 a w hb2 H;refine s_box (cs:=[_,_]) H wn rfl rfl rfl ?_;clear H;intro b3 a w hb3 H;refine kH H (Ra rfl (Kz K1 (SR fun _ K2=>?_)));clear H K1;intro a H;refine s_loada ty38pq (cs:=[_,_,_,_,_,_,_,_,_,_,_]) H wn rfl rfl (H.hp.ocells 1 rfl rfl) rfl ?_;clear H;intro a H;refine kH H (Rf fd45_0dq rfl (Ro ty3run 0 rfl rfl ?_));clear H;intro a H;refine s_call en31dq H wn rfl (flow_spec _ _ H.hp.ro D l f hv hz) rfl ?_;clear H;rintro v13 G13 a w ⟨v,rfl,hr⟩ hm13 H;refine kH H (Rm rfl ?_);clear H;intro a H;(iterate 2 refine s_extract H wn rfl rfl rfl ?_;clear H;intro a H);refine kH H (Ra rfl (Ra rfl (Kz K2 (SR fun _ K3=>Rm rfl ?_))));clear H K2;intro a H;refine s_call en32pos H wn rfl (len_spec _ _ H.hp.ro _ _ hr (by omega)) rfl ?_;clear H;rintro v18 G18 a w ⟨rfl,rfl⟩ hm18 H;refine kH H (Rm rfl ?_);clear H;intro a H;(iterate 2 refine s_extract H wn rfl rfl rfl ?_;clear H;intro a H);refine kH H (Ra rfl (Ra rfl (Kz K3 (SQ fun _ K4=>SB (SR fun _ K5=>Rm rfl (Rn rfl (Ra rfl (Kz K5 ?_))))))));clear H K3 K5;intro a H;refine c_cond H rfl ?_ ?_
 ·intro h21
  try have p21:=dT h21
  refine kP H (SR fun _ K6=>Ra rfl (Kz K6 ?_));clear H K6;intro a H;refine lr H Tryz.results15 rfl ?_
  exact H.hp.ret (congrArg vi (by unfold chkR;(repeat' split) <;> first|rfl|(exfalso;simp_all;done)|(exfalso;simp_all;omega)))
 intro h21
 try have p21:=dF h21
 refine kP H (SR fun _ K7=>Rf fd45_1dq rfl (Ro ty3run 0 rfl rfl (Rc rfl (Rm rfl ?_))));clear H;intro a H;refine s_split H 28 rfl ?_ ?_
 ·intro h28
  try have p28:=dT h28
  refine kH H (Ks h28 rfl (Ks h28 rfl (Ks h28 rfl (Ks h28 rfl (Pt h28 rfl (Ra rfl (Kz K7 ?_)))))));clear H K7;intro a H;refine c_cond_t H rfl rfl ?_;refine kP H (SR fun _ K8=>Ra rfl (Kz K8 ?_));clear H K8;intro a H;refine lr H Tryz.results15 rfl ?_
  exact H.hp.ret (congrArg vi (by unfold chkR;(repeat' split) <;> first|rfl|(exfalso;simp_all;done)|(exfalso;simp_all;omega)))
 intro h28
 try have p28:=dF h28
 refine kH H (YF fd45_1dq h28 rfl (YO ty3run 0 h28 rfl rfl (YM h28 rfl (YC h28 rfl (Pf h28 rfl (Ra rfl (Kz K7 ?_)))))));clear H K7;intro a H;refine c_cond H rfl ?_ ?_
 ·intro h24
  try have p24:=dT h24
  refine kP H (SR fun _ K9=>Ra rfl (Kz K9 ?_));clear H K9;intro a H;refine lr H Tryz.results15 rfl ?_
  exact H.hp.ret (congrArg vi (by unfold chkR;(repeat' split) <;> first|rfl|(exfalso;simp_all;done)|(exfalso;simp_all;omega)))
 intro h24
 try have p24:=dF h24
 refine kP H (Kc K4 (SR fun _ K10=>Ra rfl (Kz K10 ?_)));clear H K4 K10;intro a H;refine lr H Tryz.results15 rfl ?_
 exact H.hp.ret (congrArg vi (by unfold chkR;(repeat' split) <;> first|rfl|(exfalso;simp_all;done)|(exfalso;simp_all;omega)))
theorem unS_le (l:List ItemD) (hz:zItems l≤1073741824) (k:Nat) (hk:k≤(flowsD l).length):0≤unS ((flowsD l).take k)∧unS ((flowsD l).take k)≤4611686018427387904:=by
 have hn:=wItems_n false 0 l
 have hl:(flowsD l).length≤1073741825:=by rw [flowsD,List.length_cons];omega
 have h:∀ k,k≤(flowsD l).length→0≤unS ((flowsD l).take k)∧unS ((flowsD l).take k)≤k*1073741824:=by
  intro k
  induction k with
  | zero=>intro _;exact ⟨by simp [unS],by simp [unS]⟩
  | succ k ih =>
   intro hk;obtain ⟨h1,h2⟩:=ih (by omega);have h3:=flowsD_sz (List.getElem_mem (show k < (flowsD l).length by omega))
   have h4:0≤lenS (flowsD l)[k].items∧lenS (flowsD l)[k].items≤zItems (flowsD l)[k].items:=by
    unfold lenS
    have h5:=sumS_le (flowsD l)[k].items;have h6:=txtS_le (flowsD l)[k].items
    split <;> omega
   rw [unS_snoc (by omega)]
   push_cast
   omega
 obtain ⟨h1,h2⟩:=h k hk;exact ⟨h1,by omega⟩
theorem okDoc_of {d:DocD} (h:chkDoc d=0):OkDoc d.flow:=by
 have h1:=firstE_zero h _ (List.mem_cons_of_mem _ (List.mem_cons_of_mem _ List.mem_cons_self));exact OkDoc.of (cr_zero h1)
theorem small15_spec (G:GH) (w0:World) (hG:Hold G w0) (D:DocV) (d:DocD) (hR:DocR G D d) (hz:DocZ d) :
  Calls Tryz.prog 9 #[D.val] w0 (Ret w0 G fun u G'=>∃ b,u=.bool b∧(b=true→chkDoc d=0)):=by
 have hzf:=hz.fl;have hrl:=hR.rv.len;refine eN [(0,_)] Tryz.func9 rfl Tryz.ntmps9 rfl rfl hG ?_;intro a H;refine c_seqR (fun _ K1=>?_);refine s_box (cs:=[_,_,_,_,_,_,_,_,_,_,_]) H wn rfl rfl rfl ?_;clear H;intro b1 a w hb1 H;refine kH H (Ra rfl (Kz K1 (SR fun _ K2=>Rf fd38_2nck rfl (Ro ty30nck 0 rfl rfl (Rl un30nck rfl (Rc rfl (Rm rfl ?_)))))));clear H K1;intro a H;refine s_split H 7 rfl ?_ ?_
 ·intro h7
  try have p7:=dT h7
  refine s_loada ty38pq (cs:=[_,_,_,_,_,_,_,_,_,_,_]) H (wg H rfl rfl h7) rfl rfl (H.hp.ocells 0 rfl rfl) rfl ?_;clear H;intro a H;refine s_call en26ml15 H (wg H rfl rfl h7) rfl (check_doc _ _ H.hp.ro D d hR hz) rfl ?_;clear H;rintro v9 G9 a w rfl hm9 H;have hfl:=hR.fl.mono hm9;refine kH H (YC h7 rfl (Pt h7 rfl (Rm rfl ?_)));clear H;intro a H;refine s_split H 12 rfl ?_ ?_
  ·intro h12
   try have p12:=dT h12
   refine s_loada ty38pq (cs:=[_,_,_,_,_,_,_,_,_,_,_]) H (wg H rfl rfl h12) rfl rfl (H.hp.ocells 0 rfl rfl) rfl ?_;clear H;intro a H;refine s_call en27ml15 H (wg H rfl rfl h12) rfl (units_doc _ _ H.hp.ro D d.flow hfl (by omega) (unS_le d.flow hzf)) rfl ?_;clear H;rintro v14 G14 a w rfl hm14 H;replace hfl:=hfl.mono hm14;refine kH H (YC h12 rfl (Pt h12 rfl (Rm rfl ?_)));clear H;intro a H;refine s_split H 17 rfl ?_ ?_
   ·intro h17
    try have p17:=dT h17
    refine s_loada ty38pq (cs:=[_,_,_,_,_,_,_,_,_,_,_]) H (wg H rfl rfl h17) rfl rfl (H.hp.ocells 0 rfl rfl) rfl ?_;clear H;intro a H;refine s_call en28ml15 H (wg H rfl rfl h17) rfl (docFlows_spec _ _ H.hp.ro D d.flow hfl (by omega)) rfl ?_;clear H;rintro v19 G19 a w hf19 hm19 H;obtain ⟨A19,n19,c19,rfl⟩:=hf19.form;refine kH H (YL un70prq h17 rfl (YC h17 rfl (Pt h17 rfl (Ra rfl (Kz K2 ?_)))));clear H K2;intro a H;refine lr H Tryz.results9 rfl ?_;exact H.hp.ret ⟨_,rfl,fun h=>by first|assumption|(simp_all;done)⟩
   intro h17
   try have p17:=dF h17
   refine kH H (Ks h17 rfl (Ks h17 rfl (Ks h17 rfl (Ks h17 rfl (Pf h17 rfl (Ra rfl (Kz K2 ?_)))))));clear H K2;intro a H;refine lr H Tryz.results9 rfl ?_;exact H.hp.ret ⟨_,rfl,fun h=>by first|assumption|(simp_all;done)⟩
  intro h12
  try have p12:=dF h12
  refine kH H (Ks h12 rfl (Ks h12 rfl (Ks h12 rfl (Pf h12 rfl (Rm rfl (Ks rfl rfl (Ks rfl rfl (Ks rfl rfl (Ks rfl rfl (Pf rfl rfl (Ra rfl (Kz K2 ?_))))))))))));clear H K2;intro a H;refine lr H Tryz.results9 rfl ?_;exact H.hp.ret ⟨_,rfl,fun h=>by first|assumption|(simp_all;done)⟩
 intro h7
 try have p7:=dF h7
 refine kH H (Ks h7 rfl (Ks h7 rfl (Ks h7 rfl (Pf h7 rfl (Rm rfl (Ks rfl rfl (Ks rfl rfl (Ks rfl rfl (Pf rfl rfl (Rm rfl (Ks rfl rfl (Ks rfl rfl (Ks rfl rfl (Ks rfl rfl ?_))))))))))))));clear H;intro a H;refine kH H (Pf rfl rfl (Ra rfl (Kz K2 ?_)));clear H K2;intro a H;refine lr H Tryz.results9 rfl ?_;exact H.hp.ret ⟨_,rfl,fun h=>by first|assumption|(simp_all;done)⟩
end
section
open Go.RowKit
theorem idx_mem {A:List (Int × Int)} {f t:Int} (h:(f,t)∈A):∃ i,∃ hi:i < A.length,A.findIdx? (fun q=>q.1 == f && q.2 == t)=some i∧A[i]=(f,t):=by
 cases e:A.findIdx? (fun q=>q.1 == f && q.2 == t) with
 | none =>
  rw [List.findIdx?_eq_none_iff] at e;have:=e _ h
  simp at this
 | some i =>
  rw [List.findIdx?_eq_some_iff_getElem] at e;obtain ⟨hi,h1,-⟩:=e
  simp only [Bool.and_eq_true,beq_iff_eq] at h1
  exact ⟨i,hi,rfl,Prod.ext h1.1 h1.2⟩
theorem of_in {l:List ItemD} {i:Nat} (hi:i < (vItems 0 0 l).length):ofS l i=((vItems 0 0 l)[i],0):=by
 unfold ofS
 rw [if_pos (by omega),Int.toNat_natCast,List.getElem?_eq_getElem hi]
theorem of_out {l:List ItemD} {i:Int} (hi:i < 0∨((vItems 0 0 l).length:Int)≤i):ofS l i=((0,0),2):=by
 unfold ofS
 split
 ·rw [List.getElem?_eq_none_iff.2 (by omega)]
 rfl
theorem ix_ok {l:List ItemD} (h:OkDoc l) {f t:Int} (hc:chkR l f t t=0):∃ i,∃ hi:i < (vItems 0 0 l).length,(vItems 0 0 l).findIdx? (fun q=>q.1 == f && q.2 == t)=some i∧(vItems 0 0 l)[i]=(f,t)∧ixS l f t=((i:Int),0):=by
 obtain ⟨i,hi,h1,h2⟩:=idx_mem ((chk_mem h f t).1 hc);exact ⟨i,hi,h1,h2,by rw [ixS,if_pos hc,h1]⟩
theorem ix_err {l:List ItemD} {f t:Int} (hc:chkR l f t t≠0):ixS l f t=(0,chkR l f t t):=by rw [ixS,if_neg hc]
end
section
open Go.RowKit
theorem sr85kt:Srt Tryz.prog 85 [(0,1),(1,1),(2,1),(3,1),(4,5),(9,1),(10,1)] [.int .i64 0,.int .i64 0,.int .i64 0,.string ⟨#[]⟩,.slice none 0 0,.int .i64 0,.int .i64 0,.slice none 0 0,.slice none 0 0,.slice none 0 0,.slice none 0 0]:=⟨by kernel_rfl,by kernel_rfl⟩
theorem sr38kt:Srt Tryz.prog 38 [(0,1),(1,5),(6,1),(7,4)] [.slice none 0 0,.slice none 0 0,.int .i64 0,.int .i64 0,.slice none 0 0,.slice none 0 0,.slice none 0 0,.slice none 0 0,.slice none 0 0,.slice none 0 0,.slice none 0 0]:=⟨by kernel_rfl,by kernel_rfl⟩
theorem txt_ab:validS ⟨#[97,98]⟩=true∧cntFrom ⟨#[97,98]⟩ 0=2:=by
 have d0:decS ⟨#[97,98]⟩ 0=(97,1,true):=by decide
 have d1:decS ⟨#[97,98]⟩ 1=(98,1,true):=by decide
 have e2:firstS ⟨#[97,98]⟩ 2=-1:=by rw [firstS,dif_neg (by decide)]
 have e1:firstS ⟨#[97,98]⟩ 1=-1:=by rw [firstS,dif_pos (by decide),dif_pos (by rw [d1]),d1];exact e2
 have e0:firstS ⟨#[97,98]⟩ 0=-1:=by rw [firstS,dif_pos (by decide),dif_pos (by rw [d0]),d0];exact e1
 have c2:cntFrom ⟨#[97,98]⟩ 2=0:=by rw [cntFrom,if_neg (by decide)]
 have c1:cntFrom ⟨#[97,98]⟩ 1=1:=by rw [cntFrom,if_pos (by decide),c2];decide
 have c0:cntFrom ⟨#[97,98]⟩ 0=2:=by rw [cntFrom,if_pos (by decide),c1];decide
 exact ⟨by unfold validS;rw [e0];decide,c0⟩
theorem txt_x:validS ⟨#[120]⟩=true∧cntFrom ⟨#[120]⟩ 0=1:=by
 have d0:decS ⟨#[120]⟩ 0=(120,1,true):=by decide
 have e1:firstS ⟨#[120]⟩ 1=-1:=by rw [firstS,dif_neg (by decide)]
 have e0:firstS ⟨#[120]⟩ 0=-1:=by rw [firstS,dif_pos (by decide),dif_pos (by rw [d0]),d0];exact e1
 have c1:cntFrom ⟨#[120]⟩ 1=0:=by rw [cntFrom,if_neg (by decide)]
 have c0:cntFrom ⟨#[120]⟩ 0=1:=by rw [cntFrom,if_pos (by decide),c1];decide
 exact ⟨by unfold validS;rw [e0];decide,c0⟩
abbrev hd0:HeadD:=⟨[],⟨0,0,[],[]⟩⟩
def exA:ItemD:=.mk 1 0 0 ⟨#[97,98]⟩ hd0 [] []
def exX:ItemD:=.mk 1 0 0 ⟨#[120]⟩ hd0 [] []
def exN:ItemD:=.mk 6 1 4 ⟨#[]⟩ hd0 [exX] []
def exP:ItemD:=.mk 2 0 0 ⟨#[]⟩ hd0 [] []
def exL:List ItemD:=[exA,exN,exP]
theorem uA:unitsS exA=2∧unitsE exA=0:=by simp [unitsS,unitsE,exA,ItemD.kind,ItemD.text,cntS,utfS,txt_ab.1,txt_ab.2]
theorem uX:unitsS exX=1∧unitsE exX=0:=by simp [unitsS,unitsE,exX,ItemD.kind,ItemD.text,cntS,utfS,txt_x.1,txt_x.2]
theorem uN:unitsS exN=1∧unitsE exN=0:=by simp [unitsS,unitsE,exN,ItemD.kind]
theorem uP:unitsS exP=1∧unitsE exP=0:=by simp [unitsS,unitsE,exP,ItemD.kind]
theorem nA:n1 exA=2:=by simp [n1,uA.1,uA.2]
theorem nX:n1 exX=1:=by simp [n1,uX.1,uX.2]
theorem nN:n1 exN=1:=by simp [n1,uN.1,uN.2]
theorem nP:n1 exP=1:=by simp [n1,uP.1,uP.2]
theorem exV:vItems 0 0 exL=[(0,0),(0,1),(0,2),(4,0),(4,1),(0,3),(0,4)]:=by
 have hX:vItems 4 0 [exX]=[(4,0),(4,1)]:=by
  simp only [vItems,vItem_eq,nX];simp [exX,ItemD.kind,ItemD.rows,vRows,List.range,List.range.loop]
 simp only [exL,vItems,vItem_eq,nA,nN,nP]
 simp [exA,exN,exP,ItemD.kind,ItemD.rows,ItemD.id,ItemD.flow,vRows,List.range,List.range.loop,hX]
theorem exF:flowsD exL=[⟨0,exL,true,false,0⟩,⟨4,[exX],false,true,0⟩]:=by
 simp [flowsD,exL,wItems,wItem_eq,exA,exN,exP,exX,ItemD.kind,ItemD.id,ItemD.flow]
theorem exF4:flowOf exL 4=some [exX]:=by simp [flowOf,exF]
theorem lenX:lenS [exX]=1:=by rw [lenS_one,nX];rfl
theorem exC:chkR exL 4 1 1=0:=by simp [chkR,exF4,lenX]
theorem exIx:ixS exL 4 1=(4,0):=by simp [ixS,exC,exV,List.findIdx?,List.findIdx?.go]
theorem exOf:ofS exL 5=((0,3),0):=by simp [ofS,exV]
theorem exPl:pItems 0 0 exL=[((0,2),exN)]:=by
 have hX:pItems 4 0 [exX]=[]:=by simp [pItems,pItem_eq,exX,ItemD.kind]
 have a1:adv exA=2:=by simp [adv,exA,ItemD.kind,ItemD.text,cntS,txt_ab.1,txt_ab.2]
 simp [exL,pItems,pItem_eq,a1]
 simp [exA,exN,exP,ItemD.kind,innerC,pCells,pCell_eq,CellD.id,CellD.flow,ItemD.id,ItemD.flow,hX]
theorem exPs:placeS exL 4=some (0,2):=by simp [placeS,exPl,isAt,exN,ItemD.id]
theorem exPth:pathN exL 2 4=some (some [(0,2)]):=by simp [pathN,exPs]
theorem exLi:liftS exL 4 1 0 [(0,2)]=some 2:=by simp [liftS,exC]
theorem exN7:posN exL=7:=by simp [posN,exV]
theorem exZ:zItems exL≤4294967296:=by
 have h1:=zItem_eq exA;have h2:=zItem_eq exN;have h3:=zItem_eq exP;have h4:=zItem_eq exX
 have h0:zHead hd0=5:=by simp [zHead_eq,szRs]
 have s1:exA.text.size=2:=rfl;have s2:exN.text.size=0:=rfl;have s3:exP.text.size=0:=rfl;have s4:exX.text.size=1:=rfl;have g1:exA.head=hd0:=rfl;have g2:exN.head=hd0:=rfl;have g3:exP.head=hd0:=rfl;have g4:exX.head=hd0:=rfl;have f1:zItems exA.flow=0:=rfl;have f2:zItems exN.flow=1+szR exX.dat:=rfl;have f3:zItems exP.flow=0:=rfl;have f4:zItems exX.flow=0:=rfl;have r1:zRows exA.rows=0:=rfl;have r2:zRows exN.rows=0:=rfl;have r3:zRows exP.rows=0:=rfl;have r4:zRows exX.rows=0:=rfl
 simp only [zItems,exL,List.map_cons,List.map_nil,szRs]
 rw [g1,h0] at h1;rw [g2,h0] at h2;rw [g3,h0] at h3;rw [g4,h0] at h4
 omega
theorem hd0_rep {G:GH}:HeadR G hd0 (.slice none 0 0) (.slice none 0 0) (.slice none 0 0):=⟨RepV.nil_ rfl (by decide),RepV.nil_ rfl (by decide),RepV.nil_ rfl (by decide)⟩
theorem example_spec (G:GH) (w0:World) (hG:Hold G w0) :
  Calls Tryz.prog 25 #[] w0 (Ret w0 G fun u G'=>∃ D:DocV,u=D.val∧RepV G' (.sl 11 (exL.map ItemD.dat)) (sl3 D.f)):=by
 refine eN [] Tryz.func25 rfl Tryz.ntmps25 rfl rfl hG ?_;intro a H;refine c_seqR (fun _ K1=>?_);refine s_alloc ty38pq H wn rfl ?_;clear H;intro b0 a w hb0 H;refine K1 _ _ ?_;clear K1;refine c_seqR (fun _ K2=>?_);refine s_build sr85kt [_,_,_,_,_,_,_,_,_,_,_] H wn rfl rfl rfl rfl ?_;clear H;intro a H;refine s_buildSlice un22run ty85run [_,_,_,_,_,_,_,_,_,_,_] [_,_,_,_,_,_,_,_,_,_,_] H wn rfl rfl rfl rfl rfl (by intro i q h;match i,h with|0,h=>exact h|n+1,h=>simp at h) rfl rfl ?_;clear H;intro b3 a w hb3 H;refine s_build sr85kt [_,_,_,_,_,_,_,_,_,_,_] H wn rfl rfl rfl rfl ?_;clear H;intro a H;refine s_alloc ty85run H wn rfl ?_;clear H;intro b1 a w hb1 H;refine s_store ty85run 0 (vs:=[_,_,_,_,_,_,_,_,_,_,_]) _ H wn rfl rfl rfl rfl rfl rfl rfl rfl ?_;clear H;intro w H;dsimp only [List.set,setRow] at H;refine K2 _ _ ?_;clear K2;refine c_seqR (fun _ K3=>?_);refine s_build sr85kt [_,_,_,_,_,_,_,_,_,_,_] H wn rfl rfl rfl rfl ?_;clear H;intro a H;refine s_loada ty85run (cs:=[_,_,_,_,_,_,_,_,_,_,_]) H wn rfl rfl (H.hp.ocells 0 rfl rfl) rfl ?_;clear H;intro a H;refine s_build sr85kt [_,_,_,_,_,_,_,_,_,_,_] H wn rfl rfl rfl rfl ?_;clear H;intro a H;refine s_buildSlice un22run ty85run [_,_,_,_,_,_,_,_,_,_,_,_,_,_,_,_,_,_,_,_,_,_,_,_,_,_,_,_,_,_,_,_,_] [_,_,_,_,_,_,_,_,_,_,_,_,_,_,_,_,_,_,_,_,_,_,_,_,_,_,_,_,_,_,_,_,_] H wn rfl rfl rfl rfl rfl (by intro i q h;match i,h with|0,h=>exact h|1,h=>exact h|2,h=>exact h|n+3,h=>simp at h) rfl rfl ?_;clear H;intro b8 a w hb8 H;refine s_build sr38kt [_,_,_,_,_,_,_,_,_,_,_] H wn rfl rfl rfl rfl ?_;clear H;intro a H;refine s_store ty38pq 3 (vs:=[_,_,_,_,_,_,_,_,_,_,_]) _ H wn rfl rfl rfl rfl rfl rfl rfl rfl ?_;clear H;intro w H;dsimp only [List.set,setRow] at H;refine K3 _ _ ?_;clear K3;refine c_ret ?_;refine (leave1 H Tryz.results25 (.cons (rv_cella ty38pq (cs:=[_,_,_,_,_,_,_,_,_,_,_]) H rfl rfl (H.hp.ocells 3 rfl rfl)) .nil) ?_).1;have H:=H.pickT (Pl:=[_,_,_,_]) (Pl':=[_,_]) [2,0] (by decide) rfl;obtain ⟨G2,hm2,hr2,H⟩:=H.giveOne (sz:=11) (d:=exX.dat) rfl (RepRow.mkItem (x:=exX) hd0_rep (RepV.nil_ rfl (by decide)) (RepV.nil_ rfl (by decide)));obtain ⟨G3,hm3,hb8,H⟩:=H.giveBox;have rA:RepRow G3 exA.dat _:=RepRow.mkItem (x:=exA) hd0_rep (RepV.nil_ (A:=none) (n:=0) (c:=0) rfl (by decide)) (RepV.nil_ (A:=none) (n:=0) (c:=0) rfl (by decide));have rN:RepRow G3 exN.dat _:=RepRow.mkItem (x:=exN) hd0_rep (hr2.mono hm3) (RepV.nil_ (A:=none) (n:=0) (c:=0) rfl (by decide));have rP:RepRow G3 exP.dat _:=RepRow.mkItem (x:=exP) hd0_rep (RepV.nil_ (A:=none) (n:=0) (c:=0) rfl (by decide)) (RepV.nil_ (A:=none) (n:=0) (c:=0) rfl (by decide));have hcat:RepCat G3 11 (exL.map ItemD.dat) _:=((RepCat.nil.snoc rA rfl).snoc rN rfl).snoc rP rfl;exact H.hp.ret ⟨⟨(some ⟨b8,0,none⟩,3,3),(none,0,0),(none,0,0),(none,0,0),(none,0,0),(none,0,0),(none,0,0),(none,0,0),(none,0,0),0,0⟩,rfl,RepV.of_row (n:=3) (cap:=3) hb8 rfl (Nat.le_refl _) (show 3≤maxLen by decide) rfl hcat⟩
end
end Go.Proofs.YthichnnlceeofaaGreat
