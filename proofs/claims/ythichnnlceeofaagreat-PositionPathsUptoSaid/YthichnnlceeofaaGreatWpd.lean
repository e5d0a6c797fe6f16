/-
  What the claim stands on, part 4: Package stylesheet: IsName, FindName, Find, is. make of slices, max of three. Package stylesheet: own. Package document: checkComments. Maps from numbers to their places in a list. Ranges over functions that turn a block of their own. Ranges over functions that turn a block of their own and might never end by themselves. Package stylesheet: the chain of a style. Package stylesheet: Check. Package document: checkVars, CheckSettings. Maps from numbers to values: lookups of one result, in what is owned or only read; new keys. Package document: newChecker. Package document: the checker's id and reference. Paths within a region that meet; what a call that only reads leaves; calls that are lent what they only read. Package run: EqualHead; slices.Equal of properties, deletions, layers. Package document: the checker's layer. Package document: the checker's head.
-/
import Derived.Test.YthichnnlceeofaaGreatWpc
import Derived.Laws.MakeOwn
namespace Go.Proofs.YthichnnlceeofaaGreat
section
open Go.RowKit
theorem lD:Tryz.prog.underlying 31=some (.slice 141):=by kernel_rfl
theorem jf:Ty Tryz.prog 141 6 72 [.int .i64 0,.int .i64 0,.string ⟨#[]⟩,.int .i64 0,.int .i64 0,.slice none 0 0] true:=⟨by kernel_rfl,by kernel_rfl⟩
theorem sP:bO Tryz.prog 141 1 1:=⟨by kernel_rfl⟩
theorem Bq:bO Tryz.prog 141 2 2:=⟨by kernel_rfl⟩
theorem qB:bO Tryz.prog 141 0 0:=⟨by kernel_rfl⟩
theorem PS:∀ args w,(callFunc 124 args).run Tryz.prog w=.ok (.enter 124 args) w:=enters Tryz.func124 rfl (by kernel_rfl)
theorem Ye:∀ args w,(callFunc 116 args).run Tryz.prog w=.ok (.enter 116 args) w:=enters Tryz.func116 rfl (by kernel_rfl)
theorem Yl:∀ args w,(callFunc 125 args).run Tryz.prog w=.ok (.enter 125 args) w:=enters Tryz.func125 rfl (by kernel_rfl)
theorem Ym:∀ args w,(callFunc 126 args).run Tryz.prog w=.ok (.enter 126 args) w:=enters Tryz.func126 rfl (by kernel_rfl)
structure bg where
 id:Int
 kind:Int
 name:ByteArray
 base:Int
 next:Int
 props:List iC
def bg.dat (x:bg):List Dat:=[li x.id,li x.kind,.lf (.string x.name),li x.base,li x.next,.sl 2 (x.props.map iC.dat)]
theorem Nz {G:GH} {x:bg} {cs:List Value} (h:aO G x.dat cs):∃ A c,cs=[vi x.id,vi x.kind,.string x.name,vi x.base,vi x.next,.slice A x.props.length c]∧ah G (.sl 2 (x.props.map iC.dat)) (.slice A x.props.length c):=by
 simp only [bg.dat,aO] at h
 obtain ⟨v1,_,rfl,h1,v2,_,rfl,h2,v3,_,rfl,h3,v4,_,rfl,h4,v5,_,rfl,h5,v6,_,rfl,h6,rfl⟩:=h
 simp only [ah] at h1 h2 h3 h4 h5
 obtain ⟨rfl,-⟩:=h1;obtain ⟨rfl,-⟩:=h2;obtain ⟨rfl,-⟩:=h3;obtain ⟨rfl,-⟩:=h4;obtain ⟨rfl,-⟩:=h5;obtain ⟨A,c,rfl,-,-,-⟩:=h6.slice;rw [List.length_map] at *;exact ⟨A,c,rfl,h6⟩
theorem xV {G:GH} {l:List bg} {A:Option Addr} {n c k:Nat} (hv:ah G (.sl 6 (l.map bg.dat)) (.slice A n c)) (hk:k < l.length):∃ b o pA pc,A=some ⟨b,o,none⟩∧(∀ j u,[vi l[k].id,vi l[k].kind,.string l[k].name,vi l[k].base,vi l[k].next,.slice pA l[k].props.length pc][j]?=some u→aB G b (o+k*6+j)=some u)∧ah G (.sl 2 (l[k].props.map iC.dat)) (.slice pA l[k].props.length pc) ∧
  aO G l[k].dat [vi l[k].id,vi l[k].kind,.string l[k].name,vi l[k].base,vi l[k].next,.slice pA l[k].props.length pc]:=by
 obtain ⟨A',c',he,_,_,hg⟩:=hv.slice
 injection he with e1 e2 e3
 subst e1;obtain ⟨b,o,cs,h1,h2,h3,h4⟩:=hg k l[k].dat (by simp [hk]);obtain ⟨pA,pc,rfl,hp⟩:=Nz h4;exact ⟨b,o,pA,pc,h1,h3,hp,h4⟩
def okB (x:Int):Bool:=decide (32≤x∧x≤126)
/-- Whether a string is the name of a style. -/
def Al (s:ByteArray) (k:Nat):Bool:=(List.range k).all fun i=>okB (fC s i)
def kD (s:ByteArray):Bool:=decide (s.size≠0∧s.size≤40∧fC s 0≠32∧fC s (s.size - 1)≠32) && Al s s.size
theorem acK (s:ByteArray) (k:Nat):Al s (k+1)=(Al s k && okB (fC s k)):=by simp [Al,List.range_succ]
theorem Am {s:ByteArray} {k:Nat} (hk:k < s.size) (h:okB (fC s k)=false):Al s s.size=false:=by
 rw [Al,List.all_eq_false];exact ⟨k,by simpa using hk,by simp [h]⟩
theorem Hw (G:GH) (w0:World) (hG:Hold G w0) (s:ByteArray) (hs:s.size≤4611686018427387904):Calls Tryz.prog 113 #[.string s] w0 (aU w0 G fun u G'=>u=.bool (kD s)):=by
 refine eN [(0,_)] Tryz.func113 rfl Tryz.ntmps113 rfl rfl hG ?_;intro a H;refine kP H (SR fun _ K1=>Ra rfl (Kz K1 (SQ fun _ K2=>SR fun _ K3=>Rm rfl (Rv fB rfl (Rc rfl (Rm rfl (Sp 7 rfl ?_ ?_))))))) <;> clear H K1
 ·intro h7 a H
  try have p7:=dT h7
  refine kH H (Ks h7 rfl (Ks h7 rfl (Ks h7 rfl (Pt h7 rfl (Rm rfl (Ks rfl rfl (Ks rfl rfl (Ks rfl rfl (Pt rfl rfl (Rm rfl (Ks rfl rfl (Ks rfl rfl (Ks rfl rfl (Ks rfl rfl (Ks rfl rfl (Ks rfl rfl ?_))))))))))))))));clear H;intro a H;refine kH H (Pt rfl rfl (Kz K3 (Ct rfl rfl (SR fun _ K4=>Ra rfl (Kz K4 ?_)))));clear H K3 K4;intro a H;refine lr H Tryz.results113 rfl ?_
  first
   | exact H.hp.ret (congrArg Value.bool (by rw [kD,decide_eq_false (by omega),Bool.false_and]))
   | exact H.hp.ret (congrArg Value.bool (by rw [kD,decide_eq_true (by omega),show s.size=k by omega,hno];rfl))
   | exact H.hp.ret (congrArg Value.bool (by rw [kD,Am (k:=k) (by omega) (decide_eq_false (by omega)),Bool.and_false]))
 intro h7 a H
 try have p7:=dF h7
 refine kH H (YM h7 rfl ?_);clear H;intro a H;refine Au fB H (wg H rfl rfl h7) rfl rfl ?_;clear H;intro a H;refine kH H (YC h7 rfl (Pf h7 rfl (Rm rfl (Sp 12 rfl ?_ ?_)))) <;> clear H
 ·intro h12 a H
  try have oz:=dT h12
  refine kH H (Ks h12 rfl (Ks h12 rfl (Ks h12 rfl (Pt h12 rfl (Rm rfl (Ks rfl rfl (Ks rfl rfl (Ks rfl rfl (Ks rfl rfl (Ks rfl rfl (Ks rfl rfl (Pt rfl rfl (Kz K3 (Ct rfl rfl ?_))))))))))))));clear H K3;intro a H;refine kP H (SR fun _ K5=>Ra rfl (Kz K5 ?_));clear H K5;intro a H;refine lr H Tryz.results113 rfl ?_
  first
   | exact H.hp.ret (congrArg Value.bool (by rw [kD,decide_eq_false (by omega),Bool.false_and]))
   | exact H.hp.ret (congrArg Value.bool (by rw [kD,decide_eq_true (by omega),show s.size=k by omega,hno];rfl))
   | exact H.hp.ret (congrArg Value.bool (by rw [kD,Am (k:=k) (by omega) (decide_eq_false (by omega)),Bool.and_false]))
 intro h12 a H
 try have oz:=dF h12
 refine kH H (YM h12 rfl ?_);clear H;intro a H;refine lC 0 fB H (wg H rfl rfl h12) rfl rfl rfl (by omega) rfl ?_;clear H;intro a H;rw [← jQ] at H;refine kH H (YC h12 rfl (Pf h12 rfl (Rm rfl (Sp 17 rfl ?_ ?_)))) <;> clear H
 ·intro bT a H
  try have jy:=dT bT
  refine kH H (Ks bT rfl (Ks bT rfl (Ks bT rfl (Ks bT rfl (Ks bT rfl (Ks bT rfl (Pt bT rfl (Kz K3 (Ct rfl rfl (SR fun _ K6=>Ra rfl (Kz K6 ?_)))))))))));clear H K3 K6;intro a H;refine lr H Tryz.results113 rfl ?_
  first
   | exact H.hp.ret (congrArg Value.bool (by rw [kD,decide_eq_false (by omega),Bool.false_and]))
   | exact H.hp.ret (congrArg Value.bool (by rw [kD,decide_eq_true (by omega),show s.size=k by omega,hno];rfl))
   | exact H.hp.ret (congrArg Value.bool (by rw [kD,Am (k:=k) (by omega) (decide_eq_false (by omega)),Bool.and_false]))
 intro bT a H
 try have jy:=dF bT
 refine kH H (YM bT rfl (YM bT rfl ?_));clear H;intro a H;refine Au fB H (wg H rfl rfl bT) rfl rfl ?_;clear H;intro a H;refine nk _ H (wg H rfl rfl bT) rfl rfl rfl (by omega) (by omega) rfl ?_;clear H;intro a H;refine lC (s.size - 1) fB H (wg H rfl rfl bT) rfl rfl (by omega) (by omega) rfl ?_;clear H;intro a H;rw [← jQ] at H;refine kH H (YC bT rfl (Pf bT rfl (Kz K3 (Cd rfl ?_ ?_)))) <;> clear H K3
 ·intro dM a H
  try have jA:=dT dM
  refine kP H (SR fun _ K7=>Ra rfl (Kz K7 ?_));clear H K7;intro a H;refine lr H Tryz.results113 rfl ?_
  first
   | exact H.hp.ret (congrArg Value.bool (by rw [kD,decide_eq_false (by omega),Bool.false_and]))
   | exact H.hp.ret (congrArg Value.bool (by rw [kD,decide_eq_true (by omega),show s.size=k by omega,hno];rfl))
   | exact H.hp.ret (congrArg Value.bool (by rw [kD,Am (k:=k) (by omega) (decide_eq_false (by omega)),Bool.and_false]))
 intro dM a H
 try have jA:=dF dM
 refine kP H (Kc K2 (SQ fun _ K8=>SR fun _ K9=>Rm rfl (Rv fB rfl (Rm rfl (Kz K9 (SB ?_))))));clear H K2 K9;intro a H;skip;refine d9 (ι:=Nat) (Tc:=[(0,_),(26,_)]) (Lc:=[]) (fun (gh:Nat)=>[(27,vi gh)]) (fun (gh:Nat)=>[]) (fun (gh:Nat)=>G) (fun (gh:Nat)=>gh≤s.size∧Al s gh=true) (fun (gh:Nat)=>s.size - gh) (0) (by exact (H).sub ⟨rfl,rfl,rfl,trivial⟩) ?_ ?_
 ·exact ⟨Nat.zero_le _,rfl⟩
 clear H;intro gh a w hI H;obtain ⟨k,hgh⟩:∃ x,x=gh:=⟨_,rfl⟩;subst hgh;obtain ⟨hk,hno⟩:=hI;dsimp only [List.cons_append,List.nil_append,List.append_nil] at H;refine kP H (SR fun _ aH=>Rc rfl (Kz aH (SQ fun _ aX=>Cd rfl ?_ ?_))) <;> clear H aH
 ·intro bW a H
  try have p28:=dT bW
  refine kP H (Kc aX (SQ fun _ bD=>SB (SR fun _ bH=>Rm rfl (Ra rfl (Kz bH (SR fun _ bG=>Rm rfl (Rm rfl ?_)))))));clear H aX bH;intro a H;refine lC k fB H wn rfl rfl rfl (by omega) rfl ?_;clear H;intro a H;rw [← jQ] at H;refine kH H (Rc rfl (Rm rfl (Sp 34 rfl ?_ ?_))) <;> clear H
  ·intro cZ a H
   try have p34:=dT cZ
   refine kH H (Ks cZ rfl (Ks cZ rfl (Ks cZ rfl (Ks cZ rfl (Pt cZ rfl (Kz bG (Ct rfl rfl (SR fun _ bV=>Ra rfl (Kz bV ?_)))))))));clear H bG bV;intro a H;refine lr H Tryz.results113 rfl ?_
   first
    | exact H.hp.ret (congrArg Value.bool (by rw [kD,decide_eq_false (by omega),Bool.false_and]))
    | exact H.hp.ret (congrArg Value.bool (by rw [kD,decide_eq_true (by omega),show s.size=k by omega,hno];rfl))
    | exact H.hp.ret (congrArg Value.bool (by rw [kD,Am (k:=k) (by omega) (decide_eq_false (by omega)),Bool.and_false]))
  intro cZ a H
  try have p34:=dF cZ
  refine kH H (YM cZ rfl (YM cZ rfl ?_));clear H;intro a H;refine lC k fB H (wg H rfl rfl cZ) rfl rfl rfl (by omega) rfl ?_;clear H;intro a H;rw [← jQ] at H;refine kH H (YC cZ rfl (Pf cZ rfl (Kz bG (Cd rfl ?_ ?_)))) <;> clear H bG
  ·intro gY a H
   try have p39:=dT gY
   refine kP H (SR fun _ bQ=>Ra rfl (Kz bQ ?_));clear H bQ;intro a H;refine lr H Tryz.results113 rfl ?_
   first
    | exact H.hp.ret (congrArg Value.bool (by rw [kD,decide_eq_false (by omega),Bool.false_and]))
    | exact H.hp.ret (congrArg Value.bool (by rw [kD,decide_eq_true (by omega),show s.size=k by omega,hno];rfl))
    | exact H.hp.ret (congrArg Value.bool (by rw [kD,Am (k:=k) (by omega) (decide_eq_false (by omega)),Bool.and_false]))
  intro gY a H
  try have p39:=dF gY
  refine kP H (Kc bD (SC (Rd rfl (Rm rfl ?_))));clear H bD;intro a H;refine au ?_;refine dD ((k+1)) (by exact (H).sub ⟨rfl,rfl,rfl,trivial⟩) ?_ ?_
  ·exact ⟨by omega,by rw [acK,hno];simp [okB];omega⟩
  first|omega|(dsimp only;omega)
 intro bW a H
 try have p28:=dF bW
 refine dL ?_;refine K8 _ _ ?_;clear K8;refine kP H (SR fun _ bS=>Ra rfl (Kz bS ?_));clear H bS;intro a H;refine lr H Tryz.results113 rfl ?_
 first
  | exact H.hp.ret (congrArg Value.bool (by rw [kD,decide_eq_false (by omega),Bool.false_and]))
  | exact H.hp.ret (congrArg Value.bool (by rw [kD,decide_eq_true (by omega),show s.size=k by omega,hno];rfl))
  | exact H.hp.ret (congrArg Value.bool (by rw [kD,Am (k:=k) (by omega) (decide_eq_false (by omega)),Bool.and_false]))
theorem R7 (G:GH) (w0:World) (hG:Hold G w0) (l:List bg) (p:bg→Bool) (v fv:Value) (hv:ah G (.sl 6 (l.map bg.dat)) v) (hf:∀ x∈l,pG fv G x.dat (p x)) :
  Calls Tryz.prog 124 #[v,fv] w0 (aU w0 G fun u G'=>u=vi (kN (l.findIdx? p))):=by
 obtain ⟨A,c,rfl,hc1,hc2,-⟩:=hv.slice;have hml:maxLen=9223372036854775807:=rfl;rw [List.length_map] at *;refine eN [(0,_),(1,_)] Tryz.func124 rfl Tryz.ntmps124 rfl rfl hG ?_;intro a H;refine kP H (SR fun _ K1=>Ra rfl (Kz K1 (SQ fun _ K2=>SR fun _ K3=>Rm rfl (Rl lD rfl (Rm rfl (Kz K3 (SB ?_)))))));clear H K1 K3;intro a H;skip;refine d9 (ι:=Nat × GH) (Tc:=[(0,_),(1,_),(7,_)]) (Lc:=[]) (fun (gh:Nat × GH)=>[(8,vi gh.1)]) (fun (gh:Nat × GH)=>[]) (fun (gh:Nat × GH)=>gh.2) (fun (gh:Nat × GH)=>gh.1≤l.length∧(l.take gh.1).findIdx? p=none∧(∀ b o,G b=some o→gh.2 b=some o)) (fun (gh:Nat × GH)=>l.length - gh.1) ((0,G)) (by exact (H).sub ⟨rfl,rfl,rfl,rfl,trivial⟩) ?_ ?_
 ·exact ⟨by omega,rfl,fun _ _ h=>h⟩
 clear H;intro gh a w hI H;obtain ⟨k,g⟩:=gh;dsimp only at hI H;obtain ⟨hk,hno,hgm⟩:=hI;dsimp only [List.cons_append,List.nil_append,List.append_nil] at H;refine kP H (SR fun _ K4=>Rc rfl (Kz K4 (SQ fun _ K5=>Cd rfl ?_ ?_))) <;> clear H K4
 ·intro h9 a H
  try have p9:=dT h9
  have hk2:k < l.length:=by omega
  obtain ⟨b,o,pA,pc,rfl,hrow,hp,hrep⟩:=xV (hv.mono hgm) hk2;refine kP H (Kc K5 (SQ fun _ K6=>SB (SR fun _ K7=>Rm rfl (Ra rfl (Kz K7 (SR fun _ K8=>Rm rfl (Rm rfl (Rm rfl (Ri lD jf rfl rfl ?_)))))))));clear H K5 K7;intro a H;refine aK jf (cs:=[_,_,_,_,_,_]) H wn rfl rfl (fun j v hj=>H.hp.aB (hrow j v hj)) rfl ?_;clear H;intro a H;refine ng H wn rfl rfl (hf _ (List.getElem_mem hk2) _ _ _ hgm H.hp.ro hrep) rfl ?_;clear H;rintro v16 ql a w rfl nL H;refine K8 _ _ ?_;clear K8;refine l6 H rfl ?_ ?_
  ·intro h16
   try have p16:=dT h16
   refine kP H (SR fun _ K9=>Rm rfl (Ra rfl (Kz K9 ?_)));clear H K9;intro a H;refine lr H Tryz.results124 rfl ?_
   first
    | exact H.hp.ret (by rw [qK hk2 hno h16];rfl)
    | exact H.hp.ret (by rw [show l.take k=l from List.take_of_length_le (by omega)] at hno;rw [hno];rfl)
  intro h16
  try have p16:=dF h16
  refine kP H (Kc K6 (SC (Rd rfl (Rm rfl ?_))));clear H K6;intro a H;refine au ?_;refine dD ((k+1,ql)) (by exact (H).sub ⟨rfl,rfl,rfl,rfl,trivial⟩) ?_ ?_
  ·(try dsimp only);exact ⟨by omega,yZ hk2 hno h16,fun b o h=>nL b o (hgm b o h)⟩
  first|omega|(dsimp only;omega)
 intro h9 a H
 try have p9:=dF h9
 refine dL ?_;refine K2 _ _ ?_;clear K2;refine kP H (SR fun _ aH=>Ra rfl (Kz aH ?_));clear H aH;intro a H;refine lr H Tryz.results124 rfl ?_
 first
  | exact H.hp.ret (by rw [qK hk2 hno h16];rfl)
  | exact H.hp.ret (by rw [show l.take k=l from List.take_of_length_le (by omega)] at hno;rw [hno];rfl)
def EK (p q:ByteArray):Bool:=p.toList == q.toList
theorem aak {G:GH} {bk bn:Nat} {kind:Int} {name:ByteArray} (hk:aB G bk 0=some (vi kind)) (hn:aB G bn 0=some (.string name)) (x:bg):pG (.func (.func 125) #[] #[.pointer (some ⟨bk,0,none⟩),.pointer (some ⟨bn,0,none⟩)]) G x.dat (decide (x.kind=kind) && EK x.name name):=by
 intro G1 w0 cs hm hG hr;refine jI (caps:=[.pointer (some ⟨bk,0,none⟩),.pointer (some ⟨bn,0,none⟩)]) Yl ?_;obtain ⟨pA,pc,rfl,-⟩:=Nz hr;replace hk:=aD hm hk;replace hn:=aD hm hn;refine eN [(0,_),(1,_),(2,_)] Tryz.func125 rfl Tryz.ntmps125 rfl rfl hG ?_;intro a H;refine aY (fun _ K1=>?_);refine bY (cs:=[_,_,_,_,_,_]) H wn rfl rfl rfl ?_;clear H;intro b3 a w hb3 H;refine kH H (Ra rfl (Kz K1 (SR fun _ K2=>Rf sP rfl (Ro ak 0 rfl rfl (Rg ak rfl (by assumption) ?_)))));clear H K1;intro a H;refine kH H (Rc rfl (Rm rfl (Sp 9 rfl ?_ ?_))) <;> clear H
 ·intro h9 a H
  try have p9:=dT h9
  refine kH H (YF Bq h9 rfl (YO gB 0 h9 rfl rfl (YR gB h9 rfl (by assumption) ?_)));clear H;intro a H;refine EO H (wg H rfl rfl h9) rfl rfl rfl ?_;clear H;intro a H;exact kH H (Pt h9 rfl (Ra rfl (Kz K2 (LR Tryz.results125 rfl fun H=>H.hp.ret (by unfold EK;simp_all)))))
 intro h9 a H
 try have p9:=dF h9
 exact kH H (Ks h9 rfl (Ks h9 rfl (Ks h9 rfl (Ks h9 rfl (Pf h9 rfl (Ra rfl (Kz K2 (LR Tryz.results125 rfl fun H=>H.hp.ret (by unfold EK;simp_all)))))))))
theorem aaj {G:GH} {bi:Nat} {id:Int} (hb:aB G bi 0=some (vi id)) (x:bg):pG (.func (.func 126) #[] #[.pointer (some ⟨bi,0,none⟩)]) G x.dat (decide (x.id=id)):=by
 intro G1 w0 cs hm hG hr;refine jI (caps:=[.pointer (some ⟨bi,0,none⟩)]) Ym ?_;obtain ⟨pA,pc,rfl,-⟩:=Nz hr;replace hb:=aD hm hb;refine eN [(0,_),(1,_)] Tryz.func126 rfl Tryz.ntmps126 rfl rfl hG ?_;intro a H;refine aY (fun _ K1=>?_);refine bY (cs:=[_,_,_,_,_,_]) H wn rfl rfl rfl ?_;clear H;intro b2 a w hb2 H;refine kH H (Ra rfl (Kz K1 (SR fun _ K2=>Rf qB rfl (Ro ak 0 rfl rfl (Rg ak rfl (by assumption) ?_)))));clear H K1;intro a H;exact kH H (Rc rfl (Ra rfl (Kz K2 (LR Tryz.results126 rfl fun H=>H.hp.ret rfl))))
def tX (l:List bg) (kind:Int) (name:ByteArray):Option Nat:=l.findIdx? fun x=>decide (x.kind=kind) && EK x.name name
def Gw (l:List bg) (id:Int):Option Nat:=l.findIdx? fun x=>decide (x.id=id)
theorem Sd (o:Option Nat):decide (0≤kN o)=o.isSome:=by cases o <;> simp [kN]
theorem aal (G:GH) (w0:World) (hG:Hold G w0) (l:List bg) (kind:Int) (name:ByteArray) (v:Value) (hv:ah G (.sl 6 (l.map bg.dat)) v) :
  Calls Tryz.prog 114 #[v,vi kind,.string name] w0 (aU w0 G fun u G'=>u=.tuple #[vi (max (kN (tX l kind name)) 0),.bool (tX l kind name).isSome]):=by
 obtain ⟨A,c,rfl,hc1,hc2,-⟩:=hv.slice;rw [List.length_map] at *;refine eN [(0,_),(1,_),(2,_)] Tryz.func114 rfl Tryz.ntmps114 rfl rfl hG ?_;intro a H;refine aY (fun _ K1=>?_);refine bY (cs:=[_]) H wn rfl rfl rfl ?_;clear H;intro b4 a w hb4 H;refine bY (cs:=[_]) H wn rfl rfl rfl ?_;clear H;intro b5 a w hb5 H;refine kH H (Ra rfl (Ra rfl (Kz K1 (SQ fun _ K2=>?_))));clear H K1;intro a H;obtain ⟨Ga,hma,vR,H⟩:=H.dB;obtain ⟨Gb,hmb,uo,H⟩:=H.dB
 have q4:aB Gb b4 0=some (vi kind):=by unfold aB;rw [uo];rfl
 have q5:aB Gb b5 0=some (.string name):=by unfold aB;rw [hmb _ _ vR];rfl
 refine kP H (SC (Rm rfl ?_));clear H;intro a H;refine lT H wn rfl rfl ?_;clear H;intro a H;refine s_call PS H wn rfl (R7 _ _ H.hp.ro l (fun x=>decide (x.kind=kind) && EK x.name name) _ _ ((hv.mono hma).mono hmb) (fun x _=>aak q4 q5 x)) rfl ?_;clear H;rintro v11 qj a w rfl xq H;refine kH H (Ra rfl (Kn K2 (SR fun _ K3=>Rm rfl ?_)));clear H K2;intro a H;refine Iz H wn rfl rfl rfl ?_;clear H;intro a H;refine kH H (Rm rfl (Rc rfl (Ra rfl (Ra rfl (Kz K3 ?_)))));clear H K3;intro a H;refine aR ?_;refine (bU H Tryz.results114 (.cons (aF H rfl) (.cons (aF H rfl) .nil)) ?_).1;exact H.hp.ret (by rw [← Sd];rfl)
theorem aam (G:GH) (w0:World) (hG:Hold G w0) (l:List bg) (id:Int) (v:Value) (hv:ah G (.sl 6 (l.map bg.dat)) v) :
  Calls Tryz.prog 116 #[v,vi id] w0 (aU w0 G fun u G'=>u=.tuple #[vi (max (kN (Gw l id)) 0),.bool (Gw l id).isSome]):=by
 obtain ⟨A,c,rfl,hc1,hc2,-⟩:=hv.slice;rw [List.length_map] at *;refine eN [(0,_),(1,_)] Tryz.func116 rfl Tryz.ntmps116 rfl rfl hG ?_;intro a H;refine aY (fun _ K1=>?_);refine bY (cs:=[_]) H wn rfl rfl rfl ?_;clear H;intro b3 a w hb3 H;refine kH H (Ra rfl (Ra rfl (Kz K1 (SQ fun _ K2=>?_))));clear H K1;intro a H;obtain ⟨Ga,hma,w9,H⟩:=H.dB
 have q3:aB Ga b3 0=some (vi id):=by unfold aB;rw [w9];rfl
 refine kP H (SC (Rm rfl ?_));clear H;intro a H;refine lT H wn rfl rfl ?_;clear H;intro a H;refine s_call PS H wn rfl (R7 _ _ H.hp.ro l (fun x=>decide (x.id=id)) _ _ (hv.mono hma) (fun x _=>aaj q3 x)) rfl ?_;clear H;rintro v9 G9 a w rfl yT H;refine kH H (Ra rfl (Kn K2 (SR fun _ K3=>Rm rfl ?_)));clear H K2;intro a H;refine Iz H wn rfl rfl rfl ?_;clear H;intro a H;refine kH H (Rm rfl (Rc rfl (Ra rfl (Ra rfl (Kz K3 ?_)))));clear H K3;intro a H;refine aR ?_;refine (bU H Tryz.results116 (.cons (aF H rfl) (.cons (aF H rfl) .nil)) ?_).1;exact H.hp.ret (by rw [← Sd];rfl)
/-- Whether there is a style of a kind with an id. -/
def Ad (l:List bg) (kind id:Int):Bool:=match Gw l id with|some i=>decide ((l[i]?.map bg.kind)=some kind)|none=>false
theorem MN (G:GH) (w0:World) (hG:Hold G w0) (l:List bg) (kind id:Int) (v:Value) (hv:ah G (.sl 6 (l.map bg.dat)) v) :
  Calls Tryz.prog 87 #[v,vi kind,vi id] w0 (aU w0 G fun u G'=>u=.bool (Ad l kind id)):=by
 obtain ⟨A,c,rfl,hc1,hc2,-⟩:=hv.slice;rw [List.length_map] at *;refine eN [(0,_),(1,_),(2,_)] Tryz.func87 rfl Tryz.ntmps87 rfl rfl hG ?_;intro a H;refine kP H (SR fun _ K1=>Ra rfl (Kz K1 (SR fun _ K2=>Rm rfl (Rm rfl ?_))));clear H K1;intro a H;refine s_call Ye H wn rfl (aam _ _ H.hp.ro l id _ hv) rfl ?_;clear H;rintro v12 zx a w rfl Ep H;obtain ⟨o,ho⟩:∃ o,o=Gw l id:=⟨_,rfl⟩;rw [← ho] at H;refine kH H (Rm rfl ?_);clear H;intro a H;(iterate 2 refine gV H wn rfl rfl rfl ?_;clear H;intro a H);refine kH H (Ra rfl (Ra rfl (Kz K2 (SR fun _ K3=>Rm rfl (Rm rfl (Sp 16 rfl ?_ ?_)))))) <;> clear H K2
 ·intro h16 a H
  try have p16:=dT h16
  obtain ⟨i,rfl⟩:=Option.isSome_iff_exists.1 h16
  have hil:i < l.length:=by
   obtain ⟨hi,-⟩:=List.findIdx?_eq_some_iff_getElem.1 ho.symm;exact hi
  rw [show max (kN (some i)) 0=(i:Int) by simp [kN]] at H;obtain ⟨b,o',pA,pc,rfl,hrow,hp,hrep⟩:=xV (hv.mono Ep) hil;have r1:aB zx b (o'+i*6+1)=some (vi l[i].kind):=hrow 1 _ rfl;refine kH H (YM h16 rfl (YM h16 rfl (YI lD jf h16 rfl rfl (YF sP h16 rfl (YR ak h16 rfl (by assumption) ?_)))));clear H;intro a H;refine kH H (YM h16 rfl (YC h16 rfl (Pt h16 rfl (Ra rfl (Kz K3 ?_)))));clear H K3;intro a H;refine lr H Tryz.results87 rfl ?_
  first
   | exact H.hp.ret (congrArg Value.bool (by rw [Ad,← ho];dsimp only;rw [List.getElem?_eq_getElem hil];simp))
   | exact H.hp.ret (congrArg Value.bool (by rw [Ad,← ho];cases o <;> simp_all))
 intro h16 a H
 try have p16:=dF h16
 refine kH H (Ks h16 rfl (Ks h16 rfl (Ks h16 rfl (Ks h16 rfl (Ks h16 rfl (Ks h16 rfl (Ks h16 rfl (Pf h16 rfl (Ra rfl (Kz K3 ?_))))))))));clear H K3;intro a H;refine lr H Tryz.results87 rfl ?_
 first
  | exact H.hp.ret (congrArg Value.bool (by rw [Ad,← ho];dsimp only;rw [List.getElem?_eq_getElem hil];simp))
  | exact H.hp.ret (congrArg Value.bool (by rw [Ad,← ho];cases o <;> simp_all))
end
section
open Go.RowKit
section
variable {N:Nat} {D:List Deferred} {w0:World} {F:Nat→Prop} {G0 G:GH} {L Li Lo:OL} {T:List (Nat × Value)}
variable {r:Option Nat} {P:Program} {ops:Array Oper} {Q:Exit→Act→World→Prop} {rest:List Oper} {a:Act} {w:World}
variable {d:Nat} {ty:TypeId} {pos:String} {aG:Array Edge} {g:Option (Nat × Bool)}
/-- The head of a slice. -/
theorem Ua {t e:TypeId} {sz bytes:Nat} {zero:List Value} {agg:Bool} (hs:P.underlying t=some (.slice e)) (ht:Ty P e sz bytes zero agg) {x z:Operand} {A:Option Addr} {n c:Nat} (hi:Nat) {q:Int} (H:St N D w0 F G0 G L T a w)
  (hw:Region.wanted ⟨some d,.slice t x none (some z) none,ty,pos,aG,g⟩ (yielded ops a.tmps)=true) (hx:ev T x=some (.slice A n c)) (hz:ev T z=some (.int .i64 q)) (hq:q=(hi:Int)) (h2:hi≤c) (hd:Nat.blt d N=true)
  (k:∀ a',St N D w0 F G0 G L ((d,.slice A hi c) :: T) a' w→WL r P ops Q rest a' w):WL r P ops Q (⟨some d,.slice t x none (some z) none,ty,pos,aG,g⟩ :: rest) a w:=by
 subst hq
 refine eT (v:=.slice A hi c) (w':=w) hw rfl ?_ (k _ (H.put hd _ H.hp))
 simp [execOp,H.ev hx,H.ev hz,Instr.sliceAt,Instr.slice,Instr.sliceBounds,Instr.sliceBound,Sem.run_bind,mE hs,ht.ze,asIntOf,h2]
 intro _
 cases A with
 | none=>rfl
 | some p=>simp [Addr.add]
end
end
section
open Go.RowKit
theorem F4:∀ args w,(callFunc 113 args).run Tryz.prog w=.ok (.enter 113 args) w:=enters Tryz.func113 rfl (by kernel_rfl)
theorem Yc:∀ args w,(callFunc 114 args).run Tryz.prog w=.ok (.enter 114 args) w:=enters Tryz.func114 rfl (by kernel_rfl)
theorem Qm:bO Tryz.prog 141 5 5:=⟨by kernel_rfl⟩
theorem Yd:∀ args w,(callFunc 115 args).run Tryz.prog w=.ok (.enter 115 args) w:=enters Tryz.func115 rfl (by kernel_rfl)
theorem P9:∀ args w,(callFunc 69 args).run Tryz.prog w=.ok (.enter 69 args) w:=enters Tryz.func69 rfl (by kernel_rfl)
theorem ah.pre {G:GH} {sz:Nat} {rows:List (List Dat)} {A:Option Addr} {n c:Nat} (h:ah G (.sl sz rows) (.slice A n c)) (k:Nat) (hk:k≤rows.length):ah G (.sl sz (rows.take k)) (.slice A k c):=by
 have h:=h.part 0 k (Nat.zero_le _) hk
 have e:(if c=0 then A else A.map (·.add (0*sz)))=A:=by
  split
  ·rfl
  cases A <;> simp [Addr.add]
 rw [e] at h
 simpa using h
theorem XZ (G:GH) (w0:World) (hG:Hold G w0) (kind:Int):Calls Tryz.prog 115 #[vi kind] w0 (aU w0 G fun u G'=>u=vi (if kind=1 then 2 else 1)):=by
 refine eN [(0,_)] Tryz.func115 rfl Tryz.ntmps115 rfl rfl hG ?_;intro a H;refine kP H (SR fun _ K1=>Ra rfl (Kz K1 (SQ fun _ K2=>SR fun _ K3=>Rm rfl (Rc rfl (Kz K3 (Cd rfl ?_ ?_)))))) <;> clear H K1 K3
 ·intro h4 a H
  try have p4:=dT h4
  exact kP H (SR fun _ K4=>Ra rfl (Kz K4 (LR Tryz.results115 rfl fun H=>H.hp.ret (by first|(rw [if_pos (by omega)];done)|rw [if_neg (by omega)]))))
 intro h4 a H
 try have p4:=dF h4
 exact kP H (Kc K2 (SR fun _ K5=>Ra rfl (Kz K5 (LR Tryz.results115 rfl fun H=>H.hp.ret (by first|(rw [if_pos (by omega)];done)|rw [if_neg (by omega)])))))
def sZ (l:List bg) (k:Nat):Option Int:=if k=0 then none else l[k - 1]?.map bg.id
theorem Ik {l:List bg} {k:Nat} (h:k=0):sZ l k=none:=if_pos h
def Bc (k:Int):Bool:=decide (k=20) || decide (k=1)
/-- The error of a style itself, behind others. -/
def jF (q:Option Int) (dup:Bool) (s:bg):Int :=
 if s.id < 1∨1073741824 < s.id then 18 else if q=some s.id then 7 else if Cb q s.id=true then 6 else if s.kind≠1∧s.kind≠2 then 3 else if kD s.name=false then 13 else if dup=true then 7
 else if s.props.any (fun p=>Bc p.key)=true then 4 else fD (if s.kind=1 then 2 else 1) s.props
def gu (l:List bg) (k:Nat) (s:bg):Int:=jF (sZ l k) (tX (l.take k) s.kind s.name).isSome s
set_option maxHeartbeats 1000000 in
theorem acS (G:GH) (w0:World) (hG:Hold G w0) (l:List bg) (k:Nat) (v:Value) (hv:ah G (.sl 6 (l.map bg.dat)) v) (hk:k < l.length) (hs:l[k].name.size≤4611686018427387904) :
  Calls Tryz.prog 86 #[v,vi k] w0 (aU w0 G fun u G'=>u=vi (gu l k l[k])):=by
 obtain ⟨A,c,rfl,hc1,hc2,-⟩:=hv.slice;have hml:maxLen=9223372036854775807:=rfl;rw [List.length_map] at *;obtain ⟨b,o,pA,pc,rfl,hrow,hp,hrep⟩:=xV hv hk;obtain ⟨x,hx⟩:∃ x,x=l[k]:=⟨_,rfl⟩;rw [← hx] at hs hrow hp hrep ⊢;have hdp:∀ j v,[vi x.id,vi x.kind,.string x.name,vi x.base,vi x.next,.slice pA x.props.length pc][j]?=some v→aB G b (o+k*6+j)=some v:=hrow;obtain ⟨_,_,he0,agp,agq,-⟩:=hp.slice
 injection he0 with _ he1 he2
 rw [List.length_map] at *;subst he2
 obtain ⟨pk,hpk⟩:∃ pk,0 < k→aB G b (o+(k - 1)*6+0)=some (vi pk)∧sZ l k=some pk:=by
  by_cases h0:0 < k
  ·obtain ⟨b',o',_,_,he,hr',-,-⟩:=xV hv (show k - 1 < l.length by omega)
   injection he with he
   injection he with e1 e2 e3
   subst e1;subst e2;exact ⟨_,fun _=>⟨hr' 0 _ rfl,by rw [sZ,if_neg (by omega),List.getElem?_eq_getElem (by omega)];rfl⟩⟩
  exact ⟨0,fun h=>absurd h h0⟩
 refine eN [(0,_),(1,_)] Tryz.func86 rfl Tryz.ntmps86 rfl rfl hG ?_;intro a H;refine kP H (SR fun _ K1=>Ra rfl (Kz K1 (SR fun _ K2=>Rm rfl (Rm rfl (Ri lD jf rfl rfl ?_)))));clear H K1;intro a H;refine aK jf (cs:=[_,_,_,_,_,_]) H wn rfl rfl (fun j v hj=>H.hp.aB (hrow j v hj)) rfl ?_;clear H;intro a H;refine bX jf H wn rfl ?_;clear H;intro b5 a w hb5 H;refine aP jf 0 (vs:=[_,_,_,_,_,_]) _ H wn rfl rfl rfl rfl rfl rfl rfl rfl ?_;clear H;intro w H;dsimp only [List.set,setRow] at H;refine K2 _ _ ?_;clear K2;refine qW (ι:=GH) (Tc:=[(0,_),(1,_),(5,_)]) (Lc:=[(_,_)]) (fun (gh:GH)=>[]) (fun (gh:GH)=>[]) (fun (gh:GH)=>gh) (fun (gh:GH)=>¬ (x.id < 1∨1073741824 < x.id)∧¬ sZ l k=some x.id∧¬ Cb (sZ l k) x.id=true∧¬ (x.kind≠1∧x.kind≠2)∧¬ kD x.name=false∧(∀ b o,G b=some o→gh b=some o)) (by exact (H).sub ⟨rfl,rfl,rfl,trivial⟩) ?_ ?_
 ·skip;refine kP H (SB (SR fun _ K3=>Rf qB rfl (Ro ak 0 rfl rfl (Rc rfl (Rm rfl (Sp 18 rfl ?_ ?_)))))) <;> clear H
  ·intro h18 a H
   try have oZ:=dT h18
   refine kH H (Ks h18 rfl (Ks h18 rfl (Ks h18 rfl (Pt h18 rfl (Ra rfl (Kz K3 (Ct rfl rfl (SR fun _ K4=>Ra rfl (Kz K4 ?_)))))))));clear H K3 K4;intro a H;refine lr H Tryz.results86 rfl ?_
   first
    | exact H.hp.ret (congrArg vi e0.symm)
    | exact H.hp.ret (congrArg vi e4.symm)
    | exact H.hp.ret (congrArg vi e7.symm)
    | exact H.hp.ret (congrArg vi e13.symm)
    | exact H.hp.ret (congrArg vi e3.symm)
    | exact H.hp.ret (congrArg vi e6.symm)
    | exact H.hp.ret (congrArg vi (by rw [gu,jF,if_pos (by omega)]))
  intro h18 a H
  try have oZ:=dF h18
  refine kH H (YF qB h18 rfl (YO ak 0 h18 rfl rfl (YC h18 rfl (Pf h18 rfl (Ra rfl (Kz K3 (Cd rfl ?_ ?_))))))) <;> clear H K3
  ·intro fE a H
   try have qM:=dT fE
   refine kP H (SR fun _ K5=>Ra rfl (Kz K5 ?_));clear H K5;intro a H;refine lr H Tryz.results86 rfl ?_
   first
    | exact H.hp.ret (congrArg vi e0.symm)
    | exact H.hp.ret (congrArg vi e4.symm)
    | exact H.hp.ret (congrArg vi e7.symm)
    | exact H.hp.ret (congrArg vi e13.symm)
    | exact H.hp.ret (congrArg vi e3.symm)
    | exact H.hp.ret (congrArg vi e6.symm)
    | exact H.hp.ret (congrArg vi (by rw [gu,jF,if_pos (by omega)]))
  intro fE a H
  try have qM:=dF fE
  refine aQ (fun _ K6=>?_)
  by_cases c0:0 < (k:Int)
  ·skip
   by_cases c1:x.id=pk
   ·skip;refine dz (hmx) [[],[0],[0,1],[0,1,2],[0,1,2,3],[0,1,2],[0,1,2],[0,1,2,6],[0,1,2,5,6,7],[0,1,2,5,6,7,8],[0,1,2,5,6,7,8,9],(List.range 11),(List.range 12),(List.range 13)] [13] (by kernel_rfl) (by kernel_rfl) (fun (aC:Nat) (v:Value) (G:GH)=>match aC with|0=>v=vi k|1=>v=.bool (decide (0 < (k:Int)))|2=>v=.bool (decide (0 < (k:Int)))|3=>v=.pointer (some ⟨b5,0,none⟩)|4=>v=vi x.id|5=>v=.slice (some ⟨b,o,none⟩) l.length c|6=>v=vi k|7=>v=vi ((k - 1:Nat):Int)|8=>v=.pointer (some ⟨b,o+(k - 1)*6,none⟩)|9=>v=.pointer (some ⟨b,o+(k - 1)*6+0,none⟩)|10=>v=vi pk|11=>v=.bool (decide (x.id=pk))|12=>v=.bool (decide (x.id=pk))|_=>True) (fun _ _ _ _ _ h=>h) H ?_ ?_
    ·clear H;refine av (Z0 rfl (Rm rfl)) (Z1 0 24 rfl (Rc rfl)) (Z1 1 25 rfl (Rm rfl)) (Z1 2 26 rfl (YF qB (ay c0) rfl)) (av (Z2 3 27 2 26 rfl (YO ak 0 (ay c0) rfl rfl)) (Z1 2 26 rfl (YM (ay c0) rfl)) (Z1 2 26 rfl (YM (ay c0) rfl)) ?_ (av (Z3 5 29 7 31 2 26 rfl (YI lD jf (ay c0) rfl rfl)) (Z2 8 32 2 26 rfl (YF qB (ay c0) rfl)) (X2 9 33 2 26 rfl fun hG=>YR ak (ay c0) rfl (aD hG (hpk (by omega)).1)) (Z3 4 28 10 34 2 26 rfl (YC (ay c0) rfl)) (bq (Z2 2 26 11 35 rfl (Pt (ay c0) rfl)) (bq (aT rfl) dh))))
     refine dK 6 30 2 26 rfl rfl fun _ a w G1 hG HT H fin=>?_;refine nk _ H (wg H rfl rfl (ay c0)) rfl rfl rfl (by omega) (by omega) rfl ?_;clear H;intro a H;exact fin H iJ (by first|rfl|exact congrArg vi (by omega))
    clear H;intro a w G wX H hv;have H:=H.aM (hv 12 36 rfl rfl) rfl;clear hv;refine kH H (Ra rfl ?_);clear H;intro a H;refine au ⟨rfl,?_⟩;refine K6 _ _ ?_;clear K6;refine vG H rfl (ay c1) ?_;refine aQ (fun _ K7=>?_)
    have e7:gu l k x=7:=by rw [gu,jF,if_neg (by omega),if_pos (by rw [(hpk (by omega)).2,c1])]
    refine kP H (SC (Ra rfl (Kn K7 ?_)));clear H K7;intro a H;refine lr H Tryz.results86 rfl ?_
    first
     | exact H.hp.ret (congrArg vi e0.symm)
     | exact H.hp.ret (congrArg vi e4.symm)
     | exact H.hp.ret (congrArg vi e7.symm)
     | exact H.hp.ret (congrArg vi e13.symm)
     | exact H.hp.ret (congrArg vi e3.symm)
     | exact H.hp.ret (congrArg vi e6.symm)
     | exact H.hp.ret (congrArg vi (by rw [gu,jF,if_pos (by omega)]))
   skip;refine dz (hmx) [[],[0],[0,1],[0,1,2],[0,1,2,3],[0,1,2],[0,1,2],[0,1,2,6],[0,1,2,5,6,7],[0,1,2,5,6,7,8],[0,1,2,5,6,7,8,9],(List.range 11),(List.range 12),(List.range 13)] [13] (by kernel_rfl) (by kernel_rfl) (fun (aC:Nat) (v:Value) (G:GH)=>match aC with|0=>v=vi k|1=>v=.bool (decide (0 < (k:Int)))|2=>v=.bool (decide (0 < (k:Int)))|3=>v=.pointer (some ⟨b5,0,none⟩)|4=>v=vi x.id|5=>v=.slice (some ⟨b,o,none⟩) l.length c|6=>v=vi k|7=>v=vi ((k - 1:Nat):Int)|8=>v=.pointer (some ⟨b,o+(k - 1)*6,none⟩)|9=>v=.pointer (some ⟨b,o+(k - 1)*6+0,none⟩)|10=>v=vi pk|11=>v=.bool (decide (x.id=pk))|12=>v=.bool (decide (x.id=pk))|_=>True) (fun _ _ _ _ _ h=>h) H ?_ ?_
   ·clear H;refine av (Z0 rfl (Rm rfl)) (Z1 0 24 rfl (Rc rfl)) (Z1 1 25 rfl (Rm rfl)) (Z1 2 26 rfl (YF qB (ay c0) rfl)) (av (Z2 3 27 2 26 rfl (YO ak 0 (ay c0) rfl rfl)) (Z1 2 26 rfl (YM (ay c0) rfl)) (Z1 2 26 rfl (YM (ay c0) rfl)) ?_ (av (Z3 5 29 7 31 2 26 rfl (YI lD jf (ay c0) rfl rfl)) (Z2 8 32 2 26 rfl (YF qB (ay c0) rfl)) (X2 9 33 2 26 rfl fun hG=>YR ak (ay c0) rfl (aD hG (hpk (by omega)).1)) (Z3 4 28 10 34 2 26 rfl (YC (ay c0) rfl)) (bq (Z2 2 26 11 35 rfl (Pt (ay c0) rfl)) (bq (aT rfl) dh))))
    refine dK 6 30 2 26 rfl rfl fun _ a w G1 hG HT H fin=>?_;refine nk _ H (wg H rfl rfl (ay c0)) rfl rfl rfl (by omega) (by omega) rfl ?_;clear H;intro a H;exact fin H iJ (by first|rfl|exact congrArg vi (by omega))
   clear H;intro a w G wX H hv;have H:=H.aM (hv 12 36 rfl rfl) rfl;clear hv;refine kH H (Ra rfl ?_);clear H;intro a H;refine au ⟨rfl,?_⟩;refine K6 _ _ ?_;clear K6;refine mO H rfl (aL c1) ?_;refine aQ (fun _ K8=>?_)
   have q1:¬ (0 < (k:Int)∧x.id=pk):=by first|exact fun h=>c1 h.2|exact fun h=>c0 h.1
   have q1':¬ sZ l k=some x.id:=fun h=>q1 (by
    by_cases h0:0 < k
    ·rw [(hpk h0).2] at h
     injection h with h
     exact ⟨by omega,h.symm⟩
    rw [Ik (by omega)] at h
    cases h)
   by_cases c3:x.id < pk
   ·skip;refine dz (hmx) [[],[0],[0,1],[0,1,2],[0,1,2,3],[0,1,2],[0,1,2],[0,1,2,6],[0,1,2,5,6,7],[0,1,2,5,6,7,8],[0,1,2,5,6,7,8,9],(List.range 11),(List.range 12),(List.range 13)] [13] (by kernel_rfl) (by kernel_rfl) (fun (aC:Nat) (v:Value) (G:GH)=>match aC with|0=>v=vi k|1=>v=.bool (decide (0 < (k:Int)))|2=>v=.bool (decide (0 < (k:Int)))|3=>v=.pointer (some ⟨b5,0,none⟩)|4=>v=vi x.id|5=>v=.slice (some ⟨b,o,none⟩) l.length c|6=>v=vi k|7=>v=vi ((k - 1:Nat):Int)|8=>v=.pointer (some ⟨b,o+(k - 1)*6,none⟩)|9=>v=.pointer (some ⟨b,o+(k - 1)*6+0,none⟩)|10=>v=vi pk|11=>v=.bool (decide (x.id < pk))|12=>v=.bool (decide (x.id < pk))|_=>True) (fun _ _ _ _ _ h=>h) H ?_ ?_
    ·clear H;refine av (Z0 rfl (Rm rfl)) (Z1 0 38 rfl (Rc rfl)) (Z1 1 39 rfl (Rm rfl)) (Z1 2 40 rfl (YF qB (ay c0) rfl)) (av (Z2 3 41 2 40 rfl (YO ak 0 (ay c0) rfl rfl)) (Z1 2 40 rfl (YM (ay c0) rfl)) (Z1 2 40 rfl (YM (ay c0) rfl)) ?_ (av (Z3 5 43 7 45 2 40 rfl (YI lD jf (ay c0) rfl rfl)) (Z2 8 46 2 40 rfl (YF qB (ay c0) rfl)) (X2 9 47 2 40 rfl fun hG=>YR ak (ay c0) rfl (aD hG (aD wX (hpk (by omega)).1))) (Z3 4 42 10 48 2 40 rfl (YC (ay c0) rfl)) (bq (Z2 2 40 11 49 rfl (Pt (ay c0) rfl)) (bq (aT rfl) dh))))
     refine dK 6 44 2 40 rfl rfl fun _ a w G1 hG HT H fin=>?_;refine nk _ H (wg H rfl rfl (ay c0)) rfl rfl rfl (by omega) (by omega) rfl ?_;clear H;intro a H;exact fin H iJ (by first|rfl|exact congrArg vi (by omega))
    clear H;intro a w G jd H hv;have H:=H.aM (hv 12 50 rfl rfl) rfl;clear hv;refine kH H (Ra rfl ?_);clear H;intro a H;refine au ⟨rfl,?_⟩;refine K8 _ _ ?_;clear K8;refine vG H rfl (ay c3) ?_;refine aQ (fun _ K9=>?_)
    have e6:gu l k x=6:=by rw [gu,jF,if_neg (by omega),if_neg q1',if_pos (by rw [(hpk (by omega)).2];exact ay c3)]
    refine kP H (SC (Ra rfl (Kn K9 ?_)));clear H K9;intro a H;refine lr H Tryz.results86 rfl ?_
    first
     | exact H.hp.ret (congrArg vi e0.symm)
     | exact H.hp.ret (congrArg vi e4.symm)
     | exact H.hp.ret (congrArg vi e7.symm)
     | exact H.hp.ret (congrArg vi e13.symm)
     | exact H.hp.ret (congrArg vi e3.symm)
     | exact H.hp.ret (congrArg vi e6.symm)
     | exact H.hp.ret (congrArg vi (by rw [gu,jF,if_pos (by omega)]))
   skip;refine dz (hmx) [[],[0],[0,1],[0,1,2],[0,1,2,3],[0,1,2],[0,1,2],[0,1,2,6],[0,1,2,5,6,7],[0,1,2,5,6,7,8],[0,1,2,5,6,7,8,9],(List.range 11),(List.range 12),(List.range 13)] [13] (by kernel_rfl) (by kernel_rfl) (fun (aC:Nat) (v:Value) (G:GH)=>match aC with|0=>v=vi k|1=>v=.bool (decide (0 < (k:Int)))|2=>v=.bool (decide (0 < (k:Int)))|3=>v=.pointer (some ⟨b5,0,none⟩)|4=>v=vi x.id|5=>v=.slice (some ⟨b,o,none⟩) l.length c|6=>v=vi k|7=>v=vi ((k - 1:Nat):Int)|8=>v=.pointer (some ⟨b,o+(k - 1)*6,none⟩)|9=>v=.pointer (some ⟨b,o+(k - 1)*6+0,none⟩)|10=>v=vi pk|11=>v=.bool (decide (x.id < pk))|12=>v=.bool (decide (x.id < pk))|_=>True) (fun _ _ _ _ _ h=>h) H ?_ ?_
   ·clear H;refine av (Z0 rfl (Rm rfl)) (Z1 0 38 rfl (Rc rfl)) (Z1 1 39 rfl (Rm rfl)) (Z1 2 40 rfl (YF qB (ay c0) rfl)) (av (Z2 3 41 2 40 rfl (YO ak 0 (ay c0) rfl rfl)) (Z1 2 40 rfl (YM (ay c0) rfl)) (Z1 2 40 rfl (YM (ay c0) rfl)) ?_ (av (Z3 5 43 7 45 2 40 rfl (YI lD jf (ay c0) rfl rfl)) (Z2 8 46 2 40 rfl (YF qB (ay c0) rfl)) (X2 9 47 2 40 rfl fun hG=>YR ak (ay c0) rfl (aD hG (aD wX (hpk (by omega)).1))) (Z3 4 42 10 48 2 40 rfl (YC (ay c0) rfl)) (bq (Z2 2 40 11 49 rfl (Pt (ay c0) rfl)) (bq (aT rfl) dh))))
    refine dK 6 44 2 40 rfl rfl fun _ a w G1 hG HT H fin=>?_;refine nk _ H (wg H rfl rfl (ay c0)) rfl rfl rfl (by omega) (by omega) rfl ?_;clear H;intro a H;exact fin H iJ (by first|rfl|exact congrArg vi (by omega))
   clear H;intro a w G jd H hv;have H:=H.aM (hv 12 50 rfl rfl) rfl;clear hv;refine kH H (Ra rfl ?_);clear H;intro a H;refine au ⟨rfl,?_⟩;refine K8 _ _ ?_;clear K8;refine mO H rfl (aL c3) ?_;refine aQ (fun _ aH=>?_)
   have q2:¬ (0 < (k:Int)∧x.id < pk):=by first|exact fun h=>c3 h.2|exact fun h=>c0 h.1
   have q2':¬ Cb (sZ l k) x.id=true:=fun h=>q2 (by
    by_cases h0:0 < k
    ·rw [(hpk h0).2] at h;exact ⟨by omega,of_decide_eq_true h⟩
    rw [Ik (by omega)] at h
    cases h)
   refine kP H (SC (Rf sP rfl (Ro ak 0 rfl rfl (Rc rfl (Rm rfl (Sp 55 rfl ?_ ?_)))))) <;> clear H
   ·intro gH a H
    try have p55:=dT gH
    refine kH H (YF sP gH rfl (YO ak 0 gH rfl rfl (YC gH rfl (Pt gH rfl (Ra rfl (Kn aH (Cd rfl ?_ ?_))))))) <;> clear H aH
    ·intro eF a H
     try have p51:=dT eF
     refine aQ (fun _ aX=>?_)
     have e3:gu l k x=3:=by rw [gu,jF,if_neg (by omega),if_neg q1',if_neg q2',if_pos (by omega)]
     refine kP H (SC (Ra rfl (Kn aX ?_)));clear H aX;intro a H;refine lr H Tryz.results86 rfl ?_
     first
      | exact H.hp.ret (congrArg vi e0.symm)
      | exact H.hp.ret (congrArg vi e4.symm)
      | exact H.hp.ret (congrArg vi e7.symm)
      | exact H.hp.ret (congrArg vi e13.symm)
      | exact H.hp.ret (congrArg vi e3.symm)
      | exact H.hp.ret (congrArg vi e6.symm)
      | exact H.hp.ret (congrArg vi (by rw [gu,jF,if_pos (by omega)]))
    intro eF a H
    try have p51:=dF eF
    refine kP H (SR fun _ bD=>Rf Bq rfl (Ro gB 0 rfl rfl ?_));clear H;intro a H;refine s_call F4 H wn rfl (Hw _ _ H.hp.ro x.name hs) rfl ?_;clear H;rintro v63 zC a w rfl hm63 H;refine kH H (Rn rfl (Ra rfl (Kz bD (Cd rfl ?_ ?_)))) <;> clear H bD
    ·intro fF a H
     try have p60:=dT fF
     refine aQ (fun _ bH=>?_)
     have e13:gu l k x=13:=by rw [gu,jF,if_neg (by omega),if_neg q1',if_neg q2',if_neg (by omega),if_pos (by simpa using fF)]
     refine kP H (SC (Ra rfl (Kn bH ?_)));clear H bH;intro a H;refine lr H Tryz.results86 rfl ?_
     first
      | exact H.hp.ret (congrArg vi e0.symm)
      | exact H.hp.ret (congrArg vi e4.symm)
      | exact H.hp.ret (congrArg vi e7.symm)
      | exact H.hp.ret (congrArg vi e13.symm)
      | exact H.hp.ret (congrArg vi e3.symm)
      | exact H.hp.ret (congrArg vi e6.symm)
      | exact H.hp.ret (congrArg vi (by rw [gu,jF,if_pos (by omega)]))
    intro fF a H
    try have p60:=dF fF
    refine eX ?_;refine ⟨zC,by exact (H).sub ⟨rfl,rfl,rfl,trivial⟩,?_⟩;exact ⟨by omega,q1',q2',by omega,by simpa using fF,fun b o h=>hm63 b o (jd b o (wX b o h))⟩
   intro gH a H
   try have p55:=dF gH
   refine kH H (Ks gH rfl (Ks gH rfl (Ks gH rfl (Pf gH rfl (Ra rfl (Kn aH (Cf rfl rfl (SR fun _ bG=>Rf Bq rfl (Ro gB 0 rfl rfl ?_)))))))));clear H aH;intro a H;refine s_call F4 H wn rfl (Hw _ _ H.hp.ro x.name hs) rfl ?_;clear H;rintro v63 zC a w rfl hm63 H;refine kH H (Rn rfl (Ra rfl (Kz bG (Cd rfl ?_ ?_)))) <;> clear H bG
   ·intro fF a H
    try have p60:=dT fF
    refine aQ (fun _ bV=>?_)
    have e13:gu l k x=13:=by rw [gu,jF,if_neg (by omega),if_neg q1',if_neg q2',if_neg (by omega),if_pos (by simpa using fF)]
    refine kP H (SC (Ra rfl (Kn bV ?_)));clear H bV;intro a H;refine lr H Tryz.results86 rfl ?_
    first
     | exact H.hp.ret (congrArg vi e0.symm)
     | exact H.hp.ret (congrArg vi e4.symm)
     | exact H.hp.ret (congrArg vi e7.symm)
     | exact H.hp.ret (congrArg vi e13.symm)
     | exact H.hp.ret (congrArg vi e3.symm)
     | exact H.hp.ret (congrArg vi e6.symm)
     | exact H.hp.ret (congrArg vi (by rw [gu,jF,if_pos (by omega)]))
   intro fF a H
   try have p60:=dF fF
   refine eX ?_;refine ⟨zC,by exact (H).sub ⟨rfl,rfl,rfl,trivial⟩,?_⟩;exact ⟨by omega,q1',q2',by omega,by simpa using fF,fun b o h=>hm63 b o (jd b o (wX b o h))⟩
  skip;refine dz (hmx) [[],[0],[0,1],[0,1,2],[0,1,2,3],[0,1,2],[0,1,2],[0,1,2,6],[0,1,2,5,6,7],[0,1,2,5,6,7,8],[0,1,2,5,6,7,8,9],(List.range 11),(List.range 12),(List.range 13)] [13] (by kernel_rfl) (by kernel_rfl) (fun (aC:Nat) (v:Value) (G:GH)=>match aC with|0=>v=vi k|1=>v=.bool (decide (0 < (k:Int)))|2=>v=.bool (decide (0 < (k:Int)))|3=>v=undef|4=>v=undef|5=>v=undef|6=>v=undef|7=>v=undef|8=>v=undef|9=>v=undef|10=>v=undef|11=>v=undef|12=>v=.bool false|_=>True) (fun _ _ _ _ _ h=>h) H ?_ ?_
  ·exact av (Z0 rfl (Rm rfl)) (Z1 0 24 rfl (Rc rfl)) (Z1 1 25 rfl (Rm rfl)) (aV (j:=2) (by kernel_rfl) (fun _ _ _ _ _ h=>h) rfl rfl rfl rfl rfl (fun _ _ h=>Eq.trans h (congrArg Value.bool (aL c0))) rfl (fun _=>rfl)) (av (aV (j:=2) (by kernel_rfl) (fun _ _ _ _ _ h=>h) rfl rfl rfl rfl rfl (fun _ _ h=>Eq.trans h (congrArg Value.bool (aL c0))) rfl (fun _=>rfl)) (aV (j:=2) (by kernel_rfl) (fun _ _ _ _ _ h=>h) rfl rfl rfl rfl rfl (fun _ _ h=>Eq.trans h (congrArg Value.bool (aL c0))) rfl (fun _=>rfl)) (aV (j:=2) (by kernel_rfl) (fun _ _ _ _ _ h=>h) rfl rfl rfl rfl rfl (fun _ _ h=>Eq.trans h (congrArg Value.bool (aL c0))) rfl (fun _=>rfl)) (aV (j:=2) (by kernel_rfl) (fun _ _ _ _ _ h=>h) rfl rfl rfl rfl rfl (fun _ _ h=>Eq.trans h (congrArg Value.bool (aL c0))) rfl (fun _=>rfl)) (av (aV (j:=2) (by kernel_rfl) (fun _ _ _ _ _ h=>h) rfl rfl rfl rfl rfl (fun _ _ h=>Eq.trans h (congrArg Value.bool (aL c0))) rfl (fun _=>rfl)) (aV (j:=2) (by kernel_rfl) (fun _ _ _ _ _ h=>h) rfl rfl rfl rfl rfl (fun _ _ h=>Eq.trans h (congrArg Value.bool (aL c0))) rfl (fun _=>rfl)) (aV (j:=2) (by kernel_rfl) (fun _ _ _ _ _ h=>h) rfl rfl rfl rfl rfl (fun _ _ h=>Eq.trans h (congrArg Value.bool (aL c0))) rfl (fun _=>rfl)) (aV (j:=2) (by kernel_rfl) (fun _ _ _ _ _ h=>h) rfl rfl rfl rfl rfl (fun _ _ h=>Eq.trans h (congrArg Value.bool (aL c0))) rfl (fun _=>rfl)) (bq (Z2 2 26 11 35 rfl (Pf (aL c0) rfl)) (bq (aT rfl) dh))))
  clear H;intro a w G wX H hv;have H:=H.aM (hv 12 36 rfl rfl) rfl;clear hv;refine kH H (Ra rfl ?_);clear H;intro a H;refine au ⟨rfl,?_⟩;refine K6 _ _ ?_;clear K6;refine mO H rfl rfl ?_;refine aQ (fun _ bQ=>?_)
  have q1:¬ (0 < (k:Int)∧x.id=pk):=by first|exact fun h=>c1 h.2|exact fun h=>c0 h.1
  have q1':¬ sZ l k=some x.id:=fun h=>q1 (by
   by_cases h0:0 < k
   ·rw [(hpk h0).2] at h
    injection h with h
    exact ⟨by omega,h.symm⟩
   rw [Ik (by omega)] at h
   cases h)
  refine dz (hmx) [[],[0],[0,1],[0,1,2],[0,1,2,3],[0,1,2],[0,1,2],[0,1,2,6],[0,1,2,5,6,7],[0,1,2,5,6,7,8],[0,1,2,5,6,7,8,9],(List.range 11),(List.range 12),(List.range 13)] [13] (by kernel_rfl) (by kernel_rfl) (fun (aC:Nat) (v:Value) (G:GH)=>match aC with|0=>v=vi k|1=>v=.bool (decide (0 < (k:Int)))|2=>v=.bool (decide (0 < (k:Int)))|3=>v=undef|4=>v=undef|5=>v=undef|6=>v=undef|7=>v=undef|8=>v=undef|9=>v=undef|10=>v=undef|11=>v=undef|12=>v=.bool false|_=>True) (fun _ _ _ _ _ h=>h) H ?_ ?_
  ·exact av (Z0 rfl (Rm rfl)) (Z1 0 38 rfl (Rc rfl)) (Z1 1 39 rfl (Rm rfl)) (aV (j:=2) (by kernel_rfl) (fun _ _ _ _ _ h=>h) rfl rfl rfl rfl rfl (fun _ _ h=>Eq.trans h (congrArg Value.bool (aL c0))) rfl (fun _=>rfl)) (av (aV (j:=2) (by kernel_rfl) (fun _ _ _ _ _ h=>h) rfl rfl rfl rfl rfl (fun _ _ h=>Eq.trans h (congrArg Value.bool (aL c0))) rfl (fun _=>rfl)) (aV (j:=2) (by kernel_rfl) (fun _ _ _ _ _ h=>h) rfl rfl rfl rfl rfl (fun _ _ h=>Eq.trans h (congrArg Value.bool (aL c0))) rfl (fun _=>rfl)) (aV (j:=2) (by kernel_rfl) (fun _ _ _ _ _ h=>h) rfl rfl rfl rfl rfl (fun _ _ h=>Eq.trans h (congrArg Value.bool (aL c0))) rfl (fun _=>rfl)) (aV (j:=2) (by kernel_rfl) (fun _ _ _ _ _ h=>h) rfl rfl rfl rfl rfl (fun _ _ h=>Eq.trans h (congrArg Value.bool (aL c0))) rfl (fun _=>rfl)) (av (aV (j:=2) (by kernel_rfl) (fun _ _ _ _ _ h=>h) rfl rfl rfl rfl rfl (fun _ _ h=>Eq.trans h (congrArg Value.bool (aL c0))) rfl (fun _=>rfl)) (aV (j:=2) (by kernel_rfl) (fun _ _ _ _ _ h=>h) rfl rfl rfl rfl rfl (fun _ _ h=>Eq.trans h (congrArg Value.bool (aL c0))) rfl (fun _=>rfl)) (aV (j:=2) (by kernel_rfl) (fun _ _ _ _ _ h=>h) rfl rfl rfl rfl rfl (fun _ _ h=>Eq.trans h (congrArg Value.bool (aL c0))) rfl (fun _=>rfl)) (aV (j:=2) (by kernel_rfl) (fun _ _ _ _ _ h=>h) rfl rfl rfl rfl rfl (fun _ _ h=>Eq.trans h (congrArg Value.bool (aL c0))) rfl (fun _=>rfl)) (bq (Z2 2 40 11 49 rfl (Pf (aL c0) rfl)) (bq (aT rfl) dh))))
  clear H;intro a w G jd H hv;have H:=H.aM (hv 12 50 rfl rfl) rfl;clear hv;refine kH H (Ra rfl ?_);clear H;intro a H;refine au ⟨rfl,?_⟩;refine bQ _ _ ?_;clear bQ;refine mO H rfl rfl ?_;refine aQ (fun _ bS=>?_)
  have q2:¬ (0 < (k:Int)∧x.id < pk):=by first|exact fun h=>c3 h.2|exact fun h=>c0 h.1
  have q2':¬ Cb (sZ l k) x.id=true:=fun h=>q2 (by
   by_cases h0:0 < k
   ·rw [(hpk h0).2] at h;exact ⟨by omega,of_decide_eq_true h⟩
   rw [Ik (by omega)] at h
   cases h)
  refine kP H (SC (Rf sP rfl (Ro ak 0 rfl rfl (Rc rfl (Rm rfl (Sp 55 rfl ?_ ?_)))))) <;> clear H
  ·intro gH a H
   try have p55:=dT gH
   refine kH H (YF sP gH rfl (YO ak 0 gH rfl rfl (YC gH rfl (Pt gH rfl (Ra rfl (Kn bS (Cd rfl ?_ ?_))))))) <;> clear H bS
   ·intro eF a H
    try have p51:=dT eF
    refine aQ (fun _ cO=>?_)
    have e3:gu l k x=3:=by rw [gu,jF,if_neg (by omega),if_neg q1',if_neg q2',if_pos (by omega)]
    refine kP H (SC (Ra rfl (Kn cO ?_)));clear H cO;intro a H;refine lr H Tryz.results86 rfl ?_
    first
     | exact H.hp.ret (congrArg vi e0.symm)
     | exact H.hp.ret (congrArg vi e4.symm)
     | exact H.hp.ret (congrArg vi e7.symm)
     | exact H.hp.ret (congrArg vi e13.symm)
     | exact H.hp.ret (congrArg vi e3.symm)
     | exact H.hp.ret (congrArg vi e6.symm)
     | exact H.hp.ret (congrArg vi (by rw [gu,jF,if_pos (by omega)]))
   intro eF a H
   try have p51:=dF eF
   refine kP H (SR fun _ dV=>Rf Bq rfl (Ro gB 0 rfl rfl ?_));clear H;intro a H;refine s_call F4 H wn rfl (Hw _ _ H.hp.ro x.name hs) rfl ?_;clear H;rintro v63 zC a w rfl hm63 H;refine kH H (Rn rfl (Ra rfl (Kz dV (Cd rfl ?_ ?_)))) <;> clear H dV
   ·intro fF a H
    try have p60:=dT fF
    refine aQ (fun _ dI=>?_)
    have e13:gu l k x=13:=by rw [gu,jF,if_neg (by omega),if_neg q1',if_neg q2',if_neg (by omega),if_pos (by simpa using fF)]
    refine kP H (SC (Ra rfl (Kn dI ?_)));clear H dI;intro a H;refine lr H Tryz.results86 rfl ?_
    first
     | exact H.hp.ret (congrArg vi e0.symm)
     | exact H.hp.ret (congrArg vi e4.symm)
     | exact H.hp.ret (congrArg vi e7.symm)
     | exact H.hp.ret (congrArg vi e13.symm)
     | exact H.hp.ret (congrArg vi e3.symm)
     | exact H.hp.ret (congrArg vi e6.symm)
     | exact H.hp.ret (congrArg vi (by rw [gu,jF,if_pos (by omega)]))
   intro fF a H
   try have p60:=dF fF
   refine eX ?_;refine ⟨zC,by exact (H).sub ⟨rfl,rfl,rfl,trivial⟩,?_⟩;exact ⟨by omega,q1',q2',by omega,by simpa using fF,fun b o h=>hm63 b o (jd b o (wX b o h))⟩
  intro gH a H
  try have p55:=dF gH
  refine kH H (Ks gH rfl (Ks gH rfl (Ks gH rfl (Pf gH rfl (Ra rfl (Kn bS (Cf rfl rfl (SR fun _ eH=>Rf Bq rfl (Ro gB 0 rfl rfl ?_)))))))));clear H bS;intro a H;refine s_call F4 H wn rfl (Hw _ _ H.hp.ro x.name hs) rfl ?_;clear H;rintro v63 zC a w rfl hm63 H;refine kH H (Rn rfl (Ra rfl (Kz eH (Cd rfl ?_ ?_)))) <;> clear H eH
  ·intro fF a H
   try have p60:=dT fF
   refine aQ (fun _ fq=>?_)
   have e13:gu l k x=13:=by rw [gu,jF,if_neg (by omega),if_neg q1',if_neg q2',if_neg (by omega),if_pos (by simpa using fF)]
   refine kP H (SC (Ra rfl (Kn fq ?_)));clear H fq;intro a H;refine lr H Tryz.results86 rfl ?_
   first
    | exact H.hp.ret (congrArg vi e0.symm)
    | exact H.hp.ret (congrArg vi e4.symm)
    | exact H.hp.ret (congrArg vi e7.symm)
    | exact H.hp.ret (congrArg vi e13.symm)
    | exact H.hp.ret (congrArg vi e3.symm)
    | exact H.hp.ret (congrArg vi e6.symm)
    | exact H.hp.ret (congrArg vi (by rw [gu,jF,if_pos (by omega)]))
  intro fF a H
  try have p60:=dF fF
  refine eX ?_;refine ⟨zC,by exact (H).sub ⟨rfl,rfl,rfl,trivial⟩,?_⟩;exact ⟨by omega,q1',q2',by omega,by simpa using fF,fun b o h=>hm63 b o (jd b o (wX b o h))⟩
 clear H;intro gh a w hI H;obtain ⟨g,hgh⟩:∃ x,x=gh:=⟨_,rfl⟩;subst hgh;obtain ⟨q0,q1',q2',q3,q4,hgm⟩:=hI;dsimp only [List.cons_append,List.nil_append,List.append_nil] at H;refine aQ (fun _ gK=>?_);refine aQ (fun _ gF=>?_);have RO:=(hv.mono hgm).pre k (by rw [List.length_map];omega);rw [← List.map_take] at RO;have abC:=hp.mono hgm;refine dz (hmx) [[],[],[0,1],[],[3],[],[5],(List.range 7),(List.range 8),(List.range 9),(List.range 9),(List.range 10),(List.range 12)] [12] (by kernel_rfl) (by kernel_rfl) (fun (aC:Nat) (v:Value) (G:GH)=>match aC with|0=>v=.slice (some ⟨b,o,none⟩) l.length c|1=>v=vi k|2=>v=.slice (some ⟨b,o,none⟩) k c|3=>v=.pointer (some ⟨b5,1,none⟩)|4=>v=vi x.kind|5=>v=.pointer (some ⟨b5,2,none⟩)|6=>v=.string x.name|7=>v=.tuple #[vi (max (kN (tX (l.take k) x.kind x.name)) 0),.bool (tX (l.take k) x.kind x.name).isSome]|8=>v=.tuple #[vi (max (kN (tX (l.take k) x.kind x.name)) 0),.bool (tX (l.take k) x.kind x.name).isSome]|9=>v=vi (max (kN (tX (l.take k) x.kind x.name)) 0)|10=>v=.bool (tX (l.take k) x.kind x.name).isSome|11=>v=vi (max (kN (tX (l.take k) x.kind x.name)) 0)|_=>True) (fun _ _ _ _ _ h=>h) H ?_ ?_
 ·clear H;refine av (Z0 rfl (Rm rfl)) (Z0 rfl (Rm rfl)) ?_ (Z0 rfl (Rf sP rfl)) (av (Z1 3 69 rfl (Ro ak 0 rfl rfl)) (Z0 rfl (Rf Bq rfl)) (Z1 5 71 rfl (Ro gB 0 rfl rfl)) ?_ (av (Z1 7 73 rfl (Rm rfl)) ?_ ?_ (Z1 9 74 rfl (Ra rfl)) (bq (aT rfl) dh)))
  ·refine dK 0 66 1 67 rfl rfl fun _ a w G1 hG HT H fin=>?_;refine Ua lD jf k H wn rfl rfl rfl (by omega) rfl ?_;clear H;intro a H;exact fin H iJ rfl
  ·refine wK 2 68 4 70 6 72 rfl rfl fun _ a w G1 hG HT H fin=>?_;refine s_call Yc H wn rfl (aal _ _ H.hp.ro (l.take k) x.kind x.name _ (RO.mono hG)) rfl ?_;clear H;rintro v73 VH a w rfl aaI H;exact fin H aaI (rfl)
  ·refine dS 8 65 rfl rfl fun _ a w G1 hG HT H fin=>?_;refine gV H wn rfl rfl rfl ?_;clear H;intro a H;exact fin H iJ rfl
  refine dS 8 65 rfl rfl fun _ a w G1 hG HT H fin=>?_;refine gV H wn rfl rfl rfl ?_;clear H;intro a H;exact fin H iJ rfl
 clear H;intro a w G nK H hv;have H:=H.aM (hv 10 75 rfl rfl) rfl;clear hv;refine kH H (Ra rfl ?_);clear H;intro a H;refine au ⟨rfl,?_⟩;refine gF _ _ ?_;clear gF;refine kP H (SR fun _ fO=>Rm rfl (Kz fO (Cd rfl ?_ ?_))) <;> clear H fO
 ·intro Ed a H
  try have p76:=dT Ed
  refine aQ (fun _ iF=>?_)
  have e7:gu l k x=7:=by rw [gu,jF,if_neg (by omega),if_neg q1',if_neg q2',if_neg q3,if_neg q4,if_pos Ed]
  refine kP H (SC (Ra rfl (Kn iF ?_)));clear H iF;intro a H;refine lr H Tryz.results86 rfl ?_
  first
   | exact H.hp.ret (congrArg vi e0.symm)
   | exact H.hp.ret (congrArg vi e4.symm)
   | exact H.hp.ret (congrArg vi e7.symm)
   | exact H.hp.ret (congrArg vi e13.symm)
   | exact H.hp.ret (congrArg vi e3.symm)
   | exact H.hp.ret (congrArg vi e6.symm)
   | exact H.hp.ret (congrArg vi (by rw [gu,jF,if_pos (by omega)]))
 intro Ed a H
 try have p76:=dF Ed
 refine kP H (Kc gK (SQ fun _ iT=>SQ fun _ gL=>?_));clear H gK;intro a H
 have q5:¬ (tX (l.take k) x.kind x.name).isSome=true:=by simpa using Ed
 have yX:=abC.mono nK;refine kP H (SC (Rf Qm rfl (Ro CF 0 rfl rfl (Rl qP rfl (Rm rfl (Kn gL (SB ?_)))))));clear H gL;intro a H;skip;refine d9 (ι:=Nat) (Tc:=[(5,_),(78,_),(79,_)]) (Lc:=[(_,_)]) (fun (gh:Nat)=>[(80,vi gh)]) (fun (gh:Nat)=>[]) (fun (gh:Nat)=>G) (fun (gh:Nat)=>gh≤x.props.length∧(x.props.take gh).any (fun p=>Bc p.key)=false) (fun (gh:Nat)=>x.props.length - gh) (0) (by exact (H).sub ⟨rfl,rfl,rfl,rfl,trivial⟩) ?_ ?_
 ·exact ⟨Nat.zero_le _,rfl⟩
 clear H;intro gh a w hI H;obtain ⟨n,hgh⟩:∃ x,x=gh:=⟨_,rfl⟩;subst hgh;obtain ⟨hn,hno⟩:=hI;dsimp only [List.cons_append,List.nil_append,List.append_nil] at H;refine kP H (SR fun _ jG=>Rc rfl (Kz jG (SQ fun _ jV=>Cd rfl ?_ ?_))) <;> clear H jG
 ·intro KI a H
  try have p81:=dT KI
  have hn2:n < x.props.length:=by omega
  obtain ⟨pb,po,rfl,hrow2⟩:=Il yX hn2;have hrow:=hrow2;refine kP H (Kc jV (SQ fun _ kV=>SB (SR fun _ kE=>Ri qP nu rfl rfl ?_)));clear H jV;intro a H;refine aK nu (cs:=[_,_]) H wn rfl rfl (fun j v hj=>H.hp.aB (hrow j v hj)) rfl ?_;clear H;intro a H;refine bX nu H wn rfl ?_;clear H;intro b9 a w rH H;refine aP nu 0 (vs:=[_,_]) _ H wn rfl rfl rfl rfl rfl rfl rfl rfl ?_;clear H;intro w H;dsimp only [List.set,setRow] at H;refine kE _ _ ?_;clear kE;refine kP H (SR fun _ ko=>Rf qZ rfl (Ro ak 0 rfl rfl (Rc rfl (Rm rfl (Sp 87 rfl ?_ ?_))))) <;> clear H
  ·intro h87 a H
   try have M8:=dT h87
   refine kH H (Ks h87 rfl (Ks h87 rfl (Ks h87 rfl (Pt h87 rfl (Kz ko (Ct rfl rfl (SQ fun _ nD=>?_)))))));clear H ko;intro a H
   have e4:gu l k x=4:=by
    rw [gu,jF,if_neg (by omega),if_neg q1',if_neg q2',if_neg q3,if_neg q4,if_neg q5,if_pos];rw [List.any_eq_true];exact ⟨x.props[n],List.getElem_mem hn2,by simp [Bc];omega⟩
   refine kP H (SC (Ra rfl (Kn nD ?_)));clear H nD;intro a H;refine lr H Tryz.results86 rfl ?_
   first
    | exact H.hp.ret (congrArg vi e0.symm)
    | exact H.hp.ret (congrArg vi e4.symm)
    | exact H.hp.ret (congrArg vi e7.symm)
    | exact H.hp.ret (congrArg vi e13.symm)
    | exact H.hp.ret (congrArg vi e3.symm)
    | exact H.hp.ret (congrArg vi e6.symm)
    | exact H.hp.ret (congrArg vi (by rw [gu,jF,if_pos (by omega)]))
  intro h87 a H
  try have M8:=dF h87
  refine kH H (YF qZ h87 rfl (YO ak 0 h87 rfl rfl (YC h87 rfl (Pf h87 rfl (Kz ko (Cd rfl ?_ ?_)))))) <;> clear H ko
  ·intro KL a H
   try have p91:=dT KL
   refine aQ (fun _ oM=>?_)
   have e4:gu l k x=4:=by
    rw [gu,jF,if_neg (by omega),if_neg q1',if_neg q2',if_neg q3,if_neg q4,if_neg q5,if_pos];rw [List.any_eq_true];exact ⟨x.props[n],List.getElem_mem hn2,by simp [Bc];omega⟩
   refine kP H (SC (Ra rfl (Kn oM ?_)));clear H oM;intro a H;refine lr H Tryz.results86 rfl ?_
   first
    | exact H.hp.ret (congrArg vi e0.symm)
    | exact H.hp.ret (congrArg vi e4.symm)
    | exact H.hp.ret (congrArg vi e7.symm)
    | exact H.hp.ret (congrArg vi e13.symm)
    | exact H.hp.ret (congrArg vi e3.symm)
    | exact H.hp.ret (congrArg vi e6.symm)
    | exact H.hp.ret (congrArg vi (by rw [gu,jF,if_pos (by omega)]))
  intro KL a H
  try have p91:=dF KL
  refine kP H (Kc kV (SC (Rd rfl (Rm rfl ?_))));clear H kV;intro a H;refine au ?_;refine dD ((n+1)) (by exact (H.bL (Pl:=[_,_]) (bB:=[_]) [1] (by decide) rfl).sub ⟨rfl,rfl,rfl,rfl,trivial⟩) ?_ ?_
  ·exact ⟨by omega,by rw [List.take_succ_eq_append_getElem hn2,List.any_append,hno];simp [Bc];omega⟩
  first|omega|(dsimp only;omega)
 intro KI a H
 try have p81:=dF KI
 refine dL ?_;refine iT _ _ ?_;clear iT;refine aQ (fun _ mH=>?_)
 have q6:¬ x.props.any (fun p=>Bc p.key)=true:=by
  rw [show x.props.take n=x.props from List.take_of_length_le (by omega)] at hno;rw [hno];decide
 have e0:gu l k x=fD (if x.kind=1 then 2 else 1) x.props:=by rw [gu,jF,if_neg (by omega),if_neg q1',if_neg q2',if_neg q3,if_neg q4,if_neg q5,if_neg q6]
 refine dz (hmx) [[],[0],[0,1],[],[3],[0,1,2,3,4],[0,1,2,3,4,5]] [5,6] (by kernel_rfl) (by kernel_rfl) (fun (aC:Nat) (v:Value) (G:GH)=>match aC with|0=>v=.pointer (some ⟨b5,1,none⟩)|1=>v=vi x.kind|2=>v=vi (if x.kind=1 then 2 else 1)|3=>v=.pointer (some ⟨b5,5,none⟩)|4=>v=.slice pA x.props.length pc|_=>True) (fun _ _ _ _ _ h=>h) H ?_ ?_
 ·clear H;refine av (Z0 rfl (Rf sP rfl)) (Z1 0 93 rfl (Ro ak 0 rfl rfl)) ?_ (Z0 rfl (Rf Qm rfl)) (bq (Z1 3 96 rfl (Ro CF 0 rfl rfl)) (bq (aT rfl) (bq (aT rfl) dh)))
  refine dS 1 94 rfl rfl fun _ a w G1 hG HT H fin=>?_;refine s_call Yd H wn rfl (XZ _ _ H.hp.ro x.kind) rfl ?_;clear H;rintro v95 G95 a w rfl aaJ H;exact fin H aaJ (rfl)
 clear H;intro a w G BF H hv;have H:=H.aM (hv 2 95 rfl rfl) rfl;have H:=H.aM (hv 4 97 rfl rfl) rfl;clear hv;refine s_call P9 H wn rfl (TF _ _ H.hp.ro _ x.props _ (yX.mono BF)) rfl ?_;clear H;rintro v98 G98 a w rfl agl H;refine kH H (Ra rfl ?_);clear H;intro a H;refine au ⟨rfl,?_⟩;refine mH _ _ ?_;clear mH;refine lr H Tryz.results86 rfl ?_
 first
  | exact H.hp.ret (congrArg vi e0.symm)
  | exact H.hp.ret (congrArg vi e4.symm)
  | exact H.hp.ret (congrArg vi e7.symm)
  | exact H.hp.ret (congrArg vi e13.symm)
  | exact H.hp.ret (congrArg vi e3.symm)
  | exact H.hp.ret (congrArg vi e6.symm)
  | exact H.hp.ret (congrArg vi (by rw [gu,jF,if_pos (by omega)]))
end
section
open Go.RowKit
theorem CK:Ty Tryz.prog 33 1 24 [.slice none 0 0] false:=⟨by kernel_rfl,by kernel_rfl⟩
theorem AA:Tryz.prog.underlying 33=some (.slice 170):=by kernel_rfl
theorem zk:Ty Tryz.prog 170 6 64 [.int .i64 0,.int .i64 0,.string ⟨#[]⟩,.int .i64 0,.string ⟨#[]⟩,.bool false] true:=⟨by kernel_rfl,by kernel_rfl⟩
theorem Qq:bO Tryz.prog 170 0 0:=⟨by kernel_rfl⟩
theorem Qr:bO Tryz.prog 170 1 1:=⟨by kernel_rfl⟩
theorem Yg:∀ args w,(callFunc 119 args).run Tryz.prog w=.ok (.enter 119 args) w:=enters Tryz.func119 rfl (by kernel_rfl)
theorem Zw:∀ args w,(callFunc 93 args).run Tryz.prog w=.ok (.enter 93 args) w:=enters Tryz.func93 rfl (by kernel_rfl)
theorem ZX:bO Tryz.prog 170 2 2:=⟨by kernel_rfl⟩
theorem P8:∀ args w,(callFunc 67 args).run Tryz.prog w=.ok (.enter 67 args) w:=enters Tryz.func67 rfl (by kernel_rfl)
theorem ZY:bO Tryz.prog 170 3 3:=⟨by kernel_rfl⟩
theorem Z4:bO Tryz.prog 170 4 4:=⟨by kernel_rfl⟩
theorem Kh:∀ args w,(callFunc 96 args).run Tryz.prog w=.ok (.enter 96 args) w:=enters Tryz.func96 rfl (by kernel_rfl)
theorem Zy:∀ args w,(callFunc 95 args).run Tryz.prog w=.ok (.enter 95 args) w:=enters Tryz.func95 rfl (by kernel_rfl)
theorem Zx:∀ args w,(callFunc 94 args).run Tryz.prog w=.ok (.enter 94 args) w:=enters Tryz.func94 rfl (by kernel_rfl)
theorem Zv:∀ args w,(callFunc 92 args).run Tryz.prog w=.ok (.enter 92 args) w:=enters Tryz.func92 rfl (by kernel_rfl)
theorem Ac {G:GH} {b:Nat} (l:List Int) (h:G b=some (.cells (l.map vi).toArray 46 (0,0))) (hl:l.length≤maxLen):ah G (.sl 1 (l.map fun k=>[li k])) (.slice (some ⟨b,0,none⟩) l.length l.length) :=
 ah.dG h (by simp) (Nat.le_refl _) hl (List.take_of_length_le (by simp)) (dP G l)
theorem JM {G:GH} {l:List gD} {A:Option Addr} {n c k:Nat} (hv:ah G (.sl 6 (l.map gD.dat)) (.slice A n c)) (hk:k < l.length):∃ b o,A=some ⟨b,o,none⟩∧(∀ j u,l[k].cells[j]?=some u→aB G b (o+k*6+j)=some u)∧aO G l[k].dat l[k].cells:=by
 obtain ⟨A',c',he,_,_,hg⟩:=hv.slice
 injection he with e1 e2 e3
 subst e1;obtain ⟨b,o,cs,h1,h2,h3,h4⟩:=hg k l[k].dat (by simp [hk]);have:=Pq h4;subst this;exact ⟨b,o,h1,h3,h4⟩
theorem Xt {G:GH} {bl:Nat} {l:List gD} {A:Option Addr} {n c:Nat} (hb:aB G bl 0=some (.slice A n c)) (hv:ah G (.sl 6 (l.map gD.dat)) (.slice A n c)):oL (.func (.func 95) #[] #[.pointer (some ⟨bl,0,none⟩)]) G l.length fun k=>(l[k]?.map gD.id).getD 0:=by
 intro k hk G1 w0 hm hG;refine jI (caps:=[.pointer (some ⟨bl,0,none⟩)]) Zy ?_;replace hb:=aD hm hb
 obtain rfl:n=l.length:=by have:=hv.len;simpa using this
 obtain ⟨b,o,rfl,hrow,-⟩:=JM (hv.mono hm) hk;have hq:=hrow 0 _ rfl;refine eN [(0,_),(1,_)] Tryz.func95 rfl Tryz.ntmps95 rfl rfl hG ?_;intro a H;refine kP H (SR fun _ K1=>Ra rfl (Kz K1 (SR fun _ K2=>Rg CK rfl (by assumption) ?_)));clear H K1;intro a H;refine kH H (Rm rfl (Ri AA zk rfl rfl (Rf Qq rfl (Rg ak rfl (by assumption) ?_))));clear H;intro a H;exact kH H (Ra rfl (Kz K2 (LR Tryz.results95 rfl fun H=>H.hp.ret (by dsimp only;rw [List.getElem?_eq_getElem hk];rfl))))
theorem Xv {G:GH} {bc:Nat} {x:gD} (hb:aB G bc 1=some (vi x.parent)) (y:gD):pG (.func (.func 94) #[] #[.pointer (some ⟨bc,0,none⟩)]) G y.dat (decide (y.id=x.parent)):=by
 intro G1 w0 cs hm hG hr;refine jI (caps:=[.pointer (some ⟨bc,0,none⟩)]) Zx ?_;obtain rfl:=Pq hr;replace hb:=aD hm hb;refine eN [(0,_),(1,_)] Tryz.func94 rfl Tryz.ntmps94 rfl rfl hG ?_;intro a H;refine aY (fun _ K1=>?_);refine bY (cs:=[_,_,_,_,_,_]) H wn rfl rfl rfl ?_;clear H;intro b2 a w hb2 H;refine kH H (Ra rfl (Kz K1 (SR fun _ K2=>Rf Qq rfl (Ro ak 0 rfl rfl (Rf Qr rfl (Rg ak rfl (by assumption) ?_))))));clear H K1;intro a H;exact kH H (Rc rfl (Ra rfl (Kz K2 (LR Tryz.results94 rfl fun H=>H.hp.ret rfl))))
theorem ab1 (G:GH) (w0:World) (hG:Hold G w0) (l:List gD) (p:gD→Bool) (v fv:Value) (hv:ah G (.sl 6 (l.map gD.dat)) v) (hf:∀ x∈l,pG fv G x.dat (p x)) :
  Calls Tryz.prog 119 #[v,fv] w0 (aU w0 G fun u G'=>u=vi (kN (l.findIdx? p))):=by
 obtain ⟨A,c,rfl,hc1,hc2,hg⟩:=hv.slice;have hml:maxLen=9223372036854775807:=rfl;rw [List.length_map] at *;refine eN [(0,_),(1,_)] Tryz.func119 rfl Tryz.ntmps119 rfl rfl hG ?_;intro a H;refine kP H (SR fun _ K1=>Ra rfl (Kz K1 (SQ fun _ K2=>SR fun _ K3=>Rm rfl (Rl AA rfl (Rm rfl (Kz K3 (SB ?_)))))));clear H K1 K3;intro a H;skip;refine d9 (ι:=Nat × GH) (Tc:=[(0,_),(1,_),(7,_)]) (Lc:=[]) (fun (gh:Nat × GH)=>[(8,vi gh.1)]) (fun (gh:Nat × GH)=>[]) (fun (gh:Nat × GH)=>gh.2) (fun (gh:Nat × GH)=>gh.1≤l.length∧(l.take gh.1).findIdx? p=none∧(∀ b o,G b=some o→gh.2 b=some o)) (fun (gh:Nat × GH)=>l.length - gh.1) ((0,G)) (by exact (H).sub ⟨rfl,rfl,rfl,rfl,trivial⟩) ?_ ?_
 ·exact ⟨by omega,rfl,fun _ _ h=>h⟩
 clear H;intro gh a w hI H;obtain ⟨k,g⟩:=gh;dsimp only at hI H;obtain ⟨hk,hno,hgm⟩:=hI;dsimp only [List.cons_append,List.nil_append,List.append_nil] at H;refine kP H (SR fun _ K4=>Rc rfl (Kz K4 (SQ fun _ K5=>Cd rfl ?_ ?_))) <;> clear H K4
 ·intro h9 a H
  try have p9:=dT h9
  have hk2:k < l.length:=by omega
  obtain ⟨b,o,rfl,hrow,hrep⟩:=JM hv hk2;refine kP H (Kc K5 (SQ fun _ K6=>SB (SR fun _ K7=>Rm rfl (Ra rfl (Kz K7 (SR fun _ K8=>Rm rfl (Rm rfl (Rm rfl (Ri AA zk rfl rfl ?_)))))))));clear H K5 K7;intro a H;refine aK zk (cs:=l[k].cells) H wn rfl rfl (fun j v hj=>H.hp.aB (aD hgm (hrow j v hj))) rfl ?_;clear H;intro a H;refine ng H wn rfl rfl (hf _ (List.getElem_mem hk2) _ _ _ hgm H.hp.ro (hrep.mono hgm)) rfl ?_;clear H;rintro v16 ql a w rfl nL H;refine K8 _ _ ?_;clear K8;refine l6 H rfl ?_ ?_
  ·intro h16
   try have p16:=dT h16
   refine kP H (SR fun _ K9=>Rm rfl (Ra rfl (Kz K9 ?_)));clear H K9;intro a H;refine lr H Tryz.results119 rfl ?_
   first
    | exact H.hp.ret (by rw [qK hk2 hno h16];rfl)
    | exact H.hp.ret (by rw [show l.take k=l from List.take_of_length_le (by omega)] at hno;rw [hno];rfl)
  intro h16
  try have p16:=dF h16
  refine kP H (Kc K6 (SC (Rd rfl (Rm rfl ?_))));clear H K6;intro a H;refine au ?_;refine dD ((k+1,ql)) (by exact (H).sub ⟨rfl,rfl,rfl,rfl,trivial⟩) ?_ ?_
  ·(try dsimp only);exact ⟨by omega,yZ hk2 hno h16,fun b o h=>nL b o (hgm b o h)⟩
  first|omega|(dsimp only;omega)
 intro h9 a H
 try have p9:=dF h9
 refine dL ?_;refine K2 _ _ ?_;clear K2;refine kP H (SR fun _ aH=>Ra rfl (Kz aH ?_));clear H aH;intro a H;refine lr H Tryz.results119 rfl ?_
 first
  | exact H.hp.ret (by rw [qK hk2 hno h16];rfl)
  | exact H.hp.ret (by rw [show l.take k=l from List.take_of_length_le (by omega)] at hno;rw [hno];rfl)
theorem Xx (G:GH) (w0:World) (hG:Hold G w0) (l:List gD) (p:gD→Bool) (v fv:Value) (hv:ah G (.sl 6 (l.map gD.dat)) v) (hf:∀ x∈l,pG fv G x.dat (p x)) :
  Calls Tryz.prog 93 #[v,fv] w0 (aU w0 G fun u G'=>u=.bool (l.findIdx? p).isSome):=by
 obtain ⟨A,c,rfl,hc1,hc2,-⟩:=hv.slice;rw [List.length_map] at *;refine eN [(0,_),(1,_)] Tryz.func93 rfl Tryz.ntmps93 rfl rfl hG ?_;intro a H;refine kP H (SR fun _ K1=>Ra rfl (Kz K1 (SR fun _ K2=>Rm rfl (Rm rfl ?_))));clear H K1;intro a H;refine s_call Yg H wn rfl (ab1 _ _ H.hp.ro l p _ _ hv hf) rfl ?_;clear H;rintro v7 G7 a w rfl xC H;exact kH H (Rc rfl (Ra rfl (Kz K2 (LR Tryz.results93 rfl fun H=>H.hp.ret (congrArg Value.bool (MO _))))))
/-- Whether what a comment answers stands before it. -/
def Bd (l:List gD) (i:Nat) (x:gD):Bool:=decide (x.parent=0) || ((l.take i).findIdx? fun y=>decide (y.id=x.parent)).isSome
def JL (l:List gD) (i:Nat) (x:gD):Int:=cu [mo (fun k=>(l[k]?.map gD.id).getD 0) i,bJ (!Bd l i x) 8,bJ (!qw x.author) 39,bJ (!decide (0≤x.time∧x.time≤1099511627776)) 40,xX x.text]
def Bj (l:List gD) (i:Nat):Int:=match l[i]? with|some x=>JL l i x|none=>0
theorem Xr {G:GH} {bl:Nat} {l:List gD} {A:Option Addr} {n c:Nat} (hb:aB G bl 0=some (.slice A n c)) (hv:ah G (.sl 6 (l.map gD.dat)) (.slice A n c)) (hl:l.length≤4294967296) (ht:∀ x∈l,x.author.size < 4611686018427387904∧x.text.size < 4611686018427387904):oL (.func (.func 92) #[] #[.pointer (some ⟨bl,0,none⟩)]) G l.length (Bj l):=by
 intro k hk G1 w0 hm hG;refine jI (caps:=[.pointer (some ⟨bl,0,none⟩)]) Zv ?_;replace hb:=aD hm hb;replace hv:=hv.mono hm;have hcb:=Xt hb hv;obtain ⟨_,_,hee,hvc,-,-⟩:=hv.slice
 injection hee with _ _ hcc
 subst hcc;rw [List.length_map] at hvc
 obtain rfl:n=l.length:=by have:=hv.len;simpa using this
 obtain ⟨b,o,rfl,hrow,hrep⟩:=JM hv hk;have hte:=ht _ (List.getElem_mem hk);obtain ⟨x,hx⟩:∃ x,x=l[k]:=⟨_,rfl⟩;rw [← hx] at hrow hte
 have he:Bj l k=JL l k x:=by unfold Bj;rw [List.getElem?_eq_getElem hk,hx]
 refine eN [(0,_),(1,_)] Tryz.func92 rfl Tryz.ntmps92 rfl rfl hG ?_;intro a H;refine kP H (SR fun _ K1=>Ra rfl (Kz K1 (SR fun _ K2=>Rg CK rfl (by assumption) ?_)));clear H K1;intro a H;refine kH H (Rm rfl (Ri AA zk rfl rfl ?_));clear H;intro a H;refine aK zk (cs:=x.cells) H wn rfl rfl (fun j v hj=>H.hp.aB (hrow j v hj)) rfl ?_;clear H;intro a H;refine bX zk H wn rfl ?_;clear H;intro b4 a w hb4 H;refine aP zk 0 (vs:=[_,_,_,_,_,_]) _ H wn rfl rfl rfl rfl rfl rfl rfl rfl ?_;clear H;intro w H;dsimp only [List.set,setRow] at H;obtain ⟨Ga,hma,uo,H⟩:=H.dB
 have hcell:∀ (j:Nat) (u:Value),x.cells[j]?=some u→aB Ga b4 j=some u:=fun j u hj=>by unfold aB;rw [uo];simpa using hj
 have q1:=hcell 1 _ rfl;have hbA:=aD hma hb;have RQ:=(hv.mono hma).pre k (by rw [List.length_map];omega);rw [← List.map_take] at RQ;refine K2 _ _ ?_;clear K2;refine qW (ι:=Bool × GH) (Tc:=[(0,_),(1,_),(4,_)]) (Lc:=[]) (fun (gh:Bool × GH)=>[(5,.bool gh.1)]) (fun (gh:Bool × GH)=>[]) (fun (gh:Bool × GH)=>gh.2) (fun (gh:Bool × GH)=>gh.1=Bd l k x∧(∀ b o,Ga b=some o→gh.2 b=some o)) (by exact (H).sub ⟨rfl,rfl,rfl,trivial⟩) ?_ ?_
 ·skip;refine kP H (SC (Rf Qr rfl (Rg ak rfl (by assumption) ?_)));clear H;intro a H;refine kH H (Rc rfl (Rm rfl (Sp 13 rfl ?_ ?_))) <;> clear H
  ·intro eO a H
   try have nM:=dT eO
   refine kH H (Ks eO rfl (Ks eO rfl (Ks eO rfl (Ks eO rfl (Ks eO rfl (Pt eO rfl (Ra rfl ?_)))))));clear H;intro a H;refine au ?_;refine ⟨(_,_),by exact (H).sub ⟨rfl,rfl,rfl,rfl,trivial⟩,?_⟩;(try dsimp only)
   first
   | exact ⟨by unfold Bd;rw [decide_eq_true (by assumption)];rfl,fun _ _ h=>h⟩
   | exact ⟨by unfold Bd;rw [decide_eq_false (by assumption)];rfl,hm18⟩
  intro eO a H
  try have nM:=dF eO
  refine kH H (YR CK eO rfl (by assumption) ?_);clear H;intro a H;refine kH H (YM eO rfl ?_);clear H;intro a H;refine Ua AA zk k H (wg H rfl rfl eO) rfl rfl rfl (by omega) rfl ?_;clear H;intro a H;refine lT H (wg H rfl rfl eO) rfl rfl ?_;clear H;intro a H;refine s_call Zw H (wg H rfl rfl eO) rfl (Xx _ _ H.hp.ro (l.take k) (fun y=>decide (y.id=x.parent)) _ _ RQ (fun y _=>Xv q1 y)) rfl ?_;clear H;rintro v18 Jc a w rfl hm18 H;refine kH H (Pf eO rfl (Ra rfl ?_));clear H;intro a H;refine au ?_;refine ⟨(_,_),by exact (H).sub ⟨rfl,rfl,rfl,rfl,trivial⟩,?_⟩;(try dsimp only)
  first
  | exact ⟨by unfold Bd;rw [decide_eq_true (by assumption)];rfl,fun _ _ h=>h⟩
  | exact ⟨by unfold Bd;rw [decide_eq_false (by assumption)];rfl,hm18⟩
 clear H;intro gh a w hI H;obtain ⟨bf,g⟩:=gh;dsimp only at hI H;obtain ⟨hbf,hgm⟩:=hI;replace hcell:=fun j u hj=>aD hgm (hcell j u hj);replace hcb:=(hcb.mono hma).mono hgm;dsimp only [List.cons_append,List.nil_append,List.append_nil] at H;refine aQ (fun _ K3=>?_);have H:=H.sub (T':=[(0,_),(1,_),(4,_),(5,_)]) ⟨rfl,rfl,rfl,rfl,trivial⟩;refine dz (hmx) [[],[],[0,1],[],[3],[0,1,2,3,4],[],[6],(List.range 8),(List.range 9),(List.range 10),[],[11],(List.range 13),(List.range 14),(List.range 15),[],[16],(List.range 18),(List.range 19),(List.range 20),(List.range 21)] [19,20,21] (by kernel_rfl) (by kernel_rfl) (fun (aC:Nat) (v:Value) (G:GH)=>match aC with|0=>v=vi k|1=>v=.func (.func 95) #[] #[.pointer (some ⟨bl,0,none⟩)]|2=>v=vi (mo (fun k=>(l[k]?.map gD.id).getD 0) k)|3=>v=.bool bf|4=>v=.bool (!bf)|5=>v=vi (bJ (!bf) 8)|6=>v=.pointer (some ⟨b4,2,none⟩)|7=>v=.string x.author|8=>v=.bool (qw x.author)|9=>v=.bool (!qw x.author)|10=>v=vi (bJ (!qw x.author) 39)|11=>v=.pointer (some ⟨b4,3,none⟩)|12=>v=vi x.time|13=>v=.bool (decide (0≤x.time∧x.time≤1099511627776))|14=>v=.bool (!decide (0≤x.time∧x.time≤1099511627776))|15=>v=vi (bJ (!decide (0≤x.time∧x.time≤1099511627776)) 40)|16=>v=.pointer (some ⟨b4,4,none⟩)|17=>v=.string x.text|18=>v=vi (xX x.text)|_=>True) (fun _ _ _ _ _ h=>h) H ?_ ?_
 ·clear H;refine av (Z0 rfl (Rm rfl)) ?_ ?_ (Z0 rfl (Rm rfl)) (av (Z1 3 23 rfl (Rn rfl)) ?_ (Z0 rfl (Rf ZX rfl)) (X1 6 26 rfl fun hG=>Rg gB rfl (aD hG (hcell 2 _ rfl))) (av ?_ (Z1 8 28 rfl (Rn rfl)) ?_ (Z0 rfl (Rf ZY rfl)) (av (X1 11 31 rfl fun hG=>Rg ak rfl (aD hG (hcell 3 _ rfl))) ?_ (Z1 13 33 rfl (Rn rfl)) ?_ (av (Z0 rfl (Rf Z4 rfl)) (X1 16 36 rfl fun hG=>Rg gB rfl (aD hG (hcell 4 _ rfl))) ?_ (aT rfl) (bq (aT rfl) (bq (aT rfl) dh))))))
  ·refine wJ rfl fun _ a w G1 hG HT H fin=>?_;refine lT H wn rfl rfl ?_;clear H;intro a H;exact fin H iJ rfl
  ·refine dK 0 20 1 21 rfl rfl fun _ a w G1 hG HT H fin=>?_;refine s_call J9 H wn rfl (MK _ _ H.hp.ro k _ _ (by omega) (fun i hi=>(hcb.mono hG) i (by omega))) rfl ?_;clear H;rintro v22 Vu a w rfl KQ H;exact fin H KQ (rfl)
  ·refine dS 4 24 rfl rfl fun _ a w G1 hG HT H fin=>?_;refine s_call gX H wn rfl (iy _ _ H.hp.ro _ 8) rfl ?_;clear H;rintro v25 Oa a w ⟨rfl,-⟩ aaB H;exact fin H aaB (rfl)
  ·refine dS 7 27 rfl rfl fun _ a w G1 hG HT H fin=>?_;refine s_call P8 H wn rfl (OW _ _ H.hp.ro x.author hte.1) rfl ?_;clear H;rintro v28 Vv a w ⟨rfl,-⟩ aaC H;exact fin H aaC (rfl)
  ·refine dS 9 29 rfl rfl fun _ a w G1 hG HT H fin=>?_;refine s_call gX H wn rfl (iy _ _ H.hp.ro _ 39) rfl ?_;clear H;rintro v30 wF a w ⟨rfl,-⟩ KT H;exact fin H KT (rfl)
  ·refine dS 12 32 rfl rfl fun _ a w G1 hG HT H fin=>?_;refine s_call qY H wn rfl (rV _ _ H.hp.ro x.time 0 1099511627776) rfl ?_;clear H;rintro v33 G33 a w ⟨rfl,-⟩ aaD H;exact fin H aaD (rfl)
  ·refine dS 14 34 rfl rfl fun _ a w G1 hG HT H fin=>?_;refine s_call gX H wn rfl (iy _ _ H.hp.ro _ 40) rfl ?_;clear H;rintro v35 Fq a w ⟨rfl,-⟩ KU H;exact fin H KU (rfl)
  refine dS 17 37 rfl rfl fun _ a w G1 hG HT H fin=>?_;refine s_call Kh H wn rfl (NH _ _ H.hp.ro x.text hte.2) rfl ?_;clear H;rintro v38 Ob a w rfl aaE H;exact fin H aaE (rfl)
 clear H;intro a w G KS H hv;have H:=H.aM (hv 2 22 rfl rfl) rfl;have H:=H.aM (hv 5 25 rfl rfl) rfl;have H:=H.aM (hv 10 30 rfl rfl) rfl;have H:=H.aM (hv 15 35 rfl rfl) rfl;have H:=H.aM (hv 18 38 rfl rfl) rfl;clear hv;refine fM lU dQ [_,_,_,_,_] [_,_,_,_,_] H wn rfl rfl rfl rfl rfl (by intro i q h;match i,h with|0,h=>exact h|1,h=>exact h|2,h=>exact h|3,h=>exact h|4,h=>exact h|n+5,h=>simp at h) rfl rfl ?_;clear H;intro b39 a w af5 H;obtain ⟨G39,agh,aaV,H⟩:=H.dB;refine s_call mR H wn rfl (mU _ _ H.hp.ro _ _ (Ac [mo (fun k=>(l[k]?.map gD.id).getD 0) k,bJ (!bf) 8,bJ (!qw x.author) 39,bJ (!decide (0≤x.time∧x.time≤1099511627776)) 40,xX x.text] aaV (show 5≤maxLen by decide))) rfl ?_;clear H;rintro v40 _ a w ⟨rfl,rfl⟩ - H;refine kH H (Ra rfl ?_);clear H;intro a H;refine au ⟨rfl,?_⟩;refine K3 _ _ ?_;clear K3;refine lr H Tryz.results92 rfl ?_;exact H.hp.ret (by rw [he,JL,← hbf])
def FK (l:List gD):Int:=cu [bJ (decide (1024 < (l.length:Int))) 9,jr (Bj l) (min l.length 1024)]
theorem WW (G:GH) (w0:World) (hG:Hold G w0) (l:List gD) (v:Value) (hv:ah G (.sl 6 (l.map gD.dat)) v) (hl:l.length≤4294967296) (ht:∀ x∈l,x.author.size < 4611686018427387904∧x.text.size < 4611686018427387904) :
  Calls Tryz.prog 61 #[v] w0 (aU w0 G fun u G'=>u=vi (FK l)):=by
 obtain ⟨A,c,rfl,hc1,hc2,-⟩:=hv.slice;rw [List.length_map] at *;refine eN [(0,_)] Tryz.func61 rfl Tryz.ntmps61 rfl rfl hG ?_;intro a H;refine aY (fun _ K1=>?_);refine bY (cs:=[_]) H wn rfl rfl rfl ?_;clear H;intro b1 a w hb1 H;refine kH H (Ra rfl (Kz K1 (SQ fun _ K2=>?_)));clear H K1;intro a H;have H:=H.sub (T':=[(1,_)]) ⟨rfl,trivial⟩;obtain ⟨Ga,hma,hb1',H⟩:=H.dB
 have hbl:aB Ga b1 0=some (.slice A l.length c):=by unfold aB;rw [hb1'];rfl
 have hcb:=Xr hbl (hv.mono hma) hl ht;refine dz (hmx) [[],[0],[0,1],[0,1,2],[],[4],[4,5],[],(List.range 8),(List.range 9),(List.range 10),(List.range 11)] [9,10,11] (by kernel_rfl) (by kernel_rfl) (fun (aC:Nat) (v:Value) (G:GH)=>match aC with|0=>v=.slice A l.length c|1=>v=vi l.length|2=>v=.bool (decide (1024 < (l.length:Int)))|3=>v=vi (bJ (decide (1024 < (l.length:Int))) 9)|4=>v=.slice A l.length c|5=>v=vi l.length|6=>v=vi ((min l.length 1024:Nat):Int)|7=>v=.func (.func 92) #[] #[.pointer (some ⟨b1,0,none⟩)]|8=>v=vi (jr (Bj l) (min l.length 1024))|_=>True) (fun _ _ _ _ _ h=>h) H ?_ ?_
 ·clear H;refine av (X0 rfl fun hG=>Rg CK rfl (aD hG hbl)) (Z1 0 3 rfl (Rl AA rfl)) (Z1 1 4 rfl (Rc rfl)) ?_ (av (X0 rfl fun hG=>Rg CK rfl (aD hG hbl)) (Z1 4 7 rfl (Rl AA rfl)) ?_ ?_ (av ?_ (aT rfl) (aT rfl) (aT rfl) dh))
  ·refine dS 2 5 rfl rfl fun _ a w G1 hG HT H fin=>?_;refine s_call gX H wn rfl (iy _ _ H.hp.ro _ 9) rfl ?_;clear H;rintro v6 G6 a w ⟨rfl,-⟩ jd H;exact fin H jd (rfl)
  ·refine dS 5 8 rfl rfl fun _ a w G1 hG HT H fin=>?_;refine IB H wn rfl rfl rfl ?_;clear H;intro a H;exact fin H iJ (congrArg vi (by omega))
  ·refine wJ rfl fun _ a w G1 hG HT H fin=>?_;refine lT H wn rfl rfl ?_;clear H;intro a H;exact fin H iJ rfl
  refine dK 6 9 7 10 rfl rfl fun _ a w G1 hG HT H fin=>?_;refine s_call Bp H wn rfl (Du _ _ H.hp.ro (min l.length 1024) (Bj l) _ (by omega) ((hcb.mono hG).le (Nat.min_le_left _ _))) rfl ?_;clear H;rintro v11 qj a w rfl pR H;exact fin H pR (rfl)
 clear H;intro a w G kZ H hv;have H:=H.aM (hv 3 6 rfl rfl) rfl;have H:=H.aM (hv 8 11 rfl rfl) rfl;clear hv;refine fM lU dQ [_,_] [_,_] H wn rfl rfl rfl rfl rfl (by intro i q h;match i,h with|0,h=>exact h|1,h=>exact h|n+2,h=>simp at h) rfl rfl ?_;clear H;intro b12 a w BL H;obtain ⟨zx,Ep,zY,H⟩:=H.dB;refine s_call mR H wn rfl (mU _ _ H.hp.ro _ _ (tu zY)) rfl ?_;clear H;rintro v13 _ a w ⟨rfl,rfl⟩ - H;refine kH H (Ra rfl ?_);clear H;intro a H;refine au ⟨rfl,?_⟩;refine K2 _ _ ?_;clear K2;refine lr H Tryz.results61 rfl ?_;exact H.hp.ret rfl
end
section
open Go.RowKit
/-- The map that tells the place of each number of a list. -/
def rX:Nat→List Int→List MapEntry
 | _,[]=>[]
 | i,k :: r=>⟨.int .i64 k,.int .i64 (i:Int),i⟩ :: rX (i+1) r
theorem Sz (x:Int):∀ (i:Nat) (l:List Int),rX i (l++[x])=rX i l++[⟨.int .i64 x,.int .i64 ((i+l.length:Nat):Int),i+l.length⟩]
 | _,[]=>rfl
 | i,k :: r=>by
  rw [List.cons_append,rX,Sz x (i+1) r,rX,List.cons_append,List.length_cons,show i+1+r.length=i+(r.length+1) by omega]
def pW (x:Int):Nat→List Int→Option Nat
 | _,[]=>none
 | i,k :: r=>if k=x then some i else pW x (i+1) r
theorem RZ {x:Int}:∀ {l:List Int} {i n:Nat},pW x i l=some n→i≤n
 | [],_,_,h=>by cases h
 | k :: r,i,n,h=>by
  rw [pW] at h;split at h
  ·cases h;exact Nat.le_refl _
  ·have:=RZ h;omega
theorem R4 {x:Int}:∀ {l:List Int} {i:Nat},x∉l→pW x i l=none
 | [],_,_=>rfl
 | k :: r,i,h=>by
  rw [pW,if_neg (fun e=>h (by simp [e])),R4 (fun hm=>h (List.mem_cons_of_mem _ hm))]
theorem Kt (x:Int):∀ (i j:Nat) (l:List Int),Instr.findNow (.int .i64) (.int .i64 x) (rX i l) j=some ((pW x i l).map fun n=>(j+(n - i),.int .i64 (n:Int)))
 | _,_,[]=>rfl
 | i,j,k :: r=>by
  have ih:=Kt x (i+1) (j+1) r
  by_cases e:k=x
  ·subst e
   simp only [rX,Instr.findNow,Instr.sameNow,if_pos,pW,beq_self_eq_true]
   simp
  ·have hb:(x == k)=false:=by simp;exact fun h=>e h.symm
   simp only [rX,Instr.findNow,Instr.sameNow,if_pos,hb,pW,if_neg e,ih]
   cases h:pW x (i+1) r with
   | none=>rfl
   | some n =>
    have:=RZ h
    simp only [Option.map_some,Option.some.injEq,Prod.mk.injEq,and_true]
    omega
abbrev Wd (b:Nat) (l:List Int):Nat × Obj:=(b,.map (rX 0 l).toArray l.length)
theorem acH (l:List Int) (x:Int):(rX 0 l).toArray.push ⟨.int .i64 x,.int .i64 (l.length:Int),l.length⟩=(rX 0 (l++[x])).toArray:=by
 rw [Sz,List.push_toArray,Nat.zero_add]
end
section
open Go.RowKit
section
variable {P:Program} {N:Nat} {D:List Deferred} {w0 w w':World} {F:Nat→Prop} {G0 G G':GH} {L L' Li Lo:OL} {T:List (Nat × Value)} {a a':Act} {Q:Exit→Act→World→Prop}
variable {r:Option Nat} {ops:Array Oper} {rest:List Oper}
/-- gv, that owns the blocks B, calls what it is handed at each of xs in turn, till it says no. -/
def Jj (P:Program) (Gi:GH) (B:OL) (gv:Value) (xs:List AP):Prop :=
 ∀ (J:Nat→GH→OL→Prop) (Jx:GH→OL→Prop) (fv:Value) (G:GH) (L:OL) (w:World),fv.cells=#[fv]→(∀ b o,Gi b=some o→G b=some o)→zD J→zJ Jx→J 0 G L→gT G (B++L) w→yh P fv G xs J Jx →
  qU P gv [fv] w (fQ w G (B++L) fun _ G' L'=>J xs.length G' L'∨Jx G' L')
theorem Jj.mono {Gi yu:GH} {B:OL} {gv:Value} {xs:List AP} (h:Jj P Gi B gv xs) (hm:∀ b o,Gi b=some o→yu b=some o):Jj P yu B gv xs :=
 fun J Jx fv G L w h0 h1=>h J Jx fv G L w h0 fun b o hb=>h1 b o (hm b o hb)
end
end
section
open Go.RowKit
section
variable {P:Program} {N:Nat} {D:List Deferred} {w0 w w':World} {F:Nat→Prop} {G0 G G':GH} {L L' Li Lo:OL} {T:List (Nat × Value)} {a a':Act} {Q:Exit→Act→World→Prop}
variable {r:Option Nat} {ops:Array Oper} {rest:List Oper}
/-- gv, that owns the blocks B, calls what it is handed at each of xs in turn, till it says no; where fin is false, it is only said what it does where it is stopped by then. -/
def AV (P:Program) (Gi:GH) (B:OL) (gv:Value) (xs:List AP) (fin:Bool):Prop :=
 ∀ (J:Nat→GH→OL→Prop) (Jx:GH→OL→Prop) (fv:Value) (G:GH) (L:OL) (w:World),fv.cells=#[fv]→(∀ b o,Gi b=some o→G b=some o)→zD J→zJ Jx→J 0 G L→gT G (B++L) w→yh P fv G xs J Jx→(fin=false→∀ g l,¬ J xs.length g l) →
  qU P gv [fv] w (fQ w G (B++L) fun _ G' L'=>J xs.length G' L'∨Jx G' L')
theorem AV.mono {Gi yu:GH} {B:OL} {gv:Value} {xs:List AP} {fin:Bool} (h:AV P Gi B gv xs fin) (hm:∀ b o,Gi b=some o→yu b=some o):AV P yu B gv xs fin :=
 fun J Jx fv G L w h0 h1=>h J Jx fv G L w h0 fun b o hb=>h1 b o (hm b o hb)
theorem Wu {fin:Bool} {B:OL} {tY:Operand} {ps:List Nat} {assign body:Code} {gf:FuncId} {caps:List Value} {xs:List AP} {Gi:GH}
  (H:St N D w0 F G0 G (B++L) T a w) (hg:ev T tY=some (.func (.func gf) #[] caps.toArray)) (en:∀ args w,(callFunc gf args).run P w=.ok (.enter gf args) w) (hit:AV P Gi B (.func (.func gf) #[] caps.toArray) xs fin) (hGi:∀ b o,Gi b=some o→G b=some o)
  (hps:ps.all (Nat.blt · N)=true) (hlen:∀ k args g,qR xs k args g→args.length=ps.length)
  (J:Nat→GH→OL→Prop) (Jx:Code→GH→OL→Prop) (hno:fin=false→∀ g l,¬ J xs.length g l) (jw:zD J) (hJx:∀ c,zJ (Jx c)) (h0:J 0 G L) (Mq:Jq P N ps assign body T G J Jx xs)
  (hdone:∀ Dk G1 L1 a1 w1,(∀ b o,G b=some o→G1 b=some o)→J xs.length G1 L1→St N ({ target:=.collected Dk,args:=#[] } :: D) w0 F G0 G1 ((Dk,.deferred (some [])) :: L1) T a1 w1→Q .normal a1 w1)
  (hstop:∀ Dk c G1 L1 a1 w1,(∀ b o,G b=some o→G1 b=some o)→Jx c G1 L1→St N ({ target:=.collected Dk,args:=#[] } :: D) w0 F G0 G1 ((Dk,.deferred (some [])) :: L1) T a1 w1→WP none P c Q a1 w1) :
  WP none P (.rangeFunc tY ps.toArray assign body) Q a w:=by
 refine wpIn_rangeFunc ?_
 intro fn _
 have hev:=H.ev hg
 let q:Rec:=⟨fn,a.tmps,ps.toArray,assign,body,w.heap.size⟩
 obtain ⟨W1,hW1⟩:∃ W1,W1=(w.alloc (.deferred (some []))).alloc (q.at .ready none):=⟨_,rfl⟩
 have H1:Hp w0 F G0 G (B++((w.heap.size+1,q.at .ready none) :: (w.heap.size,.deferred (some [])) :: L)) W1:=by
  have:=(H.hp.alloc (.deferred (some []))).alloc (q.at .ready none)
  rw [World.size_alloc] at this
  rw [hW1]
  refine this.perm ?_
  have e:=List.perm_append_comm (l₁:=[(w.heap.size+1,q.at .ready none),(w.heap.size,Obj.deferred (some []))]) (l₂:=B)
  have e2:=List.Perm.append_right L e
  rw [List.append_assoc,List.append_assoc] at e2
  exact e2
 refine ⟨w.heap.size+1,[{ target:=.collected w.heap.size,args:=#[] }],W1,{ target:=.fn (.func gf) caps.toArray,args:=#[.func (.yield (w.heap.size+1)) #[] #[]] },W1,gf,
  #[.func (.yield (w.heap.size+1)) #[] #[]]++caps.toArray,W1,by rw [hW1];exact run_enterLoop_outer fn a.tmps ps.toArray assign body,?_,fun _ _=>trivial,?_,Fp none,?_⟩
 ·simp only [resolve,rangeCall,hev]
  simp [Deferred.ofValue,Act.eval]
 ·simp [invoke,en]
 ·have hcv:=hit (fun k=>Jr (w.heap.size+1) q [(w.heap.size,.deferred (some []))] (J k)) (Fv (w.heap.size+1) q [(w.heap.size,.deferred (some []))] Jx) (.func (.yield (w.heap.size+1)) #[] #[]) G
   ((w.heap.size+1,q.at .ready none) :: (w.heap.size,.deferred (some [])) :: L) W1 rfl hGi (fun k G G' L hm ⟨Lu,e,h⟩=>⟨Lu,e,jw k G G' Lu hm h⟩) (fun G G' L hm ⟨c,Lu,e,h⟩=>⟨c,Lu,e,hJx c G G' Lu hm h⟩) ⟨L,rfl,h0⟩ (Hp.owns (Li:=[]) H1) (O8 H.jP H.get hps hlen Mq) (fun e g l ⟨Lu,_,h⟩=>hno e g Lu h)
  replace hcv:=hcv.go
  have e:(do let d ← Deferred.ofValue (.func (.func gf) #[] caps.toArray) [Value.func (.yield (w.heap.size+1)) #[] #[]].toArray;invoke d.target d.args:Sem Next).run P W1=.ok (.enter gf (#[.func (.yield (w.heap.size+1)) #[] #[]]++caps.toArray)) W1:=by
   simp [Deferred.ofValue,invoke,en]
  rw [e] at hcv
  refine (JC hcv).mono ?_
  rintro e w2 ⟨v,G2,L2,rfl,hch,hJ⟩
  have H2:=Hp.change (Li:=[]) H1 hch
  rcases hJ with ⟨Lu,rfl,hJ⟩|⟨c,Lu,rfl,hJ⟩
  ·have hl:=H2.own _ (List.mem_cons_self)
   have H3:=(H2.upd (i:=0) rfl (zq (q.at .exhausted none) hl)).drop (List.sublist_cons_self _ _)
   exact ⟨none,_,run_endLoop hl (by simp),hdone _ G2 Lu _ _ hch.gm hJ ⟨H.jP,H.get,by simp [H.nQ],H3⟩⟩
  ·have hl:=H2.own _ (List.mem_cons_self)
   have H3:=(H2.upd (i:=0) rfl (zq (q.at .exhausted (some c)) hl)).drop (List.sublist_cons_self _ _)
   exact ⟨some c,_,run_endLoop hl (by simp),hstop _ c G2 Lu _ _ hch.gm hJ ⟨H.jP,H.get,by simp [H.nQ],H3⟩⟩
/-- A range over a function whose state is told by ghosts. -/
theorem Wv {fin:Bool} {B:OL} {ι κ:Type} {Lc:OL} {tY:Operand} {ps:List Nat} {assign body:Code} {gf:FuncId} {caps:List Value} {xs:List AP} {Gi:GH}
  (Lv:Nat→ι→OL) (Lt:Nat→ι→OL) (inv:Nat→ι→GH→Prop) (cx:κ→Code) (Lx zI:κ→OL) (uJ:κ→GH→Prop) (i0:ι)
  (H:St N D w0 F G0 G (B++(Lc++Lv 0 i0++Lt 0 i0)) T a w) (hg:ev T tY=some (.func (.func gf) #[] caps.toArray)) (en:∀ args w,(callFunc gf args).run P w=.ok (.enter gf args) w) (hit:AV P Gi B (.func (.func gf) #[] caps.toArray) xs fin) (hGi:∀ b o,Gi b=some o→G b=some o)
  (hno:fin=false→∀ i g,¬ inv xs.length i g) (hps:ps.all (Nat.blt · N)=true) (hlen:∀ k args g,qR xs k args g→args.length=ps.length) (hinv:∀ k i (G G':GH),(∀ b o,G b=some o→G' b=some o)→inv k i G→inv k i G') (LV:∀ x (G G':GH),(∀ b o,G b=some o→G' b=some o)→uJ x G→uJ x G') (h0:inv 0 i0 G)
  (round:∀ (l:Nat) (oD mM:Obj) (bk:OL) (k:Nat) (args:List Value) (i:ι) (G1:GH) (w1:World) (F1:Nat→Prop) (B1:Code→Exit→Act→World→Prop) (a1:Act),qR xs k args G1→(∀ b o,G b=some o→G1 b=some o)→inv k i G1 →
   (∀ T' G2 L2 a2 w2 c,St N [] w1 F1 G1 G2 ((l,oD) :: L2) T' a2 w2→(∀ w3,St N [] w1 F1 G1 G2 ((l,mM) :: L2) T' a2 w3→WP (some l) P c (B1 c) a2 w3)→Exit.then (fun a2 w2=>∃ w3,(Instr.beginRound l).run P w2=.ok () w3∧c.wpIn (FW (some l)) 0 P (B1 c) a2 w3) (fun _ _ _=>False) .normal a2 w2) →
   (∀ i' T' G2 a2 w2 c,St N [] w1 F1 G1 G2 ((l,mM) :: (Lc++Lv (k+1) i'++(bk++Lt (k+1) i'))) T' a2 w2→inv (k+1) i' G2→B1 c .normal a2 w2) →
   (∀ x T' G2 a2 w2 c,St N [] w1 F1 G1 G2 ((l,mM) :: (Lc++Lx x++(bk++zI x))) T' a2 w2→uJ x G2→(cx x=.ret→B1 c .ret a2 w2)∧∀ n,cx x=.exit n→B1 c (.exit n) a2 w2) →
   St N [] w1 F1 G1 G1 ((l,oD) :: (Lc++Lv k i++(bk++Lt k i))) (lY ps args T) a1 w1 →
   WP (some l) P assign (Exit.then (fun a2 w2=>∃ w3,(Instr.beginRound l).run P w2=.ok () w3∧body.wpIn (FW (some l)) 0 P (B1 body) a2 w3) (fun _ _ _=>False)) a1 w1)
  (hdone:∀ Dk i G1 a1 w1,(∀ b o,G b=some o→G1 b=some o)→inv xs.length i G1→St N ({ target:=.collected Dk,args:=#[] } :: D) w0 F G0 G1 ((Dk,.deferred (some [])) :: (Lc++Lv xs.length i++Lt xs.length i)) T a1 w1→Q .normal a1 w1)
  (hstop:∀ Dk x G1 a1 w1,(∀ b o,G b=some o→G1 b=some o)→uJ x G1→St N ({ target:=.collected Dk,args:=#[] } :: D) w0 F G0 G1 ((Dk,.deferred (some [])) :: (Lc++Lx x++zI x)) T a1 w1→WP none P (cx x) Q a1 w1) :
  WP none P (.rangeFunc tY ps.toArray assign body) Q a w:=by
 refine Wu (J:=fun k g L=>∃ i,L=Lc++Lv k i++Lt k i∧inv k i g) (Jx:=fun c g L=>∃ x,c=cx x∧L=Lc++Lx x++zI x∧uJ x g) H hg en hit hGi hps hlen (hno:=fun e g l ⟨i,_,h⟩=>hno e i g h) (fun k G G' L hm ⟨i,e,h⟩=>⟨i,e,hinv k i G G' hm h⟩) (fun c G G' L hm ⟨x,e1,e2,h⟩=>⟨x,e1,e2,LV x G G' hm h⟩) ⟨i0,rfl,h0⟩ ?_ ?_ ?_
 ·rintro l q bk k args G1 L1 w1 a1 hk hm ⟨i,rfl,hi⟩ H1
  have pm:∀ A B:OL,(bk++(A++B)).Perm (A++(bk++B)):=fun A B=>by
   rw [← List.append_assoc,← List.append_assoc]
   exact List.Perm.append_right B List.perm_append_comm
  refine round l (q.at .ready none) (q.at .busy none) bk k args i G1 w1 _ (fun _=>roundPost P l _) a1 hk hm hi ?_ ?_ ?_ (H1.perm (List.Perm.cons _ (pm _ _)))
  ·intro T' G2 L2 a2 w2 c H2 h
   exact O4 H2 h
  ·intro i' T' G2 a2 w2 c H2 h2
   exact Cm none (H2.perm (List.Perm.cons _ (pm _ _).symm)) ⟨_,rfl,i',rfl,h2⟩
  ·intro x T' G2 a2 w2 c H2 h2
   have H3:=H2.perm (List.Perm.cons _ (pm _ _).symm)
   refine ⟨fun e=>?_,fun n e=>?_⟩
   ·exact Cm (some .ret) H3 ⟨_,_,rfl,x,e.symm,rfl,h2⟩
   ·exact Cm (some (.exit n)) H3 ⟨_,_,rfl,x,e.symm,rfl,h2⟩
 ·rintro Dk G1 L1 a1 w1 hm ⟨i,rfl,hi⟩ H1
  exact hdone Dk i G1 a1 w1 hm hi H1
 ·rintro Dk c G1 L1 a1 w1 hm ⟨x,rfl,rfl,hx⟩ H1
  exact hstop Dk x G1 a1 w1 hm hx H1
end
end
section
open Go.RowKit
theorem Ay:Tryz.prog.underlying 104=some (.map 3 3):=by kernel_rfl
theorem qg:Ty Tryz.prog 31 1 24 [.slice none 0 0] false:=⟨by kernel_rfl,by kernel_rfl⟩
theorem Km:bO Tryz.prog 141 3 3:=⟨by kernel_rfl⟩
theorem PN:∀ args w,(callFunc 117 args).run Tryz.prog w=.ok (.enter 117 args) w:=enters Tryz.func117 rfl (by kernel_rfl)
theorem R3 {x:Int}:∀ {l:List Int} {i n:Nat},pW x i l=some n→n < i+l.length
 | [],_,_,h=>by cases h
 | k :: r,i,n,h=>by
  rw [pW] at h;split at h
  ·cases h;simp
  have:=R3 h;simp only [List.length_cons];omega
/-- The chain of a style: at most so many of its styles. -/
def sN (l:List bg):Nat→Int→List bg
 | 0,_=>[]
 | f+1,id=>if id=0 then [] else match pW id 0 (l.map bg.id) with|none=>[]|some i=>match l[i]? with|none=>[]|some s=>s :: sN l f s.base
def Bg (l:List bg) (id:Int):List bg:=sN l (l.length+1) id
theorem WO {l:List bg} {f:Nat} {id:Int} (h:id=0):sN l f id=[]:=by
 cases f with
 | zero=>rfl
 | succ f=>rw [sN,if_pos h]
theorem WK {l:List bg} {f:Nat} {id:Int} (h0:¬ id=0) (h:pW id 0 (l.map bg.id)=none):sN l f id=[]:=by
 cases f with
 | zero=>rfl
 | succ f=>rw [sN,if_neg h0,h]
theorem WM {l:List bg} {f i:Nat} {id:Int} (h0:¬ id=0) (h:pW id 0 (l.map bg.id)=some i) (hi:i < l.length):sN l (f+1) id=l[i] :: sN l f l[i].base:=by
 rw [sN,if_neg h0,h];dsimp only;rw [List.getElem?_eq_getElem hi]
def stP (x:bg):AP:=fun args g=>∃ cs,args=[.agg cs.toArray]∧aO g x.dat cs
theorem Ul {A:List bg} {k:Nat} {args:List Value} {g:GH} (h:qR (A.map stP) k args g):∃ (hk:k < A.length) (cs:List Value),args=[.agg cs.toArray]∧aO g A[k].dat cs:=by
 obtain ⟨p,hp,hargs⟩:=h;rw [List.getElem?_map] at hp;obtain ⟨q,hq,rfl⟩:=Option.map_eq_some_iff.1 hp;obtain ⟨hk,rfl⟩:=List.getElem?_eq_some_iff.1 hq;obtain ⟨cs,h1,h2⟩:=hargs;exact ⟨hk,cs,h1,h2⟩
abbrev bI (b:Nat) (n:Int):Nat × Obj:=(b,.cells #[vi n] 3 (0,0))
set_option maxHeartbeats 1000000 in
theorem WT {G:GH} {bl bi:Nat} {l:List bg} {id:Int} {v:Value} (hb:aB G bl 0=some v) (hv:ah G (.sl 6 (l.map bg.dat)) v) (hnd:∀ (k:Nat) (h:k < l.length),l[k].id∉(l.take k).map bg.id) :
  AV Tryz.prog G [bI bi id] (.func (.func 117) #[] #[.pointer (some ⟨bl,0,none⟩),.pointer (some ⟨bi,0,none⟩)]) ((Bg l id).map stP) (decide ((Bg l id).length≤l.length)):=by
 intro J Jx fv G1 L w0 yP hGi jw hJx hJ hO hcb hfin;refine jI (caps:=[.pointer (some ⟨bl,0,none⟩),.pointer (some ⟨bi,0,none⟩)]) PN ?_;obtain ⟨A,c,rfl,hc1,hc2,-⟩:=hv.slice;have hml:maxLen=9223372036854775807:=rfl;rw [List.length_map] at *;replace hb:=aD hGi hb;replace hv:=hv.mono hGi;refine jv (N:=46) (T:=[(0,_),(1,_),(2,_)]) Tryz.func117 rfl Tryz.ntmps117 rfl rfl hO ?_;intro a H;refine aY (fun _ K1=>?_);refine Cu H wn rfl ?_;clear H;intro bm a w hbm H;refine kH H (Ra rfl (Kz K1 (SQ fun _ K2=>SR fun _ K3=>Rg qg rfl (by assumption) ?_)));clear H K1;intro a H;refine kH H (Rl lD rfl (Rm rfl (Kz K3 (SB ?_))));clear H K3;intro a H;skip;refine d9 (ι:=Nat) (Tc:=[(0,_),(1,_),(2,_),(4,_),(10,_),(11,_)]) (Lc:=[(_,_)]) (fun (gh:Nat)=>[(12,vi gh)]) (fun (gh:Nat)=>[Wd bm ((l.take gh).map bg.id)]++L) (fun (gh:Nat)=>G1) (fun (gh:Nat)=>gh≤l.length) (fun (gh:Nat)=>l.length - gh) (0) (by exact (H.bL (Pl:=[_,_]) (bB:=[_,_]) [1,0] (by decide) rfl).sub ⟨rfl,rfl,rfl,rfl,rfl,rfl,rfl,trivial⟩) ?_ ?_
 ·exact Nat.zero_le _
 clear H;intro gh a w hI H;obtain ⟨k,hgh⟩:∃ x,x=gh:=⟨_,rfl⟩;subst hgh;have hk:=hI;dsimp only [List.cons_append,List.nil_append,List.append_nil] at H;refine kP H (SR fun _ K4=>Rc rfl (Kz K4 (SQ fun _ K5=>Cd rfl ?_ ?_))) <;> clear H K4
 ·intro eO a H
  try have nM:=dT eO
  have hk2:k < l.length:=by omega
  obtain ⟨b,o,pA,pc,rfl,hrow,hp,hrep⟩:=xV hv hk2;have abz:=hnd k hk2
  have hlk:((l.take k).map bg.id).length=k:=by rw [List.length_map,List.length_take];omega
  have hnx:(l.take k).map bg.id++[l[k].id]=(l.take (k+1)).map bg.id:=by rw [List.take_succ_eq_append_getElem hk2,List.map_append];rfl
  refine kP H (Kc K5 (SQ fun _ K6=>SB (SR fun _ K7=>Rm rfl (Ri lD jf rfl rfl ?_))));clear H K5;intro a H;refine aK jf (cs:=[_,_,_,_,_,_]) H wn rfl rfl (fun j v hj=>H.hp.aB (hrow j v hj)) rfl ?_;clear H;intro a H;refine bX jf H wn rfl ?_;clear H;intro b6 a w hb6 H;refine kH H (Ra rfl ?_);clear H;intro a H;refine aP jf 0 (vs:=[_,_,_,_,_,_]) _ H wn rfl rfl rfl rfl rfl rfl rfl rfl ?_;clear H;intro w H;dsimp only [List.set,setRow] at H;refine K7 _ _ ?_;clear K7;refine kP H (SC (Rm rfl (Rf qB rfl (Ro ak 0 rfl rfl (Rm rfl ?_)))));clear H;intro a H;refine TV (i:=2) (ky:=vi l[k].id) (v:=vi k) Ay kU H wn rfl rfl rfl rfl (by trivial) (by rw [List.toList_toArray,Kt,R4 abz];rfl) ?_;clear H;intro w H
  have hpush:((rX 0 ((l.take k).map bg.id)).toArray.push ⟨vi l[k].id,vi k,((l.take k).map bg.id).length⟩)=(rX 0 ((l.take (k+1)).map bg.id)).toArray:=by rw [← hnx,← acH,hlk]
  rw [hpush,show ((l.take k).map bg.id).length+1=((l.take (k+1)).map bg.id).length by rw [← hnx];simp] at H;refine kH H (Kn K6 (SC (Rd rfl (Rm rfl ?_))));clear H K6;intro a H;refine au ?_;refine dD ((k+1)) (by exact (H.bL (Pl:=[_,_,_]) (bB:=[_,_]) [1,2] (by decide) rfl).sub ⟨rfl,rfl,rfl,rfl,rfl,rfl,rfl,trivial⟩) ?_ ?_
  ·exact by omega
  first|omega|(dsimp only;omega)
 intro eO a H
 try have nM:=dF eO
 obtain rfl:k=l.length:=by omega
 rw [List.take_length] at H;refine dL ?_;refine K2 _ _ ?_;clear K2;refine lZ ?_;skip;refine d9 (ι:=Int × Nat × Nat × OL × GH) (Tc:=[(0,_),(1,_),(2,_),(4,_)]) (Lc:=[(_,_)]) (fun (gh:Int × Nat × Nat × OL × GH)=>[]) (fun (gh:Int × Nat × Nat × OL × GH)=>[bI bi gh.1]++gh.2.2.2.1) (fun (gh:Int × Nat × Nat × OL × GH)=>gh.2.2.2.2) (fun (gh:Int × Nat × Nat × OL × GH)=>(∀ b o,G1 b=some o→gh.2.2.2.2 b=some o)∧Now ((Bg l id).map stP) stP J (Bg l id).length gh.2.2.1 (sN l gh.2.1 gh.1) gh.2.2.2.2 gh.2.2.2.1∧gh.2.2.1+gh.2.1=l.length+1) (fun (gh:Int × Nat × Nat × OL × GH)=>gh.2.1) ((id,l.length+1,0,L,G1)) (by exact (H.bL (Pl:=[_,_]) (bB:=[_,_]) [1,0] (by decide) rfl).sub ⟨rfl,rfl,rfl,rfl,trivial⟩) ?_ ?_
 ·exact ⟨fun _ _ h=>h,⟨hJ,fun i a h=>by rw [Nat.zero_add,List.getElem?_map];rw [show sN l (l.length+1) id=Bg l id from rfl] at h;rw [h];rfl,Nat.zero_add _⟩,Nat.zero_add _⟩
 clear H;intro gh a w hI H;obtain ⟨i,f,j1,Lt,g⟩:=gh;dsimp only at hI H;obtain ⟨hgm,bE,hjf⟩:=hI;have hbg:=aD hgm hb;dsimp only [List.cons_append,List.nil_append,List.append_nil] at H;refine kP H (SQ fun _ K8=>SR fun _ K9=>Ro ak 1 rfl rfl (Rc rfl (Kz K9 (Cd rfl ?_ ?_)))) <;> clear H K9
 ·intro h23 a H
  try have y9:=dT h23
  have h0:¬ i=0:=by simpa using h23
  obtain ⟨an,han⟩:∃ an,an=pW i 0 (l.map bg.id):=⟨_,rfl⟩;have hfn:=Kt i 0 0 (l.map bg.id);rw [← han] at hfn;refine kP H (Kc K8 (SB (SR fun _ aH=>Rm rfl (Ro ak 1 rfl rfl ?_))));clear H K8;intro a H;refine ad7 (i:=0) (zv:=vi 0) _ Ay kU (by kernel_rfl) H wn rfl rfl rfl (by trivial) (by simpa using hfn) rfl ?_;clear H;intro a H;refine kH H (Rm rfl ?_);clear H;intro a H;(iterate 2 refine gV H wn rfl rfl rfl ?_;clear H;intro a H);refine kH H (Ra rfl (Ra rfl (Kz aH (SQ fun _ aX=>SR fun _ bD=>Rm rfl (Rn rfl (Rm rfl (Sp 32 rfl ?_ ?_))))))) <;> clear H aH
  ·intro h32 a H
   try have p32:=dT h32
   obtain rfl:an=none:=by
    cases an with
    | none=>rfl
    | some n=>simp [xJ] at h32
   rw [WK h0 han.symm] at bE;refine kH H (Ks h32 rfl (Ks h32 rfl (Ks h32 rfl (Ks h32 rfl (Ks h32 rfl (Ks h32 rfl (Ks h32 rfl (Pt h32 rfl (Kz bD (Ct rfl rfl ?_))))))))));clear H bD;intro a H;refine aR ?_;refine (leave0 H Tryz.results117 ?_).1;refine H.hp.bR (L':=Lt) (by repeat (first|exact List.Sublist.refl _|apply List.Sublist.cons)) (.inl ?_);have h:=bE.len
   simp only [List.length_nil,Nat.add_zero] at h
   rw [← h];exact bE.now
  intro h32 a H
  try have p32:=dF h32
  obtain ⟨n,rfl⟩:∃ n,an=some n:=by
   cases an with
   | none=>simp [xJ] at h32
   | some n=>exact ⟨n,rfl⟩
  have hnl:n < l.length:=by have:=R3 han.symm;simpa using this
  obtain ⟨f',rfl⟩:∃ f',f=f'+1:=by
   cases f with
   | succ f'=>exact ⟨f',rfl⟩
   | zero =>
    exfalso
    have hl:=bE.len
    simp only [sN,List.length_nil,Nat.add_zero] at hl
    refine hfin (decide_eq_false (by omega)) g Lt ?_;rw [← hl];exact bE.now
  rw [WM h0 han.symm hnl] at bE;dsimp only [xJ,Option.map_some] at H;obtain ⟨b,o,pA,pc,rfl,hrow,hp,hrep⟩:=xV (hv.mono hgm) hnl;refine kH H (YM h32 rfl (YR qg h32 rfl (by assumption) ?_));clear H;intro a H;refine kH H (YM h32 rfl (YI lD jf h32 rfl rfl ?_));clear H;intro a H;refine aK jf (cs:=[_,_,_,_,_,_]) H (wg H rfl rfl h32) rfl rfl (fun j v hj=>H.hp.aB (hrow j v hj)) rfl ?_;clear H;intro a H;refine sG (Li:=[_,_]) (L:=Lt) H (wg H rfl rfl h32) rfl rfl (hcb j1 _ _ _ _ ⟨_,bE.head,_,rfl,hrep⟩ hgm bE.now (Hp.owns (Li:=[_,_]) H.hp)) rfl ?_;clear H;rintro v38 Ob OP a w ⟨b38,rfl,hb1,hb2⟩ L8 H;have hbg:=aD L8 hbg;have r3:=aD L8 (hrow 3 _ rfl);refine kH H (YN h32 rfl (Pf h32 rfl (Kz bD (Cd rfl ?_ ?_)))) <;> clear H bD
  ·intro mV a H
   try have p40:=dT mV
   refine aR ?_;refine (leave0 H Tryz.results117 ?_).1;exact H.hp.bR (L':=OP) (by repeat (first|exact List.Sublist.refl _|apply List.Sublist.cons)) (.inr (hb2 (by simpa using mV)))
  intro mV a H
  try have p40:=dF mV
  refine kP H (Kc aX (SC (Rg qg rfl (by assumption) ?_)));clear H aX;intro a H;refine kH H (Rm rfl (Ri lD jf rfl rfl (Rf Km rfl (Rg ak rfl (by assumption) ?_))));clear H;intro a H;refine aP ak 1 (vs:=[_]) _ H wn rfl rfl rfl rfl rfl rfl rfl rfl ?_;clear H;intro w H;dsimp only [List.set,setRow] at H;refine au ?_;refine dD ((l[n].base,f',j1+1,OP,Ob)) (by exact (H).sub ⟨rfl,rfl,rfl,rfl,trivial⟩) ?_ ?_
  ·(try dsimp only);exact ⟨fun b o h=>L8 b o (hgm b o h),bE.step (hb1 (by simpa using mV)),by omega⟩
  first|omega|(dsimp only;omega)
 intro h23 a H
 try have y9:=dF h23
 refine dL ?_;refine (leave0 H Tryz.results117 ?_).2;rw [WO (by simpa using h23)] at bE;refine H.hp.bR (L':=Lt) (by repeat (first|exact List.Sublist.refl _|apply List.Sublist.cons)) (.inl ?_);have h:=bE.len
 simp only [List.length_nil,Nat.add_zero] at h
 rw [← h];exact bE.now
end
section
open Go.RowKit
theorem Zq:∀ args w,(callFunc 88 args).run Tryz.prog w=.ok (.enter 88 args) w:=enters Tryz.func88 rfl (by kernel_rfl)
theorem Zp:∀ args w,(callFunc 86 args).run Tryz.prog w=.ok (.enter 86 args) w:=enters Tryz.func86 rfl (by kernel_rfl)
theorem Kg:∀ args w,(callFunc 87 args).run Tryz.prog w=.ok (.enter 87 args) w:=enters Tryz.func87 rfl (by kernel_rfl)
theorem Gm:bO Tryz.prog 141 4 4:=⟨by kernel_rfl⟩
theorem WU {G:GH} {w0:World} (hO:gT G [] w0) (l:List bg) (id:Int) (v:Value) (hv:ah G (.sl 6 (l.map bg.dat)) v) :
  Calls Tryz.prog 88 #[v,vi id] w0 (fQ w0 G [] fun u G' L'=>∃ bl bi,u=.func (.func 117) #[] #[.pointer (some ⟨bl,0,none⟩),.pointer (some ⟨bi,0,none⟩)]∧L'=[bI bi id]∧aB G' bl 0=some v):=by
 obtain ⟨A,c,rfl,hc1,hc2,-⟩:=hv.slice;refine jv (N:=6) (T:=[(0,_),(1,_)]) Tryz.func88 rfl Tryz.ntmps88 rfl rfl hO ?_;intro a H;refine aY (fun _ K1=>?_);refine bY (cs:=[_]) H wn rfl rfl rfl ?_;clear H;intro b2 a w hb2 H;refine bY (cs:=[_]) H wn rfl rfl rfl ?_;clear H;intro b3 a w hb3 H;refine kH H (Ra rfl (Kz K1 (SR fun _ K2=>?_)));clear H K1;intro a H;refine lT H wn rfl rfl ?_;clear H;intro a H;refine kH H (Ra rfl (Kz K2 ?_));clear H K2;intro a H;refine lr H Tryz.results88 rfl ?_;have H:=H.bL (Pl:=[_,_]) (bB:=[_,_]) [1,0] (by decide) rfl;obtain ⟨Ga,hma,hb2',H⟩:=H.dB;exact H.hp.eG ⟨b2,b3,rfl,rfl,by unfold aB;rw [hb2'];rfl⟩
/-- The first of some errors. -/
def oU (p:Nat→Int):Nat→Nat→Int
 | _,0=>0
 | k,n+1=>if p k=0 then oU p (k+1) n else p k
theorem ZF {p:Nat→Int} {k m:Nat} (h:k < m):oU p k (m - k)=if p k=0 then oU p (k+1) (m - (k+1)) else p k:=by
 obtain ⟨n,hn⟩:∃ n,m - k=n+1:=⟨m - k - 1,by omega⟩;rw [hn,oU,show m - (k+1)=n by omega]
theorem ZE {p:Nat→Int} {k m:Nat} (h:m≤k):oU p k (m - k)=0:=by rw [show m - k=0 by omega];rfl
theorem Qd {p:Nat→Int}:∀ {n k:Nat},oU p k n=0→∀ j,k≤j→j < k+n→p j=0
 | 0,k,_,j,h1,h2=>by omega
 | n+1,k,h,j,h1,h2=>by
  rw [oU] at h;split at h
  ·rename_i hp
   by_cases e:j=k
   ·rw [e];exact hp
   exact Qd h j (by omega) (by omega)
  rename_i hp;exact absurd h hp
def uL (l:List bg) (k:Nat):Int:=match l[k]? with|some s=>gu l k s|none=>0
theorem SN {l:List bg} {k:Nat} (h:k < l.length):uL l k=gu l k l[k]:=by unfold uL;rw [List.getElem?_eq_getElem h]
def oO (l:List bg) (s:bg):Bool:=(decide (s.base≠0) && !Ad l s.kind s.base) || (decide (s.next≠0) && (decide (s.kind=2) || !Ad l 1 s.next))
def JQ (l:List bg) (s:bg):Bool:=decide (l.length < (Bg l s.id).length)
/-- The first error of a list of styles. -/
def eY (l:List bg):Int:=if 128 < l.length then 9 else if oU (uL l) 0 l.length≠0 then oU (uL l) 0 l.length else if l.any (oO l)=true then 25 else if l.any (JQ l)=true then 16 else 0
theorem acR {l:List bg} (h:oU (uL l) 0 l.length=0) {k:Nat} (hk:k+1 < l.length):l[k].id < l[k+1].id:=by
 have h1:=Qd h (k+1) (Nat.zero_le _) (by omega);rw [SN hk,gu,jF] at h1
 have hp:sZ l (k+1)=some l[k].id:=by rw [sZ,if_neg (by omega),Nat.add_sub_cancel,List.getElem?_eq_getElem (by omega)];rfl
 rw [hp] at h1
 split at h1
 ·cases h1
 split at h1
 ·cases h1
 split at h1
 ·cases h1
 rename_i _ h2 h3
 have h2':¬ l[k].id=l[k+1].id:=fun e=>h2 (by rw [e]);have h3':¬ l[k+1].id < l[k].id:=fun e=>h3 (ay e)
 omega
theorem SS {l:List bg} (h:oU (uL l) 0 l.length=0):∀ {k j:Nat} (hk:k < l.length) (hj:j < k),l[j].id < l[k].id
 | k+1,j,hk,hj=>by
  have h1:=acR h hk
  by_cases e:j=k
  ·subst e;exact h1
  have:=SS h (k:=k) (j:=j) (by omega) (by omega)
  omega
theorem SV {l:List bg} (h:oU (uL l) 0 l.length=0) (k:Nat) (hk:k < l.length):l[k].id∉(l.take k).map bg.id:=by
 intro hm;obtain ⟨x,hx1,hx2⟩:=List.mem_map.1 hm;obtain ⟨j,hj,rfl⟩:=List.getElem_of_mem hx1;rw [List.getElem_take] at hx2;rw [List.length_take] at hj;have:=SS h hk (j:=j) (by omega)
 omega
theorem Dx {α:Type} {p:α→Bool} {l:List α} {k:Nat} (hk:k < l.length) (h:(l.take k).any p=false) (hp:p l[k]=false):(l.take (k+1)).any p=false:=by
 rw [List.take_succ_eq_append_getElem hk,List.any_append,h];simp [hp]
theorem qp {α:Type} {p:α→Bool} {l:List α} {k:Nat} (hk:k < l.length) (hp:p l[k]=true):l.any p=true:=List.any_eq_true.2 ⟨_,List.getElem_mem hk,hp⟩
theorem vD {α:Type} {p:α→Bool} {l:List α} {k:Nat} (hk:l.length≤k) (h:(l.take k).any p=false):¬ l.any p=true:=by
 rw [List.take_of_length_le hk] at h;rw [h];decide
set_option maxHeartbeats 1000000 in
theorem Xd (G:GH) (w0:World) (hG:Hold G w0) (l:List bg) (v:Value) (hv:ah G (.sl 6 (l.map bg.dat)) v) (hN:∀ s∈l,s.name.size≤4611686018427387904) :
  Calls Tryz.prog 59 #[v] w0 (aU w0 G fun u G'=>u=vi (eY l)):=by
 obtain ⟨A,c,rfl,hc1,hc2,-⟩:=hv.slice;have hml:maxLen=9223372036854775807:=rfl;rw [List.length_map] at *;refine eN [(0,_)] Tryz.func59 rfl Tryz.ntmps59 rfl rfl hG ?_;intro a H;refine aY (fun _ K1=>?_);refine bY (cs:=[_]) H wn rfl rfl rfl ?_;clear H;intro b1 a w hb1 H;refine bX dQ H wn rfl ?_;clear H;intro b2 a w hb2 H;refine K1 _ _ ?_;clear K1;refine kP H (SQ fun _ K2=>SR fun _ K3=>Ro qg 1 rfl rfl (Rl lD rfl (Rc rfl (Kz K3 (Cd rfl ?_ ?_))))) <;> clear H K3
 ·intro h12 a H
  try have oz:=dT h12
  refine aY (fun _ K4=>?_);refine aP dQ 0 (vs:=[_]) _ H wn rfl rfl rfl rfl rfl rfl rfl rfl ?_;clear H;intro w H;dsimp only [List.set,setRow] at H;refine K4 _ _ ?_;clear K4;refine aR ?_;refine (leave1 H Tryz.results59 (.cons (kR dQ H rfl (H.hp.jE 0 rfl rfl)) .nil) ?_).1
  first
   | exact H.hp.ret (congrArg vi (by rw [eY,if_pos (by omega)]))
   | exact H.hp.ret (congrArg vi (by rw [if_neg (by simpa using gP)] at heq;rw [eY,if_neg (by omega),← heq,if_pos (by simpa using gP)]))
   | exact H.hp.ret (congrArg vi (by rw [eY,if_neg (by omega),if_neg (by rw [hok];decide),if_pos hbad]))
   | exact H.hp.ret (congrArg vi (by rw [eY,if_neg (by omega),if_neg (by rw [hok];decide),if_neg hbad,if_pos (qp hj2 hI)]))
   | exact H.hp.ret (congrArg vi (by rw [eY,if_neg (by omega),if_neg (by rw [hok];decide),if_neg hbad,if_neg (vD (by omega) hnc)]))
 intro h12 a H
 try have oz:=dF h12
 refine kP H (Kc K2 (SQ fun _ K5=>SR fun _ K6=>Ro qg 1 rfl rfl (Rl lD rfl (Rm rfl (Kz K6 (SB ?_))))));clear H K2 K6;intro a H;skip;refine d9 (ι:=Nat × GH) (Tc:=[(1,_),(2,_),(14,_)]) (Lc:=[(_,_),(_,_)]) (fun (gh:Nat × GH)=>[(15,vi gh.1)]) (fun (gh:Nat × GH)=>[]) (fun (gh:Nat × GH)=>gh.2) (fun (gh:Nat × GH)=>gh.1≤l.length∧oU (uL l) gh.1 (l.length - gh.1)=oU (uL l) 0 l.length∧(∀ b o,G b=some o→gh.2 b=some o)) (fun (gh:Nat × GH)=>l.length - gh.1) ((0,G)) (by exact (H).sub ⟨rfl,rfl,rfl,rfl,trivial⟩) ?_ ?_
 ·exact ⟨Nat.zero_le _,rfl,fun _ _ h=>h⟩
 clear H;intro gh a w hI H;obtain ⟨k,g⟩:=gh;dsimp only at hI H;obtain ⟨hk,heq,hgm⟩:=hI;dsimp only [List.cons_append,List.nil_append,List.append_nil] at H;refine kP H (SR fun _ K7=>Rc rfl (Kz K7 (SQ fun _ K8=>Cd rfl ?_ ?_))) <;> clear H K7
 ·intro h16 a H
  try have p16:=dT h16
  have hk2:k < l.length:=by omega
  rw [ZF hk2,SN hk2] at heq;refine kP H (Kc K8 (SQ fun _ K9=>SB (SR fun _ aH=>Rm rfl (Ra rfl (Kz aH (SR fun _ aX=>Ro qg 1 rfl rfl (Rm rfl ?_)))))));clear H K8 aH;intro a H;refine s_call Zp H wn rfl (acS _ _ H.hp.ro l k _ (hv.mono hgm) hk2 (hN _ (List.getElem_mem hk2))) rfl ?_;clear H;rintro v20 AQ a w rfl xu H;refine kH H (Ra rfl (Kz aX (SR fun _ bD=>Rm rfl (Rc rfl (Kz bD (Cd rfl ?_ ?_)))))) <;> clear H aX bD
  ·intro h22 a H
   try have gP:=dT h22
   refine kP H (SR fun _ bH=>Rm rfl ?_);clear H;intro a H;refine aP dQ 0 (vs:=[_]) _ H wn rfl rfl rfl rfl rfl rfl rfl rfl ?_;clear H;intro w H;dsimp only [List.set,setRow] at H;refine bH _ _ ?_;clear bH;refine aR ?_;refine (leave1 H Tryz.results59 (.cons (kR dQ H rfl (H.hp.jE 0 rfl rfl)) .nil) ?_).1
   first
    | exact H.hp.ret (congrArg vi (by rw [eY,if_pos (by omega)]))
    | exact H.hp.ret (congrArg vi (by rw [if_neg (by simpa using gP)] at heq;rw [eY,if_neg (by omega),← heq,if_pos (by simpa using gP)]))
    | exact H.hp.ret (congrArg vi (by rw [eY,if_neg (by omega),if_neg (by rw [hok];decide),if_pos hbad]))
    | exact H.hp.ret (congrArg vi (by rw [eY,if_neg (by omega),if_neg (by rw [hok];decide),if_neg hbad,if_pos (qp hj2 hI)]))
    | exact H.hp.ret (congrArg vi (by rw [eY,if_neg (by omega),if_neg (by rw [hok];decide),if_neg hbad,if_neg (vD (by omega) hnc)]))
  intro h22 a H
  try have gP:=dF h22
  refine kP H (Kc K9 (SC (Rd rfl (Rm rfl ?_))));clear H K9;intro a H;refine au ?_;refine dD ((k+1,AQ)) (by exact (H).sub ⟨rfl,rfl,rfl,rfl,trivial⟩) ?_ ?_
  ·(try dsimp only);exact ⟨by omega,by rw [if_pos (by simpa using gP)] at heq;exact heq,fun b o h=>xu b o (hgm b o h)⟩
  first|omega|(dsimp only;omega)
 intro h16 a H
 try have p16:=dF h16
 have hok:oU (uL l) 0 l.length=0:=by rw [← heq];exact ZE (by omega)
 clear heq;have Ab:=hv.mono hgm;refine dL ?_;refine K5 _ _ ?_;clear K5;refine kP H (SQ fun _ bG=>SR fun _ bV=>Ro qg 1 rfl rfl (Rl lD rfl (Rm rfl (Kz bV (SB ?_)))));clear H bV;intro a H;skip;refine d9 (ι:=Nat × GH) (Tc:=[(1,_),(2,_),(25,_),(26,_)]) (Lc:=[(_,_),(_,_)]) (fun (gh:Nat × GH)=>[(27,vi gh.1)]) (fun (gh:Nat × GH)=>[]) (fun (gh:Nat × GH)=>gh.2) (fun (gh:Nat × GH)=>gh.1≤l.length∧(l.take gh.1).any (oO l)=false∧(∀ b o,g b=some o→gh.2 b=some o)) (fun (gh:Nat × GH)=>l.length - gh.1) ((0,g)) (by exact (H).sub ⟨rfl,rfl,rfl,rfl,rfl,trivial⟩) ?_ ?_
 ·exact ⟨Nat.zero_le _,rfl,fun _ _ h=>h⟩
 clear H;intro gh a w hI H;obtain ⟨k,g2⟩:=gh;dsimp only at hI H;obtain ⟨hk3,hno,mh⟩:=hI;have uI:=Ab.mono mh;dsimp only [List.cons_append,List.nil_append,List.append_nil] at H;refine kP H (SR fun _ bQ=>Rc rfl (Kz bQ (SQ fun _ bS=>Cd rfl ?_ ?_))) <;> clear H bQ
 ·intro bW a H
  try have p28:=dT bW
  have hk4:k < l.length:=by omega
  obtain ⟨b,o,pA,pc,rfl,hrow,hp,hrep⟩:=xV uI hk4;refine kP H (Kc bS (SQ fun _ cO=>SB (SR fun _ dV=>Ri lD jf rfl rfl ?_)));clear H bS;intro a H;refine aK jf (cs:=[_,_,_,_,_,_]) H wn rfl rfl (fun j v hj=>H.hp.aB (hrow j v hj)) rfl ?_;clear H;intro a H;refine bX jf H wn rfl ?_;clear H;intro b6 a w hb6 H;refine aP jf 0 (vs:=[_,_,_,_,_,_]) _ H wn rfl rfl rfl rfl rfl rfl rfl rfl ?_;clear H;intro w H;dsimp only [List.set,setRow] at H;refine dV _ _ ?_;clear dV;refine kP H (SR fun _ dI=>Rf Km rfl (Ro ak 0 rfl rfl (Rc rfl (Rm rfl (Sp 34 rfl ?_ ?_))))) <;> clear H
  ·intro cZ a H
   try have p34:=dT cZ
   refine kH H (YO qg 2 cZ rfl rfl (YF sP cZ rfl (YO ak 0 cZ rfl rfl (YF Km cZ rfl (YO ak 0 cZ rfl rfl ?_)))));clear H;intro a H;refine s_call Kg H (wg H rfl rfl cZ) rfl (MN _ _ H.hp.ro l l[k].kind l[k].base _ uI) rfl ?_;clear H;rintro v40 g2 a w rfl GV H;replace mh:=fun b o (h:g b=some o)=>GV b o (mh b o h);replace uI:=uI.mono GV;refine kH H (YN cZ rfl (Pt cZ rfl (Rm rfl (Sp 43 rfl ?_ ?_)))) <;> clear H
   ·intro h43 a H
    try have p43:=dT h43
    refine kH H (Ks h43 rfl (Ks h43 rfl (Ks h43 rfl (Ks h43 rfl (Ku rfl (Ku rfl (Ku rfl (Ku rfl (Ku rfl (Ku rfl (Ku rfl (Ku rfl (Ku rfl (Ku rfl ?_))))))))))))));clear H;intro a H;refine kH H (Ks h43 rfl (Pt h43 rfl (Kz dI (Ct rfl rfl (SQ fun _ eH=>?_)))));clear H dI;intro a H;have hbad:l.any (oO l)=true:=qp hk4 (by unfold oO;simp_all);refine mP ?_;refine aP dQ 1 (vs:=[_]) _ H wn rfl rfl rfl rfl rfl rfl rfl rfl ?_;clear H;intro w H;dsimp only [List.set,setRow] at H;refine au ?_;refine eH _ _ ?_;clear eH;refine aR ?_;refine (leave1 H Tryz.results59 (.cons (kR dQ H rfl (H.hp.jE 1 rfl rfl)) .nil) ?_).1
    first
     | exact H.hp.ret (congrArg vi (by rw [eY,if_pos (by omega)]))
     | exact H.hp.ret (congrArg vi (by rw [if_neg (by simpa using gP)] at heq;rw [eY,if_neg (by omega),← heq,if_pos (by simpa using gP)]))
     | exact H.hp.ret (congrArg vi (by rw [eY,if_neg (by omega),if_neg (by rw [hok];decide),if_pos hbad]))
     | exact H.hp.ret (congrArg vi (by rw [eY,if_neg (by omega),if_neg (by rw [hok];decide),if_neg hbad,if_pos (qp hj2 hI)]))
     | exact H.hp.ret (congrArg vi (by rw [eY,if_neg (by omega),if_neg (by rw [hok];decide),if_neg hbad,if_neg (vD (by omega) hnc)]))
   intro h43 a H
   try have p43:=dF h43
   refine kH H (YF Gm h43 rfl (YO ak 0 h43 rfl rfl (YC h43 rfl (YM h43 rfl (Sp 47 rfl ?_ ?_))))) <;> clear H
   ·intro h47 a H
    try have p47:=dT h47
    refine kH H (YF sP h47 rfl (YO ak 0 h47 rfl rfl (YC h47 rfl (YM h47 rfl (Sp 51 rfl ?_ ?_))))) <;> clear H
    ·intro eF a H
     try have p51:=dT eF
     refine kH H (Ks eF rfl (Ks eF rfl (Ks eF rfl (Ks eF rfl (Ks eF rfl (PT h47 eF rfl (PT h43 h47 rfl (Pf h43 rfl (Kz dI (Ct rfl rfl (SQ fun _ fq=>?_)))))))))));clear H dI;intro a H;have hbad:l.any (oO l)=true:=qp hk4 (by unfold oO;simp_all);refine mP ?_;refine aP dQ 1 (vs:=[_]) _ H wn rfl rfl rfl rfl rfl rfl rfl rfl ?_;clear H;intro w H;dsimp only [List.set,setRow] at H;refine au ?_;refine fq _ _ ?_;clear fq;refine aR ?_;refine (leave1 H Tryz.results59 (.cons (kR dQ H rfl (H.hp.jE 1 rfl rfl)) .nil) ?_).1
     first
      | exact H.hp.ret (congrArg vi (by rw [eY,if_pos (by omega)]))
      | exact H.hp.ret (congrArg vi (by rw [if_neg (by simpa using gP)] at heq;rw [eY,if_neg (by omega),← heq,if_pos (by simpa using gP)]))
      | exact H.hp.ret (congrArg vi (by rw [eY,if_neg (by omega),if_neg (by rw [hok];decide),if_pos hbad]))
      | exact H.hp.ret (congrArg vi (by rw [eY,if_neg (by omega),if_neg (by rw [hok];decide),if_neg hbad,if_pos (qp hj2 hI)]))
      | exact H.hp.ret (congrArg vi (by rw [eY,if_neg (by omega),if_neg (by rw [hok];decide),if_neg hbad,if_neg (vD (by omega) hnc)]))
    intro eF a H
    try have p51:=dF eF
    refine kH H (YO qg 2 eF rfl rfl (YF Gm eF rfl (YO ak 0 eF rfl rfl ?_)));clear H;intro a H;refine s_call Kg H (wg H rfl rfl eF) rfl (MN _ _ H.hp.ro l 1 l[k].next _ uI) rfl ?_;clear H;rintro v55 g2 a w rfl rQ H;replace mh:=fun b o (h:g b=some o)=>rQ b o (mh b o h);replace uI:=uI.mono rQ;refine kH H (YN eF rfl (PF h47 eF rfl (PT h43 h47 rfl (Pf h43 rfl (Kz dI (Cd rfl ?_ ?_)))))) <;> clear H dI
    ·intro eP a H
     try have p59:=dT eP
     refine aQ (fun _ gK=>?_);have hbad:l.any (oO l)=true:=qp hk4 (by unfold oO;simp_all);refine mP ?_;refine aP dQ 1 (vs:=[_]) _ H wn rfl rfl rfl rfl rfl rfl rfl rfl ?_;clear H;intro w H;dsimp only [List.set,setRow] at H;refine au ?_;refine gK _ _ ?_;clear gK;refine aR ?_;refine (leave1 H Tryz.results59 (.cons (kR dQ H rfl (H.hp.jE 1 rfl rfl)) .nil) ?_).1
     first
      | exact H.hp.ret (congrArg vi (by rw [eY,if_pos (by omega)]))
      | exact H.hp.ret (congrArg vi (by rw [if_neg (by simpa using gP)] at heq;rw [eY,if_neg (by omega),← heq,if_pos (by simpa using gP)]))
      | exact H.hp.ret (congrArg vi (by rw [eY,if_neg (by omega),if_neg (by rw [hok];decide),if_pos hbad]))
      | exact H.hp.ret (congrArg vi (by rw [eY,if_neg (by omega),if_neg (by rw [hok];decide),if_neg hbad,if_pos (qp hj2 hI)]))
      | exact H.hp.ret (congrArg vi (by rw [eY,if_neg (by omega),if_neg (by rw [hok];decide),if_neg hbad,if_neg (vD (by omega) hnc)]))
    intro eP a H
    try have p59:=dF eP
    refine kP H (Kc cO (SC (Rd rfl (Rm rfl ?_))));clear H cO;intro a H;refine au ?_;refine dD ((k+1,g2)) (by exact (H.bL (Pl:=[_,_,_]) (bB:=[_,_]) [1,2] (by decide) rfl).sub ⟨rfl,rfl,rfl,rfl,rfl,trivial⟩) ?_ ?_
    ·(try dsimp only);exact ⟨by omega,Dx hk4 hno (by unfold oO;simp_all),mh⟩
    first|omega|(dsimp only;omega)
   intro h47 a H
   try have p47:=dF h47
   refine kH H (Ks h47 rfl (Ks h47 rfl (Ks h47 rfl (Ks h47 rfl (Ku rfl (Ku rfl (Ku rfl (Ku rfl (Ku rfl (Ks h47 rfl (PF h43 h47 rfl (Pf h43 rfl (Kz dI (Cf rfl rfl ?_))))))))))))));clear H dI;intro a H;refine kP H (Kc cO (SC (Rd rfl (Rm rfl ?_))));clear H cO;intro a H;refine au ?_;refine dD ((k+1,g2)) (by exact (H.bL (Pl:=[_,_,_]) (bB:=[_,_]) [1,2] (by decide) rfl).sub ⟨rfl,rfl,rfl,rfl,rfl,trivial⟩) ?_ ?_
   ·(try dsimp only);exact ⟨by omega,Dx hk4 hno (by unfold oO;simp_all),mh⟩
   first|omega|(dsimp only;omega)
  intro cZ a H
  try have p34:=dF cZ
  refine kH H (Ks cZ rfl (Ks cZ rfl (Ks cZ rfl (Ks cZ rfl (Ks cZ rfl (Ks cZ rfl (Ks cZ rfl (Pf cZ rfl (Rm rfl ?_)))))))));clear H;intro a H;refine Iy Gm H (wg H rfl rfl rfl) rfl rfl ?_;clear H;intro a H;refine xR ak H (wg H rfl rfl rfl) rfl (H.hp.jE 0 rfl rfl) rfl ?_;clear H;intro a H;refine Iw H (wg H rfl rfl rfl) rfl rfl rfl rfl ?_;clear H;intro a H;refine IC H (wg H rfl rfl rfl) rfl rfl ?_;clear H;intro a H;refine Ub H 47 rfl ?_ ?_
  ·intro h47
   try have p47:=dT h47
   refine kH H (YF sP h47 rfl (YO ak 0 h47 rfl rfl (YC h47 rfl (YM h47 rfl (Sp 51 rfl ?_ ?_))))) <;> clear H
   ·intro eF a H
    try have p51:=dT eF
    refine kH H (Ks eF rfl (Ks eF rfl (Ks eF rfl (Ks eF rfl (Ks eF rfl (PT h47 eF rfl ?_))))));clear H;intro a H;refine IE H (wg H rfl rfl rfl) rfl h47 rfl rfl ?_;clear H;intro a H;refine kH H (Pf rfl rfl (Kz dI (Ct rfl rfl (SQ fun _ gF=>?_))));clear H dI;intro a H;have hbad:l.any (oO l)=true:=qp hk4 (by unfold oO;simp_all);refine mP ?_;refine aP dQ 1 (vs:=[_]) _ H wn rfl rfl rfl rfl rfl rfl rfl rfl ?_;clear H;intro w H;dsimp only [List.set,setRow] at H;refine au ?_;refine gF _ _ ?_;clear gF;refine aR ?_;refine (leave1 H Tryz.results59 (.cons (kR dQ H rfl (H.hp.jE 1 rfl rfl)) .nil) ?_).1
    first
     | exact H.hp.ret (congrArg vi (by rw [eY,if_pos (by omega)]))
     | exact H.hp.ret (congrArg vi (by rw [if_neg (by simpa using gP)] at heq;rw [eY,if_neg (by omega),← heq,if_pos (by simpa using gP)]))
     | exact H.hp.ret (congrArg vi (by rw [eY,if_neg (by omega),if_neg (by rw [hok];decide),if_pos hbad]))
     | exact H.hp.ret (congrArg vi (by rw [eY,if_neg (by omega),if_neg (by rw [hok];decide),if_neg hbad,if_pos (qp hj2 hI)]))
     | exact H.hp.ret (congrArg vi (by rw [eY,if_neg (by omega),if_neg (by rw [hok];decide),if_neg hbad,if_neg (vD (by omega) hnc)]))
   intro eF a H
   try have p51:=dF eF
   refine kH H (YO qg 2 eF rfl rfl (YF Gm eF rfl (YO ak 0 eF rfl rfl ?_)));clear H;intro a H;refine s_call Kg H (wg H rfl rfl eF) rfl (MN _ _ H.hp.ro l 1 l[k].next _ uI) rfl ?_;clear H;rintro v55 g2 a w rfl rQ H;replace mh:=fun b o (h:g b=some o)=>rQ b o (mh b o h);replace uI:=uI.mono rQ;refine kH H (YN eF rfl (PF h47 eF rfl ?_));clear H;intro a H;refine IE H (wg H rfl rfl rfl) rfl h47 rfl rfl ?_;clear H;intro a H;refine kH H (Pf rfl rfl (Kz dI (Cd rfl ?_ ?_))) <;> clear H dI
   ·intro eP a H
    try have p59:=dT eP
    refine aQ (fun _ fO=>?_);have hbad:l.any (oO l)=true:=qp hk4 (by unfold oO;simp_all);refine mP ?_;refine aP dQ 1 (vs:=[_]) _ H wn rfl rfl rfl rfl rfl rfl rfl rfl ?_;clear H;intro w H;dsimp only [List.set,setRow] at H;refine au ?_;refine fO _ _ ?_;clear fO;refine aR ?_;refine (leave1 H Tryz.results59 (.cons (kR dQ H rfl (H.hp.jE 1 rfl rfl)) .nil) ?_).1
    first
     | exact H.hp.ret (congrArg vi (by rw [eY,if_pos (by omega)]))
     | exact H.hp.ret (congrArg vi (by rw [if_neg (by simpa using gP)] at heq;rw [eY,if_neg (by omega),← heq,if_pos (by simpa using gP)]))
     | exact H.hp.ret (congrArg vi (by rw [eY,if_neg (by omega),if_neg (by rw [hok];decide),if_pos hbad]))
     | exact H.hp.ret (congrArg vi (by rw [eY,if_neg (by omega),if_neg (by rw [hok];decide),if_neg hbad,if_pos (qp hj2 hI)]))
     | exact H.hp.ret (congrArg vi (by rw [eY,if_neg (by omega),if_neg (by rw [hok];decide),if_neg hbad,if_neg (vD (by omega) hnc)]))
   intro eP a H
   try have p59:=dF eP
   refine kP H (Kc cO (SC (Rd rfl (Rm rfl ?_))));clear H cO;intro a H;refine au ?_;refine dD ((k+1,g2)) (by exact (H.bL (Pl:=[_,_,_]) (bB:=[_,_]) [1,2] (by decide) rfl).sub ⟨rfl,rfl,rfl,rfl,rfl,trivial⟩) ?_ ?_
   ·(try dsimp only);exact ⟨by omega,Dx hk4 hno (by unfold oO;simp_all),mh⟩
   first|omega|(dsimp only;omega)
  intro h47
  try have p47:=dF h47
  refine kH H (Ks h47 rfl (Ks h47 rfl (Ks h47 rfl (Ks h47 rfl (Ku rfl (Ku rfl (Ku rfl (Ku rfl (Ku rfl (Ks h47 rfl ?_))))))))));clear H;intro a H;refine Nt H (wg H rfl rfl rfl) rfl h47 rfl rfl ?_;clear H;intro a H;refine kH H (Pf rfl rfl (Kz dI (Cf rfl rfl (Kc cO (SC (Rd rfl (Rm rfl ?_)))))));clear H dI cO;intro a H;refine au ?_;refine dD ((k+1,g2)) (by exact (H.bL (Pl:=[_,_,_]) (bB:=[_,_]) [1,2] (by decide) rfl).sub ⟨rfl,rfl,rfl,rfl,rfl,trivial⟩) ?_ ?_
  ·(try dsimp only);exact ⟨by omega,Dx hk4 hno (by unfold oO;simp_all),mh⟩
  first|omega|(dsimp only;omega)
 intro bW a H
 try have p28:=dF bW
 have hbad:=vD (by omega) hno;refine dL ?_;refine bG _ _ ?_;clear bG;refine kP H (SQ fun _ iF=>SR fun _ iT=>Ro qg 1 rfl rfl (Rl lD rfl (Rm rfl (Kz iT (SB ?_)))));clear H iT;intro a H;skip;refine FI (ι:=Nat × GH × List Nat) (Tc:=[(1,_),(2,_),(61,_),(62,_)]) (Lc:=[(_,_),(_,_)]) (fun (gh:Nat × GH × List Nat)=>Cc gh.2.2) (fun (gh:Nat × GH × List Nat)=>[(63,vi gh.1)]) (fun (gh:Nat × GH × List Nat)=>[]++(jl gh.2.2++[])) (fun (gh:Nat × GH × List Nat)=>gh.2.1) (fun (gh:Nat × GH × List Nat)=>gh.1≤l.length∧(l.take gh.1).any (JQ l)=false∧(∀ b o,g2 b=some o→gh.2.1 b=some o)) (fun (gh:Nat × GH × List Nat)=>l.length - gh.1) ((0,g2,[])) (by exact (H).sub ⟨rfl,rfl,rfl,rfl,rfl,trivial⟩) ?_ ?_
 ·exact ⟨Nat.zero_le _,rfl,fun _ _ h=>h⟩
 clear H;intro gh a w hI H;obtain ⟨j,g3,ds⟩:=gh;dsimp only at hI H;obtain ⟨hj,hnc,qF⟩:=hI;have MI:=uI.mono qF;dsimp only [List.cons_append,List.nil_append,List.append_nil] at H;refine kP H (SR fun _ gL=>Rc rfl (Kz gL (SQ fun _ jG=>Cd rfl ?_ ?_))) <;> clear H gL
 ·intro h64 a H
  try have p64:=dT h64
  have hj2:j < l.length:=by omega
  obtain ⟨b,o,pA,pc,rfl,hrow,hp,hrep⟩:=xV MI hj2;refine kP H (Kc jG (SQ fun _ jV=>SB (SR fun _ kV=>Ri lD jf rfl rfl ?_)));clear H jG;intro a H;refine aK jf (cs:=[_,_,_,_,_,_]) H wn rfl rfl (fun j v hj=>H.hp.aB (hrow j v hj)) rfl ?_;clear H;intro a H;refine bX jf H wn rfl ?_;clear H;intro b8 a w rG H;refine aP jf 0 (vs:=[_,_,_,_,_,_]) _ H wn rfl rfl rfl rfl rfl rfl rfl rfl ?_;clear H;intro w H;dsimp only [List.set,setRow] at H;refine kV _ _ ?_;clear kV;refine aY (fun _ kE=>?_);refine bX ak H wn rfl ?_;clear H;intro b9 a w rH H;refine aP ak 0 (vs:=[_]) _ H wn rfl rfl rfl rfl rfl rfl rfl rfl ?_;clear H;intro w H;dsimp only [List.set,setRow] at H;refine kE _ _ ?_;clear kE;refine kP H (SR fun _ ko=>Ro qg 3 rfl rfl (Rf qB rfl (Ro ak 1 rfl rfl ?_)));clear H;intro a H;refine gy Zq (Li:=[_,_,_,_]++jl ds) (L:=[]) (St.un (A:=[_,_,_,_]) H) wn rfl (WU (Hp.owns (Li:=[_,_,_,_]++jl ds) (St.un (A:=[_,_,_,_]) H).hp) l l[j].id _ MI) rfl ?_;clear H;rintro v70 g4 L70 a w ⟨bl,bi,rfl,rfl,hbl⟩ Rp H;have H:=(St.MX (A:=[_,_,_,_,_]) (B:=jl ds) (H.perm List.perm_append_comm));dsimp only [List.cons_append,List.nil_append] at H;have hit:=WT (l:=l) (id:=l[j].id) (bi:=bi) hbl (MI.mono Rp) (SV hok);refine ko _ _ ?_;clear ko;refine lZ ?_;skip;refine Wv (B:=[(_,_)]) (ι:=Unit) (κ:=Int) (Lc:=[(_,_),(_,_)]) (fun (k:Nat) (gh:Unit)=>[(b9,.cells #[vi k] 3 (0,0)),(b2,.cells #[vi 0] 46 (0,0))]) (fun (k:Nat) (gh:Unit)=>(jl ds++[])) (fun (k:Nat) (gh:Unit) (g:GH)=>k≤l.length) (fun (gx:Int)=>Code.ret) (fun (gx:Int)=>[(b9,.cells #[vi gx] 3 (0,0)),(b2,.cells #[vi 16] 46 (0,0))]) (fun (gx:Int)=>(jl ds++[])) (fun (gx:Int) (g:GH)=>JQ l l[j]=true) (()) (by exact H.bL (Pl:=[_,_,_,_,_]) (bB:=[_,_,_,_,_]) [0,2,4,1,3] (by decide) rfl) rfl PN (hit) (fun _ _ h=>h) (fun e i g h=>absurd (of_decide_eq_false e) (by rw [List.length_map] at h;omega)) rfl (fun k args g h=>by obtain ⟨_,_,rfl,_⟩:=Ul h;rfl) (fun _ _ _ _ _ h=>h) (fun _ _ _ _ h=>h) (Nat.zero_le _) ?_ ?_ ?_
  ·clear H;intro l21 oD mM bk k args gh N8 w21 F21 Vk a Q7 xw hI aa0 abx abJ H;obtain ⟨Q7,afS,rfl,ags⟩:=Ul Q7;dsimp only [lY,List.cons_append,List.nil_append] at H;refine eX ?_;refine aa0 _ _ _ _ _ _ (by exact H) ?_;clear H;intro w H;refine kP H (SB (SR fun _ nD=>Ro ak 3 rfl rfl (Rd rfl ?_)));clear H;intro a H;refine aP ak 3 (vs:=[_]) _ H wn rfl rfl rfl rfl rfl rfl rfl rfl ?_;clear H;intro w H;dsimp only [List.set,setRow] at H;refine nD _ _ ?_;clear nD;refine kP H (SR fun _ oM=>Ro ak 3 rfl rfl (Ro qg 2 rfl rfl (Rl lD rfl (Rc rfl (Kz oM (Cd rfl ?_ ?_)))))) <;> clear H oM
   ·intro zW a H
    try have Ch:=dT zW
    refine aY (fun _ mH=>?_);refine aP dQ 4 (vs:=[_]) _ H wn rfl rfl rfl rfl rfl rfl rfl rfl ?_;clear H;intro w H;dsimp only [List.set,setRow] at H;refine mH _ _ ?_;clear mH;refine aR ?_;refine (abJ ((k:Int)+1) _ _ _ _ _ (by exact H) ?_).1 rfl;exact decide_eq_true (by omega)
   intro zW a H
   try have Ch:=dF zW
   refine eX ?_;refine abx (()) _ _ _ _ _ (by exact H) ?_
   omega
  ·clear H;intro NU gh Oe a w xw hI H;dsimp only [List.cons_append,List.nil_append,List.append_nil] at H;refine jV _ _ ?_;clear jV;refine kP H (SC (Rd rfl (Rm rfl ?_)));clear H;intro a H;refine au ?_;refine Ak ((j+1,Oe,NU :: ds)) (by exact (H.bL (Pl:=[_,_,_,_,_]) (bB:=[_,_,_]) [4,2,0] (by decide) rfl).sub ⟨rfl,rfl,rfl,rfl,rfl,trivial⟩) ?_ ?_
   ·(try dsimp only);exact ⟨by omega,Dx hj2 hnc (decide_eq_false (by rw [List.length_map] at hI;omega)),fun b o h=>xw b o (Rp b o (qF b o h))⟩
   first|omega|(dsimp only;omega)
  clear H;intro NU gx Oe a w xw hI H;obtain ⟨x,hgh⟩:∃ x,x=gx:=⟨_,rfl⟩;subst hgh;dsimp only [List.cons_append,List.nil_append,List.append_nil] at H;refine aR ?_;refine (oo H 0 rfl ?_).1;clear H;intro a w H;dsimp only [List.eraseIdx_cons_succ,List.eraseIdx_cons_zero] at H;refine (sV (Lh:=[_,_,_,_]) _ H ?_).1;clear H;intro a w H;dsimp only [List.cons_append,List.nil_append] at H;refine (leave1 H Tryz.results59 (.cons (kR dQ H rfl (H.hp.jE 3 rfl rfl)) .nil) ?_).1
  first
   | exact H.hp.ret (congrArg vi (by rw [eY,if_pos (by omega)]))
   | exact H.hp.ret (congrArg vi (by rw [if_neg (by simpa using gP)] at heq;rw [eY,if_neg (by omega),← heq,if_pos (by simpa using gP)]))
   | exact H.hp.ret (congrArg vi (by rw [eY,if_neg (by omega),if_neg (by rw [hok];decide),if_pos hbad]))
   | exact H.hp.ret (congrArg vi (by rw [eY,if_neg (by omega),if_neg (by rw [hok];decide),if_neg hbad,if_pos (qp hj2 hI)]))
   | exact H.hp.ret (congrArg vi (by rw [eY,if_neg (by omega),if_neg (by rw [hok];decide),if_neg hbad,if_neg (vD (by omega) hnc)]))
 intro h64 a H
 try have p64:=dF h64
 refine dL ?_;refine iF _ _ ?_;clear iF;refine aY (fun _ qm=>?_);refine aP dQ 0 (vs:=[_]) _ H wn rfl rfl rfl rfl rfl rfl rfl rfl ?_;clear H;intro w H;dsimp only [List.set,setRow] at H;refine qm _ _ ?_;clear qm;refine aR ?_;refine (sV (Lh:=[_,_]) _ H ?_).1;clear H;intro a w H;dsimp only [List.cons_append,List.nil_append] at H;refine (leave1 H Tryz.results59 (.cons (kR dQ H rfl (H.hp.jE 0 rfl rfl)) .nil) ?_).1
 first
  | exact H.hp.ret (congrArg vi (by rw [eY,if_pos (by omega)]))
  | exact H.hp.ret (congrArg vi (by rw [if_neg (by simpa using gP)] at heq;rw [eY,if_neg (by omega),← heq,if_pos (by simpa using gP)]))
  | exact H.hp.ret (congrArg vi (by rw [eY,if_neg (by omega),if_neg (by rw [hok];decide),if_pos hbad]))
  | exact H.hp.ret (congrArg vi (by rw [eY,if_neg (by omega),if_neg (by rw [hok];decide),if_neg hbad,if_pos (qp hj2 hI)]))
  | exact H.hp.ret (congrArg vi (by rw [eY,if_neg (by omega),if_neg (by rw [hok];decide),if_neg hbad,if_neg (vD (by omega) hnc)]))
end
section
open Go.RowKit
theorem uT:Ty Tryz.prog 34 1 24 [.slice none 0 0] false:=⟨by kernel_rfl,by kernel_rfl⟩
theorem wD:Tryz.prog.underlying 34=some (.slice 175):=by kernel_rfl
theorem zl:Ty Tryz.prog 175 2 32 [.string ⟨#[]⟩,.string ⟨#[]⟩] true:=⟨by kernel_rfl,by kernel_rfl⟩
theorem Bt:bO Tryz.prog 175 0 0:=⟨by kernel_rfl⟩
theorem Ki:∀ args w,(callFunc 98 args).run Tryz.prog w=.ok (.enter 98 args) w:=enters Tryz.func98 rfl (by kernel_rfl)
theorem Qs:bO Tryz.prog 175 1 1:=⟨by kernel_rfl⟩
theorem Qx:bO Tryz.prog 36 0 0:=⟨by kernel_rfl⟩
theorem Y8:∀ args w,(callFunc 59 args).run Tryz.prog w=.ok (.enter 59 args) w:=enters Tryz.func59 rfl (by kernel_rfl)
theorem Qy:bO Tryz.prog 36 1 1:=⟨by kernel_rfl⟩
theorem Y9:∀ args w,(callFunc 60 args).run Tryz.prog w=.ok (.enter 60 args) w:=enters Tryz.func60 rfl (by kernel_rfl)
theorem aae:bO Tryz.prog 36 2 2:=⟨by kernel_rfl⟩
theorem Za:∀ args w,(callFunc 61 args).run Tryz.prog w=.ok (.enter 61 args) w:=enters Tryz.func61 rfl (by kernel_rfl)
theorem aaf:bO Tryz.prog 36 3 3:=⟨by kernel_rfl⟩
theorem Zb:∀ args w,(callFunc 62 args).run Tryz.prog w=.ok (.enter 62 args) w:=enters Tryz.func62 rfl (by kernel_rfl)
theorem Zz:∀ args w,(callFunc 97 args).run Tryz.prog w=.ok (.enter 97 args) w:=enters Tryz.func97 rfl (by kernel_rfl)
theorem UL {G:GH} {l:List jW} {A:Option Addr} {n c k:Nat} (hv:ah G (.sl 2 (l.map jW.dat)) (.slice A n c)) (hk:k < l.length):∃ b o,A=some ⟨b,o,none⟩∧(∀ j u,l[k].cells[j]?=some u→aB G b (o+k*2+j)=some u):=by
 obtain ⟨A',c',he,_,_,hg⟩:=hv.slice
 injection he with e1 e2 e3
 subst e1;obtain ⟨b,o,cs,h1,h2,h3,h4⟩:=hg k l[k].dat (by simp [hk]);have:=afm h4;subst this;exact ⟨b,o,h1,h3⟩
def UK (k:Nat) (x:jW) (pn:ByteArray):Int:=cu [bJ (!l8 x.name) 13,bJ (decide (0 < (k:Int)) && (x.name.toList == pn.toList)) 7,bJ (decide (0 < (k:Int)) && Op.bytesLess x.name.toList pn.toList) 6,xX x.value]
def CU (l:List jW) (k:Nat):Int:=match l[k]? with|some x=>UK k x ((l[k - 1]?.map jW.name).getD ⟨#[]⟩)|none=>0
set_option maxHeartbeats 2000000 in
theorem afl {G:GH} {bl:Nat} {l:List jW} {A:Option Addr} {n c:Nat} (hb:aB G bl 0=some (.slice A n c)) (hv:ah G (.sl 2 (l.map jW.dat)) (.slice A n c)) (hl:l.length≤4294967296) (ht:∀ x∈l,x.name.size < 4611686018427387904∧x.value.size < 4611686018427387904):oL (.func (.func 97) #[] #[.pointer (some ⟨bl,0,none⟩)]) G l.length (CU l):=by
 intro k hk G1 w0 hm hG;refine jI (caps:=[.pointer (some ⟨bl,0,none⟩)]) Zz ?_;replace hb:=aD hm hb;replace hv:=hv.mono hm
 obtain rfl:n=l.length:=by have:=hv.len;simpa using this
 obtain ⟨b,o,rfl,hrow⟩:=UL hv hk
 have hk1:k - 1 < l.length:=by omega
 obtain ⟨b',o',he',hrow'⟩:=UL hv hk1
 injection he' with he'
 injection he' with e1 e2
 subst e1;subst e2;have hte:=ht _ (List.getElem_mem hk)
 have he:CU l k=UK k l[k] l[k - 1].name:=by unfold CU;rw [List.getElem?_eq_getElem hk,List.getElem?_eq_getElem hk1];rfl
 obtain ⟨x,hx⟩:∃ x,x=l[k]:=⟨_,rfl⟩;obtain ⟨y,hy⟩:∃ y,y=l[k - 1]:=⟨_,rfl⟩;rw [← hx] at hrow hte he;rw [← hy] at hrow' he;refine eN [(0,_),(1,_)] Tryz.func97 rfl Tryz.ntmps97 rfl rfl hG ?_;intro a H;refine kP H (SR fun _ K1=>Ra rfl (Kz K1 (SQ fun _ K2=>?_)));clear H K1;intro a H;have H:=H.sub (T':=[(0,_),(1,_)]) ⟨rfl,rfl,trivial⟩
 by_cases c0:0 < (k:Int)
 ·skip;refine dz (hmx) [[],[],[0,1],[0,1,2],[0,1,2,3],[0,1,2,3,4],[0,1,2,3,4,5],(List.range 7),[],[8],(List.range 10),(List.range 11),(List.range 11),(List.range 13),(List.range 14),(List.range 15),(List.range 11),(List.range 11),(List.range 11++[17]),(List.range 11++[17,18]),(List.range 11++[16,17,18,19]),(List.range 11++[16,17,18,19,20]),(List.range 11++[16,17,18,19,20,21]),(List.range 23),(List.range 24),(List.range 25),[],[26],(List.range 28),(List.range 29),(List.range 29),(List.range 31),(List.range 32),(List.range 33),(List.range 29),(List.range 29),(List.range 29++[35]),(List.range 29++[35,36]),(List.range 29++[34,35,36,37]),(List.range 29++[34,35,36,37,38]),(List.range 29++[34,35,36,37,38,39]),(List.range 41),(List.range 42),(List.range 43),[],[],[44,45],[44,45,46],[44,45,46,47],(List.range 49),(List.range 50),(List.range 51),(List.range 52)] [50,51,52] (by kernel_rfl) (by kernel_rfl) (fun (aC:Nat) (v:Value) (G:GH)=>match aC with|0=>v=.slice (some ⟨b,o,none⟩) l.length c|1=>v=vi k|2=>v=.pointer (some ⟨b,o+k*2,none⟩)|3=>v=.pointer (some ⟨b,o+k*2+0,none⟩)|4=>v=.string x.name|5=>v=.bool (l8 x.name)|6=>v=.bool (!l8 x.name)|7=>v=vi (bJ (!l8 x.name) 13)|8=>v=vi k|9=>v=.bool (decide (0 < (k:Int)))|10=>v=.bool (decide (0 < (k:Int)))|11=>v=.slice (some ⟨b,o,none⟩) l.length c|12=>v=vi k|13=>v=.pointer (some ⟨b,o+k*2,none⟩)|14=>v=.pointer (some ⟨b,o+k*2+0,none⟩)|15=>v=.string x.name|16=>v=.slice (some ⟨b,o,none⟩) l.length c|17=>v=vi k|18=>v=vi ((max k 1:Nat):Int)|19=>v=vi ((k - 1:Nat):Int)|20=>v=.pointer (some ⟨b,o+(k - 1)*2,none⟩)|21=>v=.pointer (some ⟨b,o+(k - 1)*2+0,none⟩)|22=>v=.string y.name|23=>v=.bool (x.name.toList == y.name.toList)|24=>v=.bool (decide (0 < (k:Int)) && (x.name.toList == y.name.toList))|25=>v=vi (bJ (decide (0 < (k:Int)) && (x.name.toList == y.name.toList)) 7)|26=>v=vi k|27=>v=.bool (decide (0 < (k:Int)))|28=>v=.bool (decide (0 < (k:Int)))|29=>v=.slice (some ⟨b,o,none⟩) l.length c|30=>v=vi k|31=>v=.pointer (some ⟨b,o+k*2,none⟩)|32=>v=.pointer (some ⟨b,o+k*2+0,none⟩)|33=>v=.string x.name|34=>v=.slice (some ⟨b,o,none⟩) l.length c|35=>v=vi k|36=>v=vi ((max k 1:Nat):Int)|37=>v=vi ((k - 1:Nat):Int)|38=>v=.pointer (some ⟨b,o+(k - 1)*2,none⟩)|39=>v=.pointer (some ⟨b,o+(k - 1)*2+0,none⟩)|40=>v=.string y.name|41=>v=.bool (Op.bytesLess x.name.toList y.name.toList)|42=>v=.bool (decide (0 < (k:Int)) && Op.bytesLess x.name.toList y.name.toList)|43=>v=vi (bJ (decide (0 < (k:Int)) && Op.bytesLess x.name.toList y.name.toList) 6)|44=>v=.slice (some ⟨b,o,none⟩) l.length c|45=>v=vi k|46=>v=.pointer (some ⟨b,o+k*2,none⟩)|47=>v=.pointer (some ⟨b,o+k*2+1,none⟩)|48=>v=.string x.value|49=>v=vi (xX x.value)|_=>True) (fun _ _ _ _ _ h=>h) H ?_ ?_
  ·clear H;refine av (X0 rfl fun hG=>Rg uT rfl (aD hG hb)) (Z0 rfl (Rm rfl)) (Z2 0 4 1 5 rfl (Ri wD zl rfl rfl)) (Z1 2 6 rfl (Rf Bt rfl)) (av (X1 3 7 rfl fun hG=>Rg gB rfl (aD hG (hrow 0 _ rfl))) ?_ (Z1 5 9 rfl (Rn rfl)) ?_ (av (Z0 rfl (Rm rfl)) (Z1 8 12 rfl (Rc rfl)) (Z1 9 13 rfl (Rm rfl)) (X1 10 14 rfl fun hG=>YR uT (ay c0) rfl (aD hG hb)) (av (Z1 10 14 rfl (YM (ay c0) rfl)) (Z3 11 15 12 16 10 14 rfl (YI wD zl (ay c0) rfl rfl)) (Z2 13 17 10 14 rfl (YF Bt (ay c0) rfl)) (X2 14 18 10 14 rfl fun hG=>YR gB (ay c0) rfl (aD hG (hrow 0 _ rfl))) (av (X1 10 14 rfl fun hG=>YR uT (ay c0) rfl (aD hG hb)) (Z1 10 14 rfl (YM (ay c0) rfl)) ?_ ?_ (av (Z3 16 20 19 23 10 14 rfl (YI wD zl (ay c0) rfl rfl)) (Z2 20 24 10 14 rfl (YF Bt (ay c0) rfl)) (X2 21 25 10 14 rfl fun hG=>YR gB (ay c0) rfl (aD hG (hrow' 0 _ rfl))) ?_ (av ?_ ?_ (Z0 rfl (Rm rfl)) (Z1 26 30 rfl (Rc rfl)) (av (Z1 27 31 rfl (Rm rfl)) (X1 28 32 rfl fun hG=>YR uT (ay c0) rfl (aD hG hb)) (Z1 28 32 rfl (YM (ay c0) rfl)) (Z3 29 33 30 34 28 32 rfl (YI wD zl (ay c0) rfl rfl)) (av (Z2 31 35 28 32 rfl (YF Bt (ay c0) rfl)) (X2 32 36 28 32 rfl fun hG=>YR gB (ay c0) rfl (aD hG (hrow 0 _ rfl))) (X1 28 32 rfl fun hG=>YR uT (ay c0) rfl (aD hG hb)) (Z1 28 32 rfl (YM (ay c0) rfl)) (av ?_ ?_ (Z3 34 38 37 41 28 32 rfl (YI wD zl (ay c0) rfl rfl)) (Z2 38 42 28 32 rfl (YF Bt (ay c0) rfl)) (av (X2 39 43 28 32 rfl fun hG=>YR gB (ay c0) rfl (aD hG (hrow' 0 _ rfl))) ?_ ?_ ?_ (av (X0 rfl fun hG=>Rg uT rfl (aD hG hb)) (Z0 rfl (Rm rfl)) (Z2 44 48 45 49 rfl (Ri wD zl rfl rfl)) (Z1 46 50 rfl (Rf Qs rfl)) (av (X1 47 51 rfl fun hG=>Rg gB rfl (aD hG (hrow 1 _ rfl))) ?_ (aT rfl) (aT rfl) (bq (aT rfl) dh)))))))))))))
   ·refine dS 4 8 rfl rfl fun _ a w G1 hG HT H fin=>?_;refine s_call Ki H wn rfl (JO _ _ H.hp.ro x.name hte.1) rfl ?_;clear H;rintro v9 G9 a w ⟨rfl,-⟩ BG H;exact fin H BG (rfl)
   ·refine dS 6 10 rfl rfl fun _ a w G1 hG HT H fin=>?_;refine s_call gX H wn rfl (iy _ _ H.hp.ro _ 13) rfl ?_;clear H;rintro v11 qj a w ⟨rfl,-⟩ pR H;exact fin H pR (rfl)
   ·refine dK 17 21 10 14 rfl rfl fun _ a w G1 hG HT H fin=>?_;refine Iz H (wg H rfl rfl (ay c0)) rfl rfl rfl ?_;clear H;intro a H;exact fin H iJ (by first|rfl|exact congrArg vi (by omega))
   ·refine dK 18 22 10 14 rfl rfl fun _ a w G1 hG HT H fin=>?_;refine nk _ H (wg H rfl rfl (ay c0)) rfl rfl rfl (by omega) (by omega) rfl ?_;clear H;intro a H;exact fin H iJ (by first|rfl|exact congrArg vi (by omega))
   ·refine wK 15 19 22 26 10 14 rfl rfl fun _ a w G1 hG HT H fin=>?_;refine EO H (wg H rfl rfl (ay c0)) rfl rfl rfl ?_;clear H;intro a H;exact fin H iJ rfl
   ·refine dK 10 14 23 27 rfl rfl fun _ a w G1 hG HT H fin=>?_;refine kH H (Pt (ay c0) rfl ?_);clear H;intro a H;exact fin H iJ (congrArg Value.bool (by first|(rw [decide_eq_true c0,Bool.true_and];done)|(rw [decide_eq_false c0,Bool.false_and];done)))
   ·refine dS 24 28 rfl rfl fun _ a w G1 hG HT H fin=>?_;refine s_call gX H wn rfl (iy _ _ H.hp.ro _ 7) rfl ?_;clear H;rintro v29 Vw a w ⟨rfl,-⟩ KR H;exact fin H KR (rfl)
   ·refine dK 35 39 28 32 rfl rfl fun _ a w G1 hG HT H fin=>?_;refine Iz H (wg H rfl rfl (ay c0)) rfl rfl rfl ?_;clear H;intro a H;exact fin H iJ (by first|rfl|exact congrArg vi (by omega))
   ·refine dK 36 40 28 32 rfl rfl fun _ a w G1 hG HT H fin=>?_;refine nk _ H (wg H rfl rfl (ay c0)) rfl rfl rfl (by omega) (by omega) rfl ?_;clear H;intro a H;exact fin H iJ (by first|rfl|exact congrArg vi (by omega))
   ·refine wK 33 37 40 44 28 32 rfl rfl fun _ a w G1 hG HT H fin=>?_;refine ad8 H (wg H rfl rfl (ay c0)) rfl rfl rfl ?_;clear H;intro a H;exact fin H iJ rfl
   ·refine dK 28 32 41 45 rfl rfl fun _ a w G1 hG HT H fin=>?_;refine kH H (Pt (ay c0) rfl ?_);clear H;intro a H;exact fin H iJ (congrArg Value.bool (by first|(rw [decide_eq_true c0,Bool.true_and];done)|(rw [decide_eq_false c0,Bool.false_and];done)))
   ·refine dS 42 46 rfl rfl fun _ a w G1 hG HT H fin=>?_;refine s_call gX H wn rfl (iy _ _ H.hp.ro _ 6) rfl ?_;clear H;rintro v47 Jf a w ⟨rfl,-⟩ KV H;exact fin H KV (rfl)
   refine dS 48 52 rfl rfl fun _ a w G1 hG HT H fin=>?_;refine s_call Kh H wn rfl (NH _ _ H.hp.ro x.value hte.2) rfl ?_;clear H;rintro v53 Vz a w rfl KW H;exact fin H KW (rfl)
  clear H;intro a w G kZ H hv;have H:=H.aM (hv 7 11 rfl rfl) rfl;have H:=H.aM (hv 25 29 rfl rfl) rfl;have H:=H.aM (hv 43 47 rfl rfl) rfl;have H:=H.aM (hv 49 53 rfl rfl) rfl;clear hv;refine fM lU dQ [_,_,_,_] [_,_,_,_] H wn rfl rfl rfl rfl rfl (by intro i q h;match i,h with|0,h=>exact h|1,h=>exact h|2,h=>exact h|3,h=>exact h|n+4,h=>simp at h) rfl rfl ?_;clear H;intro V6 a w aaX H;obtain ⟨VA,abo,LA,H⟩:=H.dB;refine s_call mR H wn rfl (mU _ _ H.hp.ro _ _ (Ac [bJ (!l8 x.name) 13,bJ (decide (0 < (k:Int)) && (x.name.toList == y.name.toList)) 7,bJ (decide (0 < (k:Int)) && Op.bytesLess x.name.toList y.name.toList) 6,xX x.value] LA (show 4≤maxLen by decide))) rfl ?_;clear H;rintro v55 _ a w ⟨rfl,rfl⟩ - H;refine kH H (Ra rfl ?_);clear H;intro a H;refine au ⟨rfl,?_⟩;refine K2 _ _ ?_;clear K2;refine lr H Tryz.results97 rfl ?_;exact H.hp.ret (by rw [he];rfl)
 skip;refine dz (hmx) [[],[],[0,1],[0,1,2],[0,1,2,3],[0,1,2,3,4],[0,1,2,3,4,5],(List.range 7),[],[8],(List.range 10),(List.range 11),(List.range 11),(List.range 13),(List.range 14),(List.range 15),(List.range 11),(List.range 11),(List.range 11++[17]),(List.range 11++[17,18]),(List.range 11++[16,17,18,19]),(List.range 11++[16,17,18,19,20]),(List.range 11++[16,17,18,19,20,21]),(List.range 23),(List.range 24),(List.range 25),[],[26],(List.range 28),(List.range 29),(List.range 29),(List.range 31),(List.range 32),(List.range 33),(List.range 29),(List.range 29),(List.range 29++[35]),(List.range 29++[35,36]),(List.range 29++[34,35,36,37]),(List.range 29++[34,35,36,37,38]),(List.range 29++[34,35,36,37,38,39]),(List.range 41),(List.range 42),(List.range 43),[],[],[44,45],[44,45,46],[44,45,46,47],(List.range 49),(List.range 50),(List.range 51),(List.range 52)] [50,51,52] (by kernel_rfl) (by kernel_rfl) (fun (aC:Nat) (v:Value) (G:GH)=>match aC with|0=>v=.slice (some ⟨b,o,none⟩) l.length c|1=>v=vi k|2=>v=.pointer (some ⟨b,o+k*2,none⟩)|3=>v=.pointer (some ⟨b,o+k*2+0,none⟩)|4=>v=.string x.name|5=>v=.bool (l8 x.name)|6=>v=.bool (!l8 x.name)|7=>v=vi (bJ (!l8 x.name) 13)|8=>v=vi k|9=>v=.bool (decide (0 < (k:Int)))|10=>v=.bool (decide (0 < (k:Int)))|11=>v=undef|12=>v=undef|13=>v=undef|14=>v=undef|15=>v=undef|16=>v=undef|17=>v=undef|18=>v=undef|19=>v=undef|20=>v=undef|21=>v=undef|22=>v=undef|23=>v=undef|24=>v=.bool (decide (0 < (k:Int)) && (x.name.toList == y.name.toList))|25=>v=vi (bJ (decide (0 < (k:Int)) && (x.name.toList == y.name.toList)) 7)|26=>v=vi k|27=>v=.bool (decide (0 < (k:Int)))|28=>v=.bool (decide (0 < (k:Int)))|29=>v=undef|30=>v=undef|31=>v=undef|32=>v=undef|33=>v=undef|34=>v=undef|35=>v=undef|36=>v=undef|37=>v=undef|38=>v=undef|39=>v=undef|40=>v=undef|41=>v=undef|42=>v=.bool (decide (0 < (k:Int)) && Op.bytesLess x.name.toList y.name.toList)|43=>v=vi (bJ (decide (0 < (k:Int)) && Op.bytesLess x.name.toList y.name.toList) 6)|44=>v=.slice (some ⟨b,o,none⟩) l.length c|45=>v=vi k|46=>v=.pointer (some ⟨b,o+k*2,none⟩)|47=>v=.pointer (some ⟨b,o+k*2+1,none⟩)|48=>v=.string x.value|49=>v=vi (xX x.value)|_=>True) (fun _ _ _ _ _ h=>h) H ?_ ?_
 ·clear H;refine av (X0 rfl fun hG=>Rg uT rfl (aD hG hb)) (Z0 rfl (Rm rfl)) (Z2 0 4 1 5 rfl (Ri wD zl rfl rfl)) (Z1 2 6 rfl (Rf Bt rfl)) (av (X1 3 7 rfl fun hG=>Rg gB rfl (aD hG (hrow 0 _ rfl))) ?_ (Z1 5 9 rfl (Rn rfl)) ?_ (av (Z0 rfl (Rm rfl)) (Z1 8 12 rfl (Rc rfl)) (Z1 9 13 rfl (Rm rfl)) (aV (j:=10) (by kernel_rfl) (fun _ _ _ _ _ h=>h) rfl rfl rfl rfl rfl (fun _ _ h=>Eq.trans h (congrArg Value.bool (aL c0))) rfl (fun _=>rfl)) (av (aV (j:=10) (by kernel_rfl) (fun _ _ _ _ _ h=>h) rfl rfl rfl rfl rfl (fun _ _ h=>Eq.trans h (congrArg Value.bool (aL c0))) rfl (fun _=>rfl)) (aV (j:=10) (by kernel_rfl) (fun _ _ _ _ _ h=>h) rfl rfl rfl rfl rfl (fun _ _ h=>Eq.trans h (congrArg Value.bool (aL c0))) rfl (fun _=>rfl)) (aV (j:=10) (by kernel_rfl) (fun _ _ _ _ _ h=>h) rfl rfl rfl rfl rfl (fun _ _ h=>Eq.trans h (congrArg Value.bool (aL c0))) rfl (fun _=>rfl)) (aV (j:=10) (by kernel_rfl) (fun _ _ _ _ _ h=>h) rfl rfl rfl rfl rfl (fun _ _ h=>Eq.trans h (congrArg Value.bool (aL c0))) rfl (fun _=>rfl)) (av (aV (j:=10) (by kernel_rfl) (fun _ _ _ _ _ h=>h) rfl rfl rfl rfl rfl (fun _ _ h=>Eq.trans h (congrArg Value.bool (aL c0))) rfl (fun _=>rfl)) (aV (j:=10) (by kernel_rfl) (fun _ _ _ _ _ h=>h) rfl rfl rfl rfl rfl (fun _ _ h=>Eq.trans h (congrArg Value.bool (aL c0))) rfl (fun _=>rfl)) (aV (j:=10) (by kernel_rfl) (fun _ _ _ _ _ h=>h) rfl rfl rfl rfl rfl (fun _ _ h=>Eq.trans h (congrArg Value.bool (aL c0))) rfl (fun _=>rfl)) (aV (j:=10) (by kernel_rfl) (fun _ _ _ _ _ h=>h) rfl rfl rfl rfl rfl (fun _ _ h=>Eq.trans h (congrArg Value.bool (aL c0))) rfl (fun _=>rfl)) (av (aV (j:=10) (by kernel_rfl) (fun _ _ _ _ _ h=>h) rfl rfl rfl rfl rfl (fun _ _ h=>Eq.trans h (congrArg Value.bool (aL c0))) rfl (fun _=>rfl)) (aV (j:=10) (by kernel_rfl) (fun _ _ _ _ _ h=>h) rfl rfl rfl rfl rfl (fun _ _ h=>Eq.trans h (congrArg Value.bool (aL c0))) rfl (fun _=>rfl)) (aV (j:=10) (by kernel_rfl) (fun _ _ _ _ _ h=>h) rfl rfl rfl rfl rfl (fun _ _ h=>Eq.trans h (congrArg Value.bool (aL c0))) rfl (fun _=>rfl)) (aV (j:=10) (by kernel_rfl) (fun _ _ _ _ _ h=>h) rfl rfl rfl rfl rfl (fun _ _ h=>Eq.trans h (congrArg Value.bool (aL c0))) rfl (fun _=>rfl)) (av ?_ ?_ (Z0 rfl (Rm rfl)) (Z1 26 30 rfl (Rc rfl)) (av (Z1 27 31 rfl (Rm rfl)) (aV (j:=28) (by kernel_rfl) (fun _ _ _ _ _ h=>h) rfl rfl rfl rfl rfl (fun _ _ h=>Eq.trans h (congrArg Value.bool (aL c0))) rfl (fun _=>rfl)) (aV (j:=28) (by kernel_rfl) (fun _ _ _ _ _ h=>h) rfl rfl rfl rfl rfl (fun _ _ h=>Eq.trans h (congrArg Value.bool (aL c0))) rfl (fun _=>rfl)) (aV (j:=28) (by kernel_rfl) (fun _ _ _ _ _ h=>h) rfl rfl rfl rfl rfl (fun _ _ h=>Eq.trans h (congrArg Value.bool (aL c0))) rfl (fun _=>rfl)) (av (aV (j:=28) (by kernel_rfl) (fun _ _ _ _ _ h=>h) rfl rfl rfl rfl rfl (fun _ _ h=>Eq.trans h (congrArg Value.bool (aL c0))) rfl (fun _=>rfl)) (aV (j:=28) (by kernel_rfl) (fun _ _ _ _ _ h=>h) rfl rfl rfl rfl rfl (fun _ _ h=>Eq.trans h (congrArg Value.bool (aL c0))) rfl (fun _=>rfl)) (aV (j:=28) (by kernel_rfl) (fun _ _ _ _ _ h=>h) rfl rfl rfl rfl rfl (fun _ _ h=>Eq.trans h (congrArg Value.bool (aL c0))) rfl (fun _=>rfl)) (aV (j:=28) (by kernel_rfl) (fun _ _ _ _ _ h=>h) rfl rfl rfl rfl rfl (fun _ _ h=>Eq.trans h (congrArg Value.bool (aL c0))) rfl (fun _=>rfl)) (av (aV (j:=28) (by kernel_rfl) (fun _ _ _ _ _ h=>h) rfl rfl rfl rfl rfl (fun _ _ h=>Eq.trans h (congrArg Value.bool (aL c0))) rfl (fun _=>rfl)) (aV (j:=28) (by kernel_rfl) (fun _ _ _ _ _ h=>h) rfl rfl rfl rfl rfl (fun _ _ h=>Eq.trans h (congrArg Value.bool (aL c0))) rfl (fun _=>rfl)) (aV (j:=28) (by kernel_rfl) (fun _ _ _ _ _ h=>h) rfl rfl rfl rfl rfl (fun _ _ h=>Eq.trans h (congrArg Value.bool (aL c0))) rfl (fun _=>rfl)) (aV (j:=28) (by kernel_rfl) (fun _ _ _ _ _ h=>h) rfl rfl rfl rfl rfl (fun _ _ h=>Eq.trans h (congrArg Value.bool (aL c0))) rfl (fun _=>rfl)) (av (aV (j:=28) (by kernel_rfl) (fun _ _ _ _ _ h=>h) rfl rfl rfl rfl rfl (fun _ _ h=>Eq.trans h (congrArg Value.bool (aL c0))) rfl (fun _=>rfl)) (aV (j:=28) (by kernel_rfl) (fun _ _ _ _ _ h=>h) rfl rfl rfl rfl rfl (fun _ _ h=>Eq.trans h (congrArg Value.bool (aL c0))) rfl (fun _=>rfl)) ?_ ?_ (av (X0 rfl fun hG=>Rg uT rfl (aD hG hb)) (Z0 rfl (Rm rfl)) (Z2 44 48 45 49 rfl (Ri wD zl rfl rfl)) (Z1 46 50 rfl (Rf Qs rfl)) (av (X1 47 51 rfl fun hG=>Rg gB rfl (aD hG (hrow 1 _ rfl))) ?_ (aT rfl) (aT rfl) (bq (aT rfl) dh)))))))))))))
  ·refine dS 4 8 rfl rfl fun _ a w G1 hG HT H fin=>?_;refine s_call Ki H wn rfl (JO _ _ H.hp.ro x.name hte.1) rfl ?_;clear H;rintro v9 G9 a w ⟨rfl,-⟩ BG H;exact fin H BG (rfl)
  ·refine dS 6 10 rfl rfl fun _ a w G1 hG HT H fin=>?_;refine s_call gX H wn rfl (iy _ _ H.hp.ro _ 13) rfl ?_;clear H;rintro v11 qj a w ⟨rfl,-⟩ pR H;exact fin H pR (rfl)
  ·refine dK 10 14 23 27 rfl rfl fun _ a w G1 hG HT H fin=>?_;refine kH H (Pf (aL c0) rfl ?_);clear H;intro a H;exact fin H iJ (congrArg Value.bool (by first|(rw [decide_eq_true c0,Bool.true_and];done)|(rw [decide_eq_false c0,Bool.false_and];done)))
  ·refine dS 24 28 rfl rfl fun _ a w G1 hG HT H fin=>?_;refine s_call gX H wn rfl (iy _ _ H.hp.ro _ 7) rfl ?_;clear H;rintro v29 Vw a w ⟨rfl,-⟩ KR H;exact fin H KR (rfl)
  ·refine dK 28 32 41 45 rfl rfl fun _ a w G1 hG HT H fin=>?_;refine kH H (Pf (aL c0) rfl ?_);clear H;intro a H;exact fin H iJ (congrArg Value.bool (by first|(rw [decide_eq_true c0,Bool.true_and];done)|(rw [decide_eq_false c0,Bool.false_and];done)))
  ·refine dS 42 46 rfl rfl fun _ a w G1 hG HT H fin=>?_;refine s_call gX H wn rfl (iy _ _ H.hp.ro _ 6) rfl ?_;clear H;rintro v47 Jf a w ⟨rfl,-⟩ KV H;exact fin H KV (rfl)
  refine dS 48 52 rfl rfl fun _ a w G1 hG HT H fin=>?_;refine s_call Kh H wn rfl (NH _ _ H.hp.ro x.value hte.2) rfl ?_;clear H;rintro v53 Vz a w rfl KW H;exact fin H KW (rfl)
 clear H;intro a w G kZ H hv;have H:=H.aM (hv 7 11 rfl rfl) rfl;have H:=H.aM (hv 25 29 rfl rfl) rfl;have H:=H.aM (hv 43 47 rfl rfl) rfl;have H:=H.aM (hv 49 53 rfl rfl) rfl;clear hv;refine fM lU dQ [_,_,_,_] [_,_,_,_] H wn rfl rfl rfl rfl rfl (by intro i q h;match i,h with|0,h=>exact h|1,h=>exact h|2,h=>exact h|3,h=>exact h|n+4,h=>simp at h) rfl rfl ?_;clear H;intro V6 a w aaX H;obtain ⟨VA,abo,LA,H⟩:=H.dB;refine s_call mR H wn rfl (mU _ _ H.hp.ro _ _ (Ac [bJ (!l8 x.name) 13,bJ (decide (0 < (k:Int)) && (x.name.toList == y.name.toList)) 7,bJ (decide (0 < (k:Int)) && Op.bytesLess x.name.toList y.name.toList) 6,xX x.value] LA (show 4≤maxLen by decide))) rfl ?_;clear H;rintro v55 _ a w ⟨rfl,rfl⟩ - H;refine kH H (Ra rfl ?_);clear H;intro a H;refine au ⟨rfl,?_⟩;refine K2 _ _ ?_;clear K2;refine lr H Tryz.results97 rfl ?_;exact H.hp.ret (by rw [he];rfl)
def FM (l:List jW):Int:=cu [bJ (decide (128 < (l.length:Int))) 9,jr (CU l) (min l.length 128)]
theorem Xb (G:GH) (w0:World) (hG:Hold G w0) (l:List jW) (v:Value) (hv:ah G (.sl 2 (l.map jW.dat)) v) (hl:l.length≤4294967296) (ht:∀ x∈l,x.name.size < 4611686018427387904∧x.value.size < 4611686018427387904) :
  Calls Tryz.prog 62 #[v] w0 (aU w0 G fun u G'=>u=vi (FM l)):=by
 obtain ⟨A,c,rfl,hc1,hc2,-⟩:=hv.slice;rw [List.length_map] at *;refine eN [(0,_)] Tryz.func62 rfl Tryz.ntmps62 rfl rfl hG ?_;intro a H;refine aY (fun _ K1=>?_);refine bY (cs:=[_]) H wn rfl rfl rfl ?_;clear H;intro b1 a w hb1 H;refine kH H (Ra rfl (Kz K1 (SQ fun _ K2=>?_)));clear H K1;intro a H;have H:=H.sub (T':=[(1,_)]) ⟨rfl,trivial⟩;obtain ⟨Ga,hma,hb1',H⟩:=H.dB
 have hbl:aB Ga b1 0=some (.slice A l.length c):=by unfold aB;rw [hb1'];rfl
 have hcb:=afl hbl (hv.mono hma) hl ht;refine dz (hmx) [[],[0],[0,1],[0,1,2],[],[4],[4,5],[],(List.range 8),(List.range 9),(List.range 10),(List.range 11)] [9,10,11] (by kernel_rfl) (by kernel_rfl) (fun (aC:Nat) (v:Value) (G:GH)=>match aC with|0=>v=.slice A l.length c|1=>v=vi l.length|2=>v=.bool (decide (128 < (l.length:Int)))|3=>v=vi (bJ (decide (128 < (l.length:Int))) 9)|4=>v=.slice A l.length c|5=>v=vi l.length|6=>v=vi ((min l.length 128:Nat):Int)|7=>v=.func (.func 97) #[] #[.pointer (some ⟨b1,0,none⟩)]|8=>v=vi (jr (CU l) (min l.length 128))|_=>True) (fun _ _ _ _ _ h=>h) H ?_ ?_
 ·clear H;refine av (X0 rfl fun hG=>Rg uT rfl (aD hG hbl)) (Z1 0 3 rfl (Rl wD rfl)) (Z1 1 4 rfl (Rc rfl)) ?_ (av (X0 rfl fun hG=>Rg uT rfl (aD hG hbl)) (Z1 4 7 rfl (Rl wD rfl)) ?_ ?_ (av ?_ (aT rfl) (aT rfl) (aT rfl) dh))
  ·refine dS 2 5 rfl rfl fun _ a w G1 hG HT H fin=>?_;refine s_call gX H wn rfl (iy _ _ H.hp.ro _ 9) rfl ?_;clear H;rintro v6 G6 a w ⟨rfl,-⟩ jd H;exact fin H jd (rfl)
  ·refine dS 5 8 rfl rfl fun _ a w G1 hG HT H fin=>?_;refine IB H wn rfl rfl rfl ?_;clear H;intro a H;exact fin H iJ (congrArg vi (by omega))
  ·refine wJ rfl fun _ a w G1 hG HT H fin=>?_;refine lT H wn rfl rfl ?_;clear H;intro a H;exact fin H iJ rfl
  refine dK 6 9 7 10 rfl rfl fun _ a w G1 hG HT H fin=>?_;refine s_call Bp H wn rfl (Du _ _ H.hp.ro (min l.length 128) (CU l) _ (by omega) ((hcb.mono hG).le (Nat.min_le_left _ _))) rfl ?_;clear H;rintro v11 qj a w rfl pR H;exact fin H pR (rfl)
 clear H;intro a w G kZ H hv;have H:=H.aM (hv 3 6 rfl rfl) rfl;have H:=H.aM (hv 8 11 rfl rfl) rfl;clear hv;refine fM lU dQ [_,_] [_,_] H wn rfl rfl rfl rfl rfl (by intro i q h;match i,h with|0,h=>exact h|1,h=>exact h|n+2,h=>simp at h) rfl rfl ?_;clear H;intro b12 a w BL H;obtain ⟨zx,Ep,zY,H⟩:=H.dB;refine s_call mR H wn rfl (mU _ _ H.hp.ro _ _ (tu zY)) rfl ?_;clear H;rintro v13 _ a w ⟨rfl,rfl⟩ - H;refine kH H (Ra rfl ?_);clear H;intro a H;refine au ⟨rfl,?_⟩;refine K2 _ _ ?_;clear K2;refine lr H Tryz.results62 rfl ?_;exact H.hp.ret rfl
/-- Settings. -/
structure wL where
 styles:List bg
 lists:List eD
 comments:List gD
 vars:List jW
structure Ba (G:GH) (s:wL) (a b c d:Value):Prop where
 st:ah G (.sl 6 (s.styles.map bg.dat)) a
 li:ah G (.sl 2 (s.lists.map eD.dat)) b
 cm:ah G (.sl 6 (s.comments.map gD.dat)) c
 va:ah G (.sl 2 (s.vars.map jW.dat)) d
/-- Bounds that no machine passes. -/
structure Jt (s:wL):Prop where
 sn:∀ x∈s.styles,x.name.size≤4611686018427387904
 ln:s.lists.length≤4294967296
 lt:∀ x∈s.lists,∀ y∈x.levels,y.uS.size < 4611686018427387904
 cn:s.comments.length≤4294967296
 ct:∀ x∈s.comments,x.author.size < 4611686018427387904∧x.text.size < 4611686018427387904
 vn:s.vars.length≤4294967296
 vt:∀ x∈s.vars,x.name.size < 4611686018427387904∧x.value.size < 4611686018427387904
def FL (s:wL):Int:=cu [eY s.styles,Dz s.lists,FK s.comments,FM s.vars]
theorem Xa (G:GH) (w0:World) (hG:Hold G w0) (s:wL) (a b c d:Value) (hR:Ba G s a b c d) (hz:Jt s) :
  Calls Tryz.prog 40 #[.agg #[a,b,c,d]] w0 (aU w0 G fun u G'=>u=vi (FL s)):=by
 obtain ⟨sA,sn,sc,rfl⟩:=hR.st.form;obtain ⟨lA,ln,lc,rfl⟩:=hR.li.form;obtain ⟨cA,cn,cc,rfl⟩:=hR.cm.form;obtain ⟨vA,vn,vc,rfl⟩:=hR.va.form;refine eN [(0,_)] Tryz.func40 rfl Tryz.ntmps40 rfl rfl hG ?_;intro a H;refine aY (fun _ K1=>?_);refine bY (cs:=[_,_,_,_]) H wn rfl rfl rfl ?_;clear H;intro b1 a w hb1 H;refine kH H (Ra rfl (Kz K1 (SQ fun _ K2=>?_)));clear H K1;intro a H;have H:=H.sub (T':=[(1,_)]) ⟨rfl,trivial⟩;obtain ⟨Ga,hma,hb1',H⟩:=H.dB
 have hc0:aB Ga b1 0=some (.slice sA sn sc):=by unfold aB;rw [hb1'];rfl
 have hc1:aB Ga b1 1=some (.slice lA ln lc):=by unfold aB;rw [hb1'];rfl
 have hc2:aB Ga b1 2=some (.slice cA cn cc):=by unfold aB;rw [hb1'];rfl
 have hc3:aB Ga b1 3=some (.slice vA vn vc):=by unfold aB;rw [hb1'];rfl
 refine dz (hmx) [[],[0],[0,1],[],[3],[0,1,2,3,4],[],[6],(List.range 8),[],[9],(List.range 11),(List.range 12),(List.range 13),(List.range 14)] [12,13,14] (by kernel_rfl) (by kernel_rfl) (fun (aC:Nat) (v:Value) (G:GH)=>match aC with|0=>v=.pointer (some ⟨b1,0,none⟩)|1=>v=.slice sA sn sc|2=>v=vi (eY s.styles)|3=>v=.pointer (some ⟨b1,1,none⟩)|4=>v=.slice lA ln lc|5=>v=vi (Dz s.lists)|6=>v=.pointer (some ⟨b1,2,none⟩)|7=>v=.slice cA cn cc|8=>v=vi (FK s.comments)|9=>v=.pointer (some ⟨b1,3,none⟩)|10=>v=.slice vA vn vc|11=>v=vi (FM s.vars)|_=>True) (fun _ _ _ _ _ h=>h) H ?_ ?_
 ·clear H;refine av (Z0 rfl (Rf Qx rfl)) (X1 0 3 rfl fun hG=>Rg qg rfl (aD hG hc0)) ?_ (Z0 rfl (Rf Qy rfl)) (av (X1 3 6 rfl fun hG=>Rg CJ rfl (aD hG hc1)) ?_ (Z0 rfl (Rf aae rfl)) (X1 6 9 rfl fun hG=>Rg CK rfl (aD hG hc2)) (av ?_ (Z0 rfl (Rf aaf rfl)) (X1 9 12 rfl fun hG=>Rg uT rfl (aD hG hc3)) ?_ (bq (aT rfl) (bq (aT rfl) (bq (aT rfl) dh)))))
  ·refine dS 1 4 rfl rfl fun _ a w G1 hG HT H fin=>?_;refine s_call Y8 H wn rfl (Xd _ _ H.hp.ro s.styles _ ((hR.st.mono hma).mono hG) hz.sn) rfl ?_;clear H;rintro v5 G5 a w rfl yM H;exact fin H yM (rfl)
  ·refine dS 4 7 rfl rfl fun _ a w G1 hG HT H fin=>?_;refine s_call Y9 H wn rfl (WY _ _ H.hp.ro s.lists _ ((hR.li.mono hma).mono hG) hz.ln hz.lt) rfl ?_;clear H;rintro v8 G8 a w rfl oV H;exact fin H oV (rfl)
  ·refine dS 7 10 rfl rfl fun _ a w G1 hG HT H fin=>?_;refine s_call Za H wn rfl (WW _ _ H.hp.ro s.comments _ ((hR.cm.mono hma).mono hG) hz.cn hz.ct) rfl ?_;clear H;rintro v11 qj a w rfl pR H;exact fin H pR (rfl)
  refine dS 10 13 rfl rfl fun _ a w G1 hG HT H fin=>?_;refine s_call Zb H wn rfl (Xb _ _ H.hp.ro s.vars _ ((hR.va.mono hma).mono hG) hz.vn hz.vt) rfl ?_;clear H;rintro v14 qV a w rfl vQ H;exact fin H vQ (rfl)
 clear H;intro a w G kZ H hv;have H:=H.aM (hv 2 5 rfl rfl) rfl;have H:=H.aM (hv 5 8 rfl rfl) rfl;have H:=H.aM (hv 8 11 rfl rfl) rfl;have H:=H.aM (hv 11 14 rfl rfl) rfl;clear hv;refine fM lU dQ [_,_,_,_] [_,_,_,_] H wn rfl rfl rfl rfl rfl (by intro i q h;match i,h with|0,h=>exact h|1,h=>exact h|2,h=>exact h|3,h=>exact h|n+4,h=>simp at h) rfl rfl ?_;clear H;intro b15 a w GL H;obtain ⟨zy,rO,aaR,H⟩:=H.dB;refine s_call mR H wn rfl (mU _ _ H.hp.ro _ _ (Ac [eY s.styles,Dz s.lists,FK s.comments,FM s.vars] aaR (show 4≤maxLen by decide))) rfl ?_;clear H;rintro v16 _ a w ⟨rfl,rfl⟩ - H;refine kH H (Ra rfl ?_);clear H;intro a H;refine au ⟨rfl,?_⟩;refine K2 _ _ ?_;clear K2;refine lr H Tryz.results40 rfl ?_;exact H.hp.ret rfl
end
section
open Go.RowKit
/-- The entries of a map that was filled in an order. -/
def qL:Nat→List (Int × Value)→List MapEntry
 | _,[]=>[]
 | i,(k,v) :: r=>⟨.int .i64 k,v,i⟩ :: qL (i+1) r
theorem SA (x:Int × Value):∀ (i:Nat) (l:List (Int × Value)),qL i (l++[x])=qL i l++[⟨.int .i64 x.1,x.2,i+l.length⟩]
 | _,[]=>rfl
 | i,k :: r=>by
  rw [List.cons_append,qL,SA x (i+1) r,qL,List.cons_append,List.length_cons,show i+1+r.length=i+(r.length+1) by omega]
def oq (x:Int):List (Int × Value)→Option Value
 | []=>none
 | (k,v) :: r=>if k=x then some v else oq x r
theorem HV {x:Int}:∀ {l:List (Int × Value)},x∉l.map (·.1)→oq x l=none
 | [],_=>rfl
 | (k,v) :: r,h=>by
  rw [oq,if_neg (fun e=>h (by simp [e])),HV (fun hm=>h (List.mem_cons_of_mem _ hm))]
theorem Kv (x:Int):∀ (i j:Nat) (l:List (Int × Value)),∃ an,Instr.findNow (.int .i64) (.int .i64 x) (qL i l) j=some an∧an.map (·.2)=oq x l
 | _,_,[]=>⟨none,rfl,rfl⟩
 | i,j,(k,v) :: r=>by
  obtain ⟨an,h1,h2⟩:=Kv x (i+1) (j+1) r
  by_cases e:k=x
  ·subst e
   exact ⟨some (j,v),by simp only [qL,Instr.findNow,Instr.sameNow,if_pos,beq_self_eq_true],by rw [oq,if_pos rfl];rfl⟩
  ·have hb:(x == k)=false:=by simp;exact fun h=>e h.symm
   exact ⟨an,by simpa only [qL,Instr.findNow,Instr.sameNow,if_pos,hb] using h1,by rw [oq,if_neg e];exact h2⟩
abbrev dU (l:List (Int × Value)):Obj:=.map (qL 0 l).toArray l.length
section
variable {N:Nat} {D:List Deferred} {w0:World} {F:Nat→Prop} {G0 G:GH} {L:OL} {T:List (Nat × Value)}
variable {r:Option Nat} {P:Program} {ops:Array Oper} {Q:Exit→Act→World→Prop} {rest:List Oper} {a:Act} {w:World}
variable {d:Nat} {ty:TypeId} {pos:String} {aG:Array Edge} {g:Option (Nat × Bool)}
theorem uR {t kt et:TypeId} {x y:Operand} {b:Nat} {l:List (Int × Value)} {ky:Int} {zv:Value} (hm:P.underlying t=some (.map kt et)) (hk:P.underlying kt=some (.int .i64)) (hz:(P.info? et).map (fun i=>i.zero)=some (some zv)) (H:St N D w0 F G0 G L T a w)
  (hw:Region.wanted ⟨some d,.lookup t x y false,ty,pos,aG,g⟩ (yielded ops a.tmps)=true) (hx:ev T x=some (.map (some b))) (hy:ev T y=some (.int .i64 ky)) (hb:w.heap[b]?=some (dU l)) (hd:Nat.blt d N=true)
  (k:∀ a',St N D w0 F G0 G L ((d,(oq ky l).getD zv) :: T) a' w→WL r P ops Q rest a' w):WL r P ops Q (⟨some d,.lookup t x y false,ty,pos,aG,g⟩ :: rest) a w:=by
 obtain ⟨an,hf,han⟩:=Kv ky 0 0 l
 obtain ⟨inf,hi1,hi2⟩:=Option.map_eq_some_iff.1 hz
 refine eT (v:=(oq ky l).getD zv) (w':=w) hw rfl ?_ (k _ (H.put hd _ H.hp))
 have hkey:MapKept.IsKey (.int .i64) (.int .i64 ky):=by trivial
 have hf2:Instr.findNow (.int .i64) (.int .i64 ky) (qL 0 l).toArray.toList 0=some an:=by simpa using hf
 replace hb:w.heap[b]?=some (.map (qL 0 l).toArray l.length):=hb
 generalize (qL 0 l).toArray=es at hb hf2
 have h1:=MapKept.run_checkKey (P:=P) (w:=w) hk hkey es.isEmpty 9999
 have h2:=MapKept.run_findKey (P:=P) (w:=w) hk hf2
 rw [← han]
 cases an with
 | none=>simp [execOp,Instr.lookup,H.ev hx,H.ev hy,Sem.run_bind,mE hm,MapKept.run_getObj_map hb,h1,h2,Result.andThen,zeroValue,Ar hi1,hi2]
 | some q=>simp [execOp,Instr.lookup,H.ev hx,H.ev hy,Sem.run_bind,mE hm,MapKept.run_getObj_map hb,h1,h2,Result.andThen]
/-- A key that is not there yet. -/
theorem IG {t kt et:TypeId} {x y z:Operand} {b i:Nat} {l:List (Int × Value)} {ky:Int} {v:Value} (hm:P.underlying t=some (.map kt et)) (hk:P.underlying kt=some (.int .i64)) (H:St N D w0 F G0 G L T a w)
  (hw:Region.wanted ⟨none,.mapUpdate t x y z,ty,pos,aG,g⟩ (yielded ops a.tmps)=true) (hx:ev T x=some (.map (some b))) (hy:ev T y=some (.int .i64 ky)) (hzv:ev T z=some v) (hi:L[i]?=some (b,dU l)) (hn:oq ky l=none)
  (k:∀ w',St N D w0 F G0 G (L.set i (b,dU (l++[(ky,v)]))) T a w'→WL r P ops Q rest a w'):WL r P ops Q (⟨none,.mapUpdate t x y z,ty,pos,aG,g⟩ :: rest) a w:=by
 obtain ⟨an,hf,han⟩:=Kv ky 0 0 l
 have hnone:an=none:=by
  rw [hn] at han
  cases an with
  | none=>rfl
  | some q=>cases han
 subst hnone
 refine TV (i:=i) hm hk H hw hx hy hzv hi (by trivial) (by simpa using hf) ?_
 intro w' H'
 have e:(qL 0 l).toArray.push ⟨.int .i64 ky,v,l.length⟩=(qL 0 (l++[(ky,v)])).toArray:=by
  rw [SA,List.push_toArray,Nat.zero_add]
 refine k w' ?_
 rw [e] at H'
 rw [dU,List.length_append]
 exact H'
end
end
section
open Go.RowKit
theorem wC:Tryz.prog.underlying 105=some (.map 3 4):=by kernel_rfl
theorem Aw:Ty Tryz.prog 135 3 32 [.int .i64 0,.string ⟨#[]⟩,.int .i64 0] true:=⟨by kernel_rfl,by kernel_rfl⟩
theorem aeG:oN Tryz.prog 107 [(0,1),(1,1),(2,1),(3,1),(4,1),(5,1)] [.map none,.map none,.map none,.map none,.map none,.int .i64 0]:=⟨by kernel_rfl,by kernel_rfl⟩
theorem Kq:bO Tryz.prog 38 3 7:=⟨by kernel_rfl⟩
theorem DU:bO Tryz.prog 107 0 0:=⟨by kernel_rfl⟩
theorem EP:Ty Tryz.prog 104 1 8 [.map none] false:=⟨by kernel_rfl,by kernel_rfl⟩
theorem Qi:bO Tryz.prog 107 1 1:=⟨by kernel_rfl⟩
theorem wu:Ty Tryz.prog 105 1 8 [.map none] false:=⟨by kernel_rfl,by kernel_rfl⟩
theorem Ko:bO Tryz.prog 38 2 6:=⟨by kernel_rfl⟩
theorem zm:Ty Tryz.prog 30 1 24 [.slice none 0 0] false:=⟨by kernel_rfl,by kernel_rfl⟩
theorem zo:Tryz.prog.underlying 30=some (.slice 135):=by kernel_rfl
theorem DV:bO Tryz.prog 107 2 2:=⟨by kernel_rfl⟩
theorem Ql:bO Tryz.prog 135 0 0:=⟨by kernel_rfl⟩
structure dJ where
 id:Int
 author:ByteArray
 time:Int
def dJ.dat (x:dJ):List Dat:=[li x.id,.lf (.string x.author),li x.time]
abbrev dJ.cells (x:dJ):List Value:=[vi x.id,.string x.author,vi x.time]
theorem adZ {G:GH} {x:dJ} {cs:List Value} (h:aO G x.dat cs):cs=x.cells:=by
 simp only [dJ.dat,aO,ah] at h
 obtain ⟨_,_,rfl,⟨rfl,_⟩,_,_,rfl,⟨rfl,_⟩,_,_,rfl,⟨rfl,_⟩,rfl⟩:=h
 rfl
theorem Nk {G:GH} {l:List dJ} {A:Option Addr} {n c k:Nat} (hv:ah G (.sl 3 (l.map dJ.dat)) (.slice A n c)) (hk:k < l.length):∃ b o,A=some ⟨b,o,none⟩∧(∀ j u,l[k].cells[j]?=some u→aB G b (o+k*3+j)=some u):=by
 obtain ⟨A',c',he,_,_,hg⟩:=hv.slice
 injection he with e1 e2 e3
 subst e1;obtain ⟨b,o,cs,h1,h2,h3,h4⟩:=hg k l[k].dat (by simp [hk]);have:=adZ h4;subst this;exact ⟨b,o,h1,h3⟩
/-- A checker's block. -/
abbrev dW (b ms ml mr mb mu:Nat) (n:Int):Nat × Obj:=(b,.cells #[.map (some ms),.map (some ml),.map (some mr),.map (some mb),.map (some mu),vi n] 107 (0,0))
def vV (l:List bg):List (Int × Value):=l.map fun s=>(s.id,vi s.kind)
def dX (l:List Int):List (Int × Value):=l.map fun k=>(k,.bool true)
/-- What a checker holds of a document's tables. -/
structure qh (G:GH) (st:List bg) (li:List eD) (rv:List dJ) (ms ml mr mu:Nat):Prop where
 sty:G ms=some (dU (vV st))
 uK:G ml=some (dU (dX (li.map eD.id)))
 rev:G mr=some (dU (dX (rv.map dJ.id)))
 use:G mu=some (dU [])
theorem qh.mono {G G':GH} {st:List bg} {li:List eD} {rv:List dJ} {ms ml mr mu:Nat} (h:qh G st li rv ms ml mr mu) (hm:∀ b o,G b=some o→G' b=some o):qh G' st li rv ms ml mr mu:=⟨hm _ _ h.sty,hm _ _ h.uK,hm _ _ h.rev,hm _ _ h.use⟩
def wE (l:List Int):Prop:=∀ (k:Nat) (h:k < l.length),l[k]∉l.take k
theorem acG {l:List bg} {k:Nat} (h:k < l.length):vV (l.take (k+1))=vV (l.take k)++[(l[k].id,vi l[k].kind)]:=by rw [vV,List.take_succ_eq_append_getElem h,List.map_append];rfl
theorem Sy {l:List Int} {k:Nat} (h:k < l.length):dX (l.take (k+1))=dX (l.take k)++[(l[k],.bool true)]:=by rw [dX,List.take_succ_eq_append_getElem h,List.map_append];rfl
theorem acF {l:List bg} {k:Nat} (f:wE (l.map bg.id)) (h:k < l.length):oq l[k].id (vV (l.take k))=none:=by
 refine HV ?_;have:=f k (by simpa using h)
 simpa [vV,List.map_take,List.map_map,Function.comp_def] using this
theorem Sw {l:List Int} {k:Nat} (f:wE l) (h:k < l.length):oq l[k] (dX (l.take k))=none:=by
 refine HV ?_;have:=f k h
 simpa [dX,List.map_map,Function.comp_def] using this
theorem acL (G:GH) (w0:World) (hO:gT G [] w0) (D:jh) (st:List bg) (li:List eD) (rv:List dJ) (hst:ah G (.sl 6 (st.map bg.dat)) (dY D.s1)) (Eo:ah G (.sl 2 (li.map eD.dat)) (dY D.s2)) (uG:ah G (.sl 3 (rv.map dJ.dat)) (dY D.r))
  (f1:wE (st.map bg.id)) (f2:wE (li.map eD.id)) (f3:wE (rv.map dJ.id)) (z1:st.length≤4294967296) (z2:li.length≤4294967296) (z3:rv.length≤4294967296) :
  Calls Tryz.prog 42 #[D.val] w0 (fQ w0 G [] fun u G' L'=>∃ b ms ml mr mb mu,u=.pointer (some ⟨b,0,none⟩)∧L'=[dW b ms ml mr mb mu 0,(mb,dU [])]∧qh G' st li rv ms ml mr mu):=by
 obtain ⟨df,dp,dd,dy,⟨rA,rn,rc⟩,⟨sA,sn,sc⟩,⟨lA,ln,lc⟩,d3,d4,ins,mv⟩:=D;dsimp only at hst Eo uG
 obtain rfl:sn=st.length:=by have:=hst.len;simpa using this
 obtain rfl:ln=li.length:=by have:=Eo.len;simpa using this
 obtain rfl:rn=rv.length:=by have:=uG.len;simpa using this
 have hml:maxLen=9223372036854775807:=rfl;refine jv (N:=64) (T:=[(0,_)]) Tryz.func42 rfl Tryz.ntmps42 rfl rfl hO ?_;intro a H;refine aY (fun _ K1=>?_);refine bY (cs:=[_,_,_,_,_,_,_,_,_,_,_]) H wn rfl rfl rfl ?_;clear H;intro b1 a w hb1 H;refine kH H (Ra rfl (Kz K1 (SQ fun _ K2=>?_)));clear H K1;intro a H;obtain ⟨Ga,hma,hb1',H⟩:=H.dB
 have hc7:aB Ga b1 7=some (.slice sA st.length sc):=by unfold aB;rw [hb1'];rfl
 have hc8:aB Ga b1 8=some (.slice lA li.length lc):=by unfold aB;rw [hb1'];rfl
 have hc6:aB Ga b1 6=some (.slice rA rv.length rc):=by unfold aB;rw [hb1'];rfl
 replace hst:=hst.mono hma;replace Eo:=Eo.mono hma;replace uG:=uG.mono hma;refine mP ?_;refine Cu H wn rfl ?_;clear H;intro b10 a w BJ H;refine Cu H wn rfl ?_;clear H;intro b11 a w yO H;refine Cu H wn rfl ?_;clear H;intro b12 a w BL H;refine Cu H wn rfl ?_;clear H;intro b13 a w Ei H;refine Cu H wn rfl ?_;clear H;intro b14 a w QU H;refine iP aeG [_,_,_,_,_,_] H wn rfl rfl rfl rfl ?_;clear H;intro a H;refine bY (cs:=[_,_,_,_,_,_]) H wn rfl rfl rfl ?_;clear H;intro b16 a w afZ H;refine kH H (Ra rfl (Kn K2 (SQ fun _ K3=>SR fun _ K4=>Rf Kq rfl (Rf Qx rfl (Rg qg rfl (by assumption) ?_)))));clear H K2;intro a H;refine kH H (Rl lD rfl (Rm rfl (Kz K4 (SB ?_))));clear H K4;intro a H;skip;refine d9 (ι:=Nat × GH) (Tc:=[(1,_),(3,_),(19,_),(20,_)]) (Lc:=[(_,_),(_,_),(_,_),(_,_),(_,_)]) (fun (gh:Nat × GH)=>[(21,vi gh.1)]) (fun (gh:Nat × GH)=>[(b10,dU (vV (st.take gh.1)))]) (fun (gh:Nat × GH)=>gh.2) (fun (gh:Nat × GH)=>gh.1≤st.length∧(∀ b o,Ga b=some o→gh.2 b=some o)) (fun (gh:Nat × GH)=>st.length - gh.1) ((0,Ga)) (by exact (H).sub ⟨rfl,rfl,rfl,rfl,rfl,trivial⟩) ?_ ?_
 ·exact ⟨Nat.zero_le _,fun _ _ h=>h⟩
 clear H;intro gh a w hI H;obtain ⟨k,g1⟩:=gh;dsimp only at hI H;obtain ⟨hk,BQ⟩:=hI;dsimp only [List.cons_append,List.nil_append,List.append_nil] at H;refine kP H (SR fun _ K5=>Rc rfl (Kz K5 (SQ fun _ K6=>Cd rfl ?_ ?_))) <;> clear H K5
 ·intro h22 a H
  try have gP:=dT h22
  have hk2:k < st.length:=by omega
  obtain ⟨xb,xo,pA,pc,rfl,hrow,-,-⟩:=xV (hst.mono BQ) hk2;have hnew:=acF f1 hk2;refine kP H (Kc K6 (SQ fun _ K7=>SB (SR fun _ K8=>Ri lD jf rfl rfl ?_)));clear H K6;intro a H;refine aK jf (cs:=_) H wn rfl rfl (fun j v hj=>H.hp.aB (hrow j v hj)) rfl ?_;clear H;intro a H;refine bX jf H wn rfl ?_;clear H;intro b5 a w hb5 H;refine aP jf 0 (vs:=[_,_,_,_,_,_]) _ H wn rfl rfl rfl rfl rfl rfl rfl rfl ?_;clear H;intro w H;dsimp only [List.set,setRow] at H;refine K8 _ _ ?_;clear K8;refine dz (hmx) [[],[0],[0,1],[0,1,2],[],[4],[],[6],(List.range 8)] [8] (by kernel_rfl) (by kernel_rfl) (fun (aC:Nat) (v:Value) (G:GH)=>match aC with|0=>v=.pointer (some ⟨b16,0,none⟩)|1=>v=.pointer (some ⟨b16,0,none⟩)|2=>v=.pointer (some ⟨b16,0,none⟩)|3=>v=.map (some b10)|4=>v=.pointer (some ⟨b5,0,none⟩)|5=>v=vi st[k].id|6=>v=.pointer (some ⟨b5,1,none⟩)|7=>v=vi st[k].kind|_=>True) (fun _ _ _ _ _ h=>h) H ?_ ?_
  ·exact av (Z0 rfl (Rm rfl)) (Z1 0 25 rfl (Rk rfl)) (Z1 1 26 rfl (Rf DU rfl)) (Z1 2 27 rfl (Ro EP 1 rfl rfl)) (av (Z0 rfl (Rf qB rfl)) (Z1 4 29 rfl (Ro ak 0 rfl rfl)) (Z0 rfl (Rf sP rfl)) (Z1 6 31 rfl (Ro ak 0 rfl rfl)) (bq (aT rfl) dh))
  clear H;intro a w G yM H hv;have H:=H.aM (hv 3 28 rfl rfl) rfl;have H:=H.aM (hv 5 30 rfl rfl) rfl;have H:=H.aM (hv 7 32 rfl rfl) rfl;clear hv;refine IG (i:=6) Ay kU H wn rfl rfl rfl rfl hnew ?_;clear H;intro w H;dsimp only [List.set,List.append,List.cons_append,List.nil_append] at H;rw [← acG hk2] at H;refine au ⟨rfl,?_⟩;refine K7 _ _ ?_;clear K7;refine kP H (SC (Rd rfl (Rm rfl ?_)));clear H;intro a H;refine au ?_;refine dD ((k+1,G)) (by exact (H.bL (Pl:=[_,_,_,_,_,_,_]) (bB:=[_,_,_,_,_,_]) [1,2,3,4,5,6] (by decide) rfl).sub ⟨rfl,rfl,rfl,rfl,rfl,trivial⟩) ?_ ?_
  ·(try dsimp only);exact ⟨by omega,fun b o h=>yM b o (BQ b o h)⟩
  first|omega|(dsimp only;omega)
 intro h22 a H
 try have gP:=dF h22
 obtain rfl:k=st.length:=by omega
 rw [List.take_length] at H;have agd:=aD BQ hc8;refine dL ?_;refine K3 _ _ ?_;clear K3;refine kP H (SQ fun _ K9=>SR fun _ aH=>Rf Kq rfl (Rf Qy rfl (Rg CJ rfl (by assumption) ?_)));clear H;intro a H;refine kH H (Rl CQ rfl (Rm rfl (Kz aH (SB ?_))));clear H aH;intro a H;skip;refine d9 (ι:=Nat × GH) (Tc:=[(1,_),(3,_),(36,_),(37,_)]) (Lc:=[(_,_),(_,_),(_,_),(_,_),(_,_)]) (fun (gh:Nat × GH)=>[(38,vi gh.1)]) (fun (gh:Nat × GH)=>[(b11,dU (dX ((li.map eD.id).take gh.1)))]) (fun (gh:Nat × GH)=>gh.2) (fun (gh:Nat × GH)=>gh.1≤li.length∧(∀ b o,g1 b=some o→gh.2 b=some o)) (fun (gh:Nat × GH)=>li.length - gh.1) ((0,g1)) (by exact (H.bL (Pl:=[_,_,_,_,_,_]) (bB:=[_,_,_,_,_,_]) [0,1,2,3,5,4] (by decide) rfl).sub ⟨rfl,rfl,rfl,rfl,rfl,trivial⟩) ?_ ?_
 ·exact ⟨Nat.zero_le _,fun _ _ h=>h⟩
 clear H;intro gh a w hI H;obtain ⟨k,g2⟩:=gh;dsimp only at hI H;obtain ⟨hk,GY⟩:=hI;dsimp only [List.cons_append,List.nil_append,List.append_nil] at H;refine kP H (SR fun _ aX=>Rc rfl (Kz aX (SQ fun _ bD=>Cd rfl ?_ ?_))) <;> clear H aX
 ·intro gY a H
  try have p39:=dT gY
  have hk2:k < li.length:=by omega
  obtain ⟨xb,xo,B,d,rfl,hrow,-⟩:=MS ((Eo.mono BQ).mono GY) hk2
  have hk3:k < (li.map eD.id).length:=by simpa using hk2
  have hnew:=Sw f2 hk3
  have En:(li.map eD.id)[k]=li[k].id:=by simp
  rw [En] at hnew;refine kP H (Kc bD (SQ fun _ bH=>SB (SR fun _ bG=>Ri CQ Cx rfl rfl ?_)));clear H bD;intro a H;refine aK Cx (cs:=_) H wn rfl rfl (fun j v hj=>H.hp.aB (hrow j v hj)) rfl ?_;clear H;intro a H;refine bX Cx H wn rfl ?_;clear H;intro b7 a w pU H;refine aP Cx 0 (vs:=[_,_]) _ H wn rfl rfl rfl rfl rfl rfl rfl rfl ?_;clear H;intro w H;dsimp only [List.set,setRow] at H;refine bG _ _ ?_;clear bG;refine dz (hmx) [[],[0],[0,1],[0,1,2],[],[4],[0,1,2,3,4,5]] [6] (by kernel_rfl) (by kernel_rfl) (fun (aC:Nat) (v:Value) (G:GH)=>match aC with|0=>v=.pointer (some ⟨b16,0,none⟩)|1=>v=.pointer (some ⟨b16,0,none⟩)|2=>v=.pointer (some ⟨b16,1,none⟩)|3=>v=.map (some b11)|4=>v=.pointer (some ⟨b7,0,none⟩)|5=>v=vi li[k].id|_=>True) (fun _ _ _ _ _ h=>h) H ?_ ?_
  ·exact av (Z0 rfl (Rm rfl)) (Z1 0 42 rfl (Rk rfl)) (Z1 1 43 rfl (Rf Qi rfl)) (Z1 2 44 rfl (Ro wu 1 rfl rfl)) (bq (Z0 rfl (Rf Qn rfl)) (bq (Z1 4 46 rfl (Ro ak 0 rfl rfl)) (bq (aT rfl) dh)))
  clear H;intro a w G pQ H hv;have H:=H.aM (hv 3 45 rfl rfl) rfl;have H:=H.aM (hv 5 47 rfl rfl) rfl;clear hv;refine IG (i:=6) wC kU H wn rfl rfl rfl rfl hnew ?_;clear H;intro w H;dsimp only [List.set,List.append,List.cons_append,List.nil_append] at H;rw [← En,← Sy hk3] at H;refine au ⟨rfl,?_⟩;refine bH _ _ ?_;clear bH;refine kP H (SC (Rd rfl (Rm rfl ?_)));clear H;intro a H;refine au ?_;refine dD ((k+1,G)) (by exact (H.bL (Pl:=[_,_,_,_,_,_,_]) (bB:=[_,_,_,_,_,_]) [1,2,3,4,5,6] (by decide) rfl).sub ⟨rfl,rfl,rfl,rfl,rfl,trivial⟩) ?_ ?_
  ·(try dsimp only);exact ⟨by omega,fun b o h=>pQ b o (GY b o h)⟩
  first|omega|(dsimp only;omega)
 intro gY a H
 try have p39:=dF gY
 obtain rfl:k=li.length:=by omega
 rw [List.take_of_length_le (by simp)] at H;have agc:=aD GY (aD BQ hc6);refine dL ?_;refine K9 _ _ ?_;clear K9;refine kP H (SQ fun _ bV=>SR fun _ bQ=>Rf Ko rfl (Rg zm rfl (by assumption) ?_));clear H;intro a H;refine kH H (Rl zo rfl (Rm rfl (Kz bQ (SB ?_))));clear H bQ;intro a H;skip;refine d9 (ι:=Nat × GH) (Tc:=[(3,_),(50,_),(51,_)]) (Lc:=[(_,_),(_,_),(_,_),(_,_),(_,_)]) (fun (gh:Nat × GH)=>[(52,vi gh.1)]) (fun (gh:Nat × GH)=>[(b12,dU (dX ((rv.map dJ.id).take gh.1)))]) (fun (gh:Nat × GH)=>gh.2) (fun (gh:Nat × GH)=>gh.1≤rv.length∧(∀ b o,g2 b=some o→gh.2 b=some o)) (fun (gh:Nat × GH)=>rv.length - gh.1) ((0,g2)) (by exact (H.bL (Pl:=[_,_,_,_,_,_]) (bB:=[_,_,_,_,_,_]) [0,1,2,4,5,3] (by decide) rfl).sub ⟨rfl,rfl,rfl,rfl,trivial⟩) ?_ ?_
 ·exact ⟨Nat.zero_le _,fun _ _ h=>h⟩
 clear H;intro gh a w hI H;obtain ⟨k,g3⟩:=gh;dsimp only at hI H;obtain ⟨hk,Rt⟩:=hI;dsimp only [List.cons_append,List.nil_append,List.append_nil] at H;refine kP H (SR fun _ bS=>Rc rfl (Kz bS (SQ fun _ cO=>Cd rfl ?_ ?_))) <;> clear H bS
 ·intro jT a H
  try have p53:=dT jT
  have hk2:k < rv.length:=by omega
  obtain ⟨xb,xo,rfl,hrow⟩:=Nk (((uG.mono BQ).mono GY).mono Rt) hk2
  have hk3:k < (rv.map dJ.id).length:=by simpa using hk2
  have hnew:=Sw f3 hk3
  have En:(rv.map dJ.id)[k]=rv[k].id:=by simp
  rw [En] at hnew;refine kP H (Kc cO (SQ fun _ dV=>SB (SR fun _ dI=>Ri zo Aw rfl rfl ?_)));clear H cO;intro a H;refine aK Aw (cs:=_) H wn rfl rfl (fun j v hj=>H.hp.aB (hrow j v hj)) rfl ?_;clear H;intro a H;refine bX Aw H wn rfl ?_;clear H;intro b9 a w rH H;refine aP Aw 0 (vs:=[_,_,_]) _ H wn rfl rfl rfl rfl rfl rfl rfl rfl ?_;clear H;intro w H;dsimp only [List.set,setRow] at H;refine dI _ _ ?_;clear dI;refine dz (hmx) [[],[0],[0,1],[0,1,2],[],[4],[0,1,2,3,4,5]] [6] (by kernel_rfl) (by kernel_rfl) (fun (aC:Nat) (v:Value) (G:GH)=>match aC with|0=>v=.pointer (some ⟨b16,0,none⟩)|1=>v=.pointer (some ⟨b16,0,none⟩)|2=>v=.pointer (some ⟨b16,2,none⟩)|3=>v=.map (some b12)|4=>v=.pointer (some ⟨b9,0,none⟩)|5=>v=vi rv[k].id|_=>True) (fun _ _ _ _ _ h=>h) H ?_ ?_
  ·exact av (Z0 rfl (Rm rfl)) (Z1 0 56 rfl (Rk rfl)) (Z1 1 57 rfl (Rf DV rfl)) (Z1 2 58 rfl (Ro wu 1 rfl rfl)) (bq (Z0 rfl (Rf Ql rfl)) (bq (Z1 4 60 rfl (Ro ak 0 rfl rfl)) (bq (aT rfl) dh)))
  clear H;intro a w G zX H hv;have H:=H.aM (hv 3 59 rfl rfl) rfl;have H:=H.aM (hv 5 61 rfl rfl) rfl;clear hv;refine IG (i:=6) wC kU H wn rfl rfl rfl rfl hnew ?_;clear H;intro w H;dsimp only [List.set,List.append,List.cons_append,List.nil_append] at H;rw [← En,← Sy hk3] at H;refine au ⟨rfl,?_⟩;refine dV _ _ ?_;clear dV;refine kP H (SC (Rd rfl (Rm rfl ?_)));clear H;intro a H;refine au ?_;refine dD ((k+1,G)) (by exact (H.bL (Pl:=[_,_,_,_,_,_,_]) (bB:=[_,_,_,_,_,_]) [1,2,3,4,5,6] (by decide) rfl).sub ⟨rfl,rfl,rfl,rfl,trivial⟩) ?_ ?_
  ·(try dsimp only);exact ⟨by omega,fun b o h=>zX b o (Rt b o h)⟩
  first|omega|(dsimp only;omega)
 intro jT a H
 try have p53:=dF jT
 obtain rfl:k=rv.length:=by omega
 rw [List.take_of_length_le (by simp)] at H;refine dL ?_;refine bV _ _ ?_;clear bV;refine kP H (SR fun _ eH=>Rm rfl (Ra rfl (Kz eH ?_)));clear H eH;intro a H;refine aR ?_;have H:=H.bL (Pl:=[_,_,_,_,_,_]) (bB:=[_,_,_,_,_,_]) [3,4,5,1,0,2] (by decide) rfl;obtain ⟨Gs,hms,hs,H⟩:=H.dB;obtain ⟨Gl,Me,hl,H⟩:=H.dB;obtain ⟨Gr,hmr,hr,H⟩:=H.dB;obtain ⟨Gu,hmu,hu,H⟩:=H.dB;refine lv H Tryz.results42 rfl ?_;exact H.hp.eG ⟨b16,b10,b11,b12,b13,b14,rfl,rfl,⟨hmu _ _ (hmr _ _ (Me _ _ hs)),hmu _ _ (hmr _ _ hl),hmu _ _ hr,hu⟩⟩
end
section
open Go.RowKit
theorem ZT:bO Tryz.prog 107 4 4:=⟨by kernel_rfl⟩
theorem Qj:bO Tryz.prog 107 3 3:=⟨by kernel_rfl⟩
theorem Aj (x:Int):∀ l:List Int,(oq x (dX l)).getD (.bool false)=.bool (decide (x∈l))
 | []=>rfl
 | k :: r=>by
  have ih:=Aj x r;rw [dX,List.map_cons,oq]
  by_cases e:k=x
  ·subst e;simp
  rw [if_neg e,show (r.map fun k=>(k,Value.bool true))=dX r from rfl,ih]
  simp [show x≠k from fun h=>e h.symm]
def IK (st:List bg) (v:Int):Int:=((st.find? fun s=>decide (s.id=v)).map bg.kind).getD 0
theorem EJ (x:Int):∀ l:List bg,(oq x (vV l)).getD (vi 0)=vi (IK l x)
 | []=>rfl
 | s :: r=>by
  have ih:=EJ x r;rw [vV,List.map_cons,oq]
  by_cases e:s.id=x
  ·subst e;simp [IK]
  rw [if_neg e,show (r.map fun s=>(s.id,vi s.kind))=vV r from rfl,ih]
  simp [IK,e]
/-- The error of an id behind others, and the ids with it. -/
def mZ (aW:List Int) (x:Int):Int:=if ¬ (1≤x∧x≤1073741824) then 18 else if x∈aW then 7 else 0
def iX (aW:List Int) (x:Int):List Int:=if mZ aW x=0 then aW++[x] else aW
theorem acE (l:List Int) (x:Int):dX (l++[x])=dX l++[(x,.bool true)]:=by simp [dX]
theorem JI (G:GH) (L:OL) (w0:World) (st:List bg) (li:List eD) (rv:List dJ) (b ms ml mr mb mu:Nat) (n:Int) (aW:List Int) (x:Int) (hck:qh G st li rv ms ml mr mu) (hO:gT G (dW b ms ml mr mb mu n :: (mb,dU (dX aW)) :: L) w0) :
  Calls Tryz.prog 102 #[.pointer (some ⟨b,0,none⟩),vi x] w0 (fQ w0 G (dW b ms ml mr mb mu n :: (mb,dU (dX aW)) :: L) fun u G' L'=>u=vi (mZ aW x)∧L'=dW b ms ml mr mb mu n :: (mb,dU (dX (iX aW x))) :: L∧G=G'):=by
 refine jv (N:=29) (T:=[(0,_),(1,_)]) Tryz.func102 rfl Tryz.ntmps102 rfl rfl hO ?_;intro a H;refine kP H (SR fun _ K1=>Ra rfl (Kz K1 (SQ fun _ K2=>SB (SR fun _ K3=>Rm rfl ?_))));clear H K1;intro a H;refine s_call qY H wn rfl (rV _ _ H.hp.ro x 1 1073741824) rfl ?_;clear H;rintro v7 _ a w ⟨rfl,rfl⟩ - H;refine kH H (Rn rfl (Rm rfl (Sp 9 rfl ?_ ?_))) <;> clear H
 ·intro h9 a H
  try have p9:=dT h9
  refine kH H (Ks h9 rfl (Ks h9 rfl (Ks h9 rfl (Ks h9 rfl (Ks h9 rfl (Ks h9 rfl (Pt h9 rfl (Ra rfl (Kz K3 (Ct rfl rfl (SQ fun _ K4=>?_)))))))))));clear H K3;intro a H
  have e:mZ aW x=18:=by rw [mZ,if_pos (by first|(simp_all;done)|(simp_all;omega))]
  refine kP H (SC (Ra rfl (Kn K4 ?_)));clear H K4;intro a H;refine lr H Tryz.results102 rfl ?_
  first
   | exact H.hp.eG ⟨by rw [e],by rw [iX,if_pos e],rfl⟩
   | exact H.hp.eG ⟨by rw [e],by rw [iX,if_neg (by rw [e];decide)],rfl⟩
 intro h9 a H
 try have p9:=dF h9
 refine kH H (YM h9 rfl ?_);clear H;intro a H;refine o8 H (wg H rfl rfl h9) rfl rfl ?_;clear H;intro a H;refine kH H (YF ZT h9 rfl (YO wu 0 h9 rfl rfl (YM h9 rfl ?_)));clear H;intro a H;refine uR (zv:=.bool false) wC kU (by kernel_rfl) H (wg H rfl rfl h9) rfl rfl (H.hp.ro _ _ hck.use) rfl ?_;clear H;intro a H;rw [show (oq x []).getD (Value.bool false)=.bool false from rfl] at H;refine kH H (Pf h9 rfl (Ra rfl (Kz K3 (Cd rfl ?_ ?_)))) <;> clear H K3
 ·intro h5 a H
  try have p5:=dT h5
  refine aQ (fun _ K5=>?_)
  have e:mZ aW x=18:=by rw [mZ,if_pos (by first|(simp_all;done)|(simp_all;omega))]
  refine kP H (SC (Ra rfl (Kn K5 ?_)));clear H K5;intro a H;refine lr H Tryz.results102 rfl ?_
  first
   | exact H.hp.eG ⟨by rw [e],by rw [iX,if_pos e],rfl⟩
   | exact H.hp.eG ⟨by rw [e],by rw [iX,if_neg (by rw [e];decide)],rfl⟩
 intro h5 a H
 try have p5:=dF h5
 have hin:decide (1≤x∧x≤1073741824)=true:=by simp_all
 refine kP H (SR fun _ K6=>Rm rfl (Rk rfl (Rf Qj rfl (Ro wu 0 rfl rfl (Rm rfl ?_)))));clear H;intro a H;refine uR (zv:=.bool false) wC kU (by kernel_rfl) H wn rfl rfl (H.hp.own _ (List.mem_cons_of_mem _ List.mem_cons_self)) rfl ?_;clear H;intro a H;rw [Aj] at H;refine kH H (Ra rfl (Kz K6 (Cd rfl ?_ ?_))) <;> clear H K6
 ·intro bT a H
  try have jy:=dT bT
  refine aQ (fun _ K7=>?_)
  have e:mZ aW x=7:=by rw [mZ,if_neg (by simpa using hin),if_pos (of_decide_eq_true bT)]
  refine kP H (SC (Ra rfl (Kn K7 ?_)));clear H K7;intro a H;refine lr H Tryz.results102 rfl ?_
  first
   | exact H.hp.eG ⟨by rw [e],by rw [iX,if_pos e],rfl⟩
   | exact H.hp.eG ⟨by rw [e],by rw [iX,if_neg (by rw [e];decide)],rfl⟩
 intro bT a H
 try have jy:=dF bT
 have hx:x∉aW:=of_decide_eq_false bT;have hnew:oq x (dX aW)=none:=HV (by simpa [dX,List.map_map,Function.comp_def] using hx)
 have e:mZ aW x=0:=by rw [mZ,if_neg (by simpa using hin),if_neg hx]
 refine kP H (Kc K2 (SR fun _ K8=>Rm rfl (Rk rfl (Rf Qj rfl (Ro wu 0 rfl rfl (Rm rfl ?_))))));clear H K2;intro a H;refine IG (i:=1) wC kU H wn rfl rfl rfl rfl hnew ?_;clear H;intro w H;dsimp only [List.set] at H;rw [← acE] at H;refine K8 _ _ ?_;clear K8;refine kP H (SR fun _ K9=>Ra rfl (Kz K9 ?_));clear H K9;intro a H;refine lr H Tryz.results102 rfl ?_
 first
  | exact H.hp.eG ⟨by rw [e],by rw [iX,if_pos e],rfl⟩
  | exact H.hp.eG ⟨by rw [e],by rw [iX,if_neg (by rw [e];decide)],rfl⟩
/-- The error of a value that is an id. -/
def lu (st:List bg) (uK:List Int) (key v:Int):Int :=
 if key=20∨key=1 then bJ (decide (v≠0∧IK st v≠(if key=1 then 2 else 1))) 25 else if key=33 then bJ (decide (v≠0∧v∉uK)) 26 else 0
theorem JJ (G:GH) (w0:World) (hG:Hold G w0) (st:List bg) (li:List eD) (rv:List dJ) (b ms ml mr mb mu:Nat) (n:Int) (key v:Int) (hck:qh G st li rv ms ml mr mu) (hb:G b=some (dW b ms ml mr mb mu n).2) :
  Calls Tryz.prog 70 #[.pointer (some ⟨b,0,none⟩),vi key,vi v] w0 (aU w0 G fun u G'=>u=vi (lu st (li.map eD.id) key v)∧G=G'):=by
 have hc0:aB G b 0=some (.map (some ms)):=by unfold aB;rw [hb];rfl
 have hc1:aB G b 1=some (.map (some ml)):=by unfold aB;rw [hb];rfl
 refine eN [(0,_),(1,_),(2,_)] Tryz.func70 rfl Tryz.ntmps70 rfl rfl hG ?_;intro a H;refine kP H (SR fun _ K1=>Ra rfl (Kz K1 (SQ fun _ K2=>SR fun _ K3=>Rm rfl (Kz K3 (SB (SQ fun _ K4=>SR fun _ K5=>Rc rfl (Ra rfl (Kz K5 (Cd rfl ?_ ?_))))))))) <;> clear H K1 K3 K5
 ·intro h9 a H
  try have p9:=dT h9
  refine kP H (Kc K4 (Ct rfl h9 (SR fun _ K6=>Ra rfl (Kz K6 (SQ fun _ K7=>SR fun _ K8=>Rm rfl (Rc rfl (Kz K8 (Cd rfl ?_ ?_)))))))) <;> clear H K4 K6 K8
  ·intro eO a H
   try have nM:=dT eO
   refine kP H (SC (Ra rfl (Kn K7 (SR fun _ K9=>Rm rfl (Rc rfl (Rm rfl (Sp 16 rfl ?_ ?_))))))) <;> clear H K7
   ·intro h16 a H
    try have p16:=dT h16
    refine kH H (YM h16 rfl ?_);clear H;intro a H;refine o8 H (wg H rfl rfl h16) rfl rfl ?_;clear H;intro a H;refine kH H (YF DU h16 rfl (YR EP h16 rfl (by assumption) ?_));clear H;intro a H;refine kH H (YM h16 rfl ?_);clear H;intro a H;refine uR (zv:=vi 0) Ay kU (by kernel_rfl) H (wg H rfl rfl h16) rfl rfl (H.hp.ro _ _ hck.sty) rfl ?_;clear H;intro a H;rw [EJ] at H;refine kH H (YM h16 rfl (YC h16 rfl (Pt h16 rfl ?_)));clear H;intro a H;refine s_call gX H wn rfl (iy _ _ H.hp.ro _ 25) rfl ?_;clear H;rintro v26 _ a w ⟨rfl,rfl⟩ - H;refine kH H (Ra rfl (Kz K9 ?_));clear H K9;intro a H;refine lr H Tryz.results70 rfl ?_
    exact H.hp.ret ⟨congrArg vi (by unfold lu;(repeat' split) <;> first|rfl|(simp_all;done)|(exfalso;simp_all;done)|(congr 1;rw [Bool.eq_iff_iff];simp only [Bool.not_eq_true',decide_eq_false_iff_not,decide_eq_true_eq];exact ⟨fun h=>⟨p31,h⟩,fun h=>h.2⟩)),rfl⟩
   intro h16 a H
   try have p16:=dF h16
   refine kH H (Ks h16 rfl (Ks h16 rfl (Ks h16 rfl (Ks h16 rfl (Ks h16 rfl (Ks h16 rfl (Ks h16 rfl (Ks h16 rfl (Pf h16 rfl ?_)))))))));clear H;intro a H;refine s_call gX H wn rfl (iy _ _ H.hp.ro _ 25) rfl ?_;clear H;rintro v26 _ a w ⟨rfl,rfl⟩ - H;refine kH H (Ra rfl (Kz K9 ?_));clear H K9;intro a H;refine lr H Tryz.results70 rfl ?_
   exact H.hp.ret ⟨congrArg vi (by unfold lu;(repeat' split) <;> first|rfl|(simp_all;done)|(exfalso;simp_all;done)|(congr 1;rw [Bool.eq_iff_iff];simp only [Bool.not_eq_true',decide_eq_false_iff_not,decide_eq_true_eq];exact ⟨fun h=>⟨p31,h⟩,fun h=>h.2⟩)),rfl⟩
  intro eO a H
  try have nM:=dF eO
  refine kP H (Kc K7 (SR fun _ aH=>Rm rfl (Rc rfl (Rm rfl (Sp 16 rfl ?_ ?_))))) <;> clear H K7
  ·intro h16 a H
   try have p16:=dT h16
   refine kH H (YM h16 rfl ?_);clear H;intro a H;refine o8 H (wg H rfl rfl h16) rfl rfl ?_;clear H;intro a H;refine kH H (YF DU h16 rfl (YR EP h16 rfl (by assumption) ?_));clear H;intro a H;refine kH H (YM h16 rfl ?_);clear H;intro a H;refine uR (zv:=vi 0) Ay kU (by kernel_rfl) H (wg H rfl rfl h16) rfl rfl (H.hp.ro _ _ hck.sty) rfl ?_;clear H;intro a H;rw [EJ] at H;refine kH H (YM h16 rfl (YC h16 rfl (Pt h16 rfl ?_)));clear H;intro a H;refine s_call gX H wn rfl (iy _ _ H.hp.ro _ 25) rfl ?_;clear H;rintro v26 _ a w ⟨rfl,rfl⟩ - H;refine kH H (Ra rfl (Kz aH ?_));clear H aH;intro a H;refine lr H Tryz.results70 rfl ?_
   exact H.hp.ret ⟨congrArg vi (by unfold lu;(repeat' split) <;> first|rfl|(simp_all;done)|(exfalso;simp_all;done)|(congr 1;rw [Bool.eq_iff_iff];simp only [Bool.not_eq_true',decide_eq_false_iff_not,decide_eq_true_eq];exact ⟨fun h=>⟨p31,h⟩,fun h=>h.2⟩)),rfl⟩
  intro h16 a H
  try have p16:=dF h16
  refine kH H (Ks h16 rfl (Ks h16 rfl (Ks h16 rfl (Ks h16 rfl (Ks h16 rfl (Ks h16 rfl (Ks h16 rfl (Ks h16 rfl (Pf h16 rfl ?_)))))))));clear H;intro a H;refine s_call gX H wn rfl (iy _ _ H.hp.ro _ 25) rfl ?_;clear H;rintro v26 _ a w ⟨rfl,rfl⟩ - H;refine kH H (Ra rfl (Kz aH ?_));clear H aH;intro a H;refine lr H Tryz.results70 rfl ?_
  exact H.hp.ret ⟨congrArg vi (by unfold lu;(repeat' split) <;> first|rfl|(simp_all;done)|(exfalso;simp_all;done)|(congr 1;rw [Bool.eq_iff_iff];simp only [Bool.not_eq_true',decide_eq_false_iff_not,decide_eq_true_eq];exact ⟨fun h=>⟨p31,h⟩,fun h=>h.2⟩)),rfl⟩
 intro h9 a H
 try have p9:=dF h9
 refine kP H (SC (Rc rfl (Ra rfl (Kn K4 (Cd rfl ?_ ?_))))) <;> clear H K4
 ·intro h9 a H
  try have p9:=dT h9
  refine kP H (SR fun _ aX=>Ra rfl (Kz aX (SQ fun _ bD=>SR fun _ bH=>Rm rfl (Rc rfl (Kz bH (Cd rfl ?_ ?_)))))) <;> clear H aX bH
  ·intro eO a H
   try have nM:=dT eO
   refine kP H (SC (Ra rfl (Kn bD (SR fun _ bG=>Rm rfl (Rc rfl (Rm rfl (Sp 16 rfl ?_ ?_))))))) <;> clear H bD
   ·intro h16 a H
    try have p16:=dT h16
    refine kH H (YM h16 rfl ?_);clear H;intro a H;refine o8 H (wg H rfl rfl h16) rfl rfl ?_;clear H;intro a H;refine kH H (YF DU h16 rfl (YR EP h16 rfl (by assumption) ?_));clear H;intro a H;refine kH H (YM h16 rfl ?_);clear H;intro a H;refine uR (zv:=vi 0) Ay kU (by kernel_rfl) H (wg H rfl rfl h16) rfl rfl (H.hp.ro _ _ hck.sty) rfl ?_;clear H;intro a H;rw [EJ] at H;refine kH H (YM h16 rfl (YC h16 rfl (Pt h16 rfl ?_)));clear H;intro a H;refine s_call gX H wn rfl (iy _ _ H.hp.ro _ 25) rfl ?_;clear H;rintro v26 _ a w ⟨rfl,rfl⟩ - H;refine kH H (Ra rfl (Kz bG ?_));clear H bG;intro a H;refine lr H Tryz.results70 rfl ?_
    exact H.hp.ret ⟨congrArg vi (by unfold lu;(repeat' split) <;> first|rfl|(simp_all;done)|(exfalso;simp_all;done)|(congr 1;rw [Bool.eq_iff_iff];simp only [Bool.not_eq_true',decide_eq_false_iff_not,decide_eq_true_eq];exact ⟨fun h=>⟨p31,h⟩,fun h=>h.2⟩)),rfl⟩
   intro h16 a H
   try have p16:=dF h16
   refine kH H (Ks h16 rfl (Ks h16 rfl (Ks h16 rfl (Ks h16 rfl (Ks h16 rfl (Ks h16 rfl (Ks h16 rfl (Ks h16 rfl (Pf h16 rfl ?_)))))))));clear H;intro a H;refine s_call gX H wn rfl (iy _ _ H.hp.ro _ 25) rfl ?_;clear H;rintro v26 _ a w ⟨rfl,rfl⟩ - H;refine kH H (Ra rfl (Kz bG ?_));clear H bG;intro a H;refine lr H Tryz.results70 rfl ?_
   exact H.hp.ret ⟨congrArg vi (by unfold lu;(repeat' split) <;> first|rfl|(simp_all;done)|(exfalso;simp_all;done)|(congr 1;rw [Bool.eq_iff_iff];simp only [Bool.not_eq_true',decide_eq_false_iff_not,decide_eq_true_eq];exact ⟨fun h=>⟨p31,h⟩,fun h=>h.2⟩)),rfl⟩
  intro eO a H
  try have nM:=dF eO
  refine kP H (Kc bD (SR fun _ bV=>Rm rfl (Rc rfl (Rm rfl (Sp 16 rfl ?_ ?_))))) <;> clear H bD
  ·intro h16 a H
   try have p16:=dT h16
   refine kH H (YM h16 rfl ?_);clear H;intro a H;refine o8 H (wg H rfl rfl h16) rfl rfl ?_;clear H;intro a H;refine kH H (YF DU h16 rfl (YR EP h16 rfl (by assumption) ?_));clear H;intro a H;refine kH H (YM h16 rfl ?_);clear H;intro a H;refine uR (zv:=vi 0) Ay kU (by kernel_rfl) H (wg H rfl rfl h16) rfl rfl (H.hp.ro _ _ hck.sty) rfl ?_;clear H;intro a H;rw [EJ] at H;refine kH H (YM h16 rfl (YC h16 rfl (Pt h16 rfl ?_)));clear H;intro a H;refine s_call gX H wn rfl (iy _ _ H.hp.ro _ 25) rfl ?_;clear H;rintro v26 _ a w ⟨rfl,rfl⟩ - H;refine kH H (Ra rfl (Kz bV ?_));clear H bV;intro a H;refine lr H Tryz.results70 rfl ?_
   exact H.hp.ret ⟨congrArg vi (by unfold lu;(repeat' split) <;> first|rfl|(simp_all;done)|(exfalso;simp_all;done)|(congr 1;rw [Bool.eq_iff_iff];simp only [Bool.not_eq_true',decide_eq_false_iff_not,decide_eq_true_eq];exact ⟨fun h=>⟨p31,h⟩,fun h=>h.2⟩)),rfl⟩
  intro h16 a H
  try have p16:=dF h16
  refine kH H (Ks h16 rfl (Ks h16 rfl (Ks h16 rfl (Ks h16 rfl (Ks h16 rfl (Ks h16 rfl (Ks h16 rfl (Ks h16 rfl (Pf h16 rfl ?_)))))))));clear H;intro a H;refine s_call gX H wn rfl (iy _ _ H.hp.ro _ 25) rfl ?_;clear H;rintro v26 _ a w ⟨rfl,rfl⟩ - H;refine kH H (Ra rfl (Kz bV ?_));clear H bV;intro a H;refine lr H Tryz.results70 rfl ?_
  exact H.hp.ret ⟨congrArg vi (by unfold lu;(repeat' split) <;> first|rfl|(simp_all;done)|(exfalso;simp_all;done)|(congr 1;rw [Bool.eq_iff_iff];simp only [Bool.not_eq_true',decide_eq_false_iff_not,decide_eq_true_eq];exact ⟨fun h=>⟨p31,h⟩,fun h=>h.2⟩)),rfl⟩
 intro h9 a H
 try have p9:=dF h9
 refine kP H (SR fun _ bQ=>Rc rfl (Ra rfl (Kz bQ (Cd rfl ?_ ?_)))) <;> clear H bQ
 ·intro h27 a H
  try have p27:=dT h27
  refine kP H (SR fun _ bS=>Rm rfl (Rc rfl (Rm rfl (Sp 31 rfl ?_ ?_)))) <;> clear H
  ·intro h31 a H
   try have p31:=dT h31
   refine kH H (YM h31 rfl ?_);clear H;intro a H;refine o8 H (wg H rfl rfl h31) rfl rfl ?_;clear H;intro a H;refine kH H (YF Qi h31 rfl (YR wu h31 rfl (by assumption) ?_));clear H;intro a H;refine kH H (YM h31 rfl ?_);clear H;intro a H;refine uR (zv:=.bool false) wC kU (by kernel_rfl) H (wg H rfl rfl h31) rfl rfl (H.hp.ro _ _ hck.uK) rfl ?_;clear H;intro a H;rw [Aj] at H;refine kH H (YN h31 rfl (Pt h31 rfl ?_));clear H;intro a H;refine s_call gX H wn rfl (iy _ _ H.hp.ro _ 26) rfl ?_;clear H;rintro v40 _ a w ⟨rfl,rfl⟩ - H;refine kH H (Ra rfl (Kz bS ?_));clear H bS;intro a H;refine lr H Tryz.results70 rfl ?_
   exact H.hp.ret ⟨congrArg vi (by unfold lu;(repeat' split) <;> first|rfl|(simp_all;done)|(exfalso;simp_all;done)|(congr 1;rw [Bool.eq_iff_iff];simp only [Bool.not_eq_true',decide_eq_false_iff_not,decide_eq_true_eq];exact ⟨fun h=>⟨p31,h⟩,fun h=>h.2⟩)),rfl⟩
  intro h31 a H
  try have p31:=dF h31
  refine kH H (Ks h31 rfl (Ks h31 rfl (Ks h31 rfl (Ks h31 rfl (Ks h31 rfl (Ks h31 rfl (Ks h31 rfl (Pf h31 rfl ?_))))))));clear H;intro a H;refine s_call gX H wn rfl (iy _ _ H.hp.ro _ 26) rfl ?_;clear H;rintro v40 _ a w ⟨rfl,rfl⟩ - H;refine kH H (Ra rfl (Kz bS ?_));clear H bS;intro a H;refine lr H Tryz.results70 rfl ?_
  exact H.hp.ret ⟨congrArg vi (by unfold lu;(repeat' split) <;> first|rfl|(simp_all;done)|(exfalso;simp_all;done)|(congr 1;rw [Bool.eq_iff_iff];simp only [Bool.not_eq_true',decide_eq_false_iff_not,decide_eq_true_eq];exact ⟨fun h=>⟨p31,h⟩,fun h=>h.2⟩)),rfl⟩
 intro h27 a H
 try have p27:=dF h27
 refine kP H (Kc K2 (SR fun _ cO=>Ra rfl (Kz cO ?_)));clear H K2 cO;intro a H;refine lr H Tryz.results70 rfl ?_
 exact H.hp.ret ⟨congrArg vi (by unfold lu;(repeat' split) <;> first|rfl|(simp_all;done)|(exfalso;simp_all;done)|(congr 1;rw [Bool.eq_iff_iff];simp only [Bool.not_eq_true',decide_eq_false_iff_not,decide_eq_true_eq];exact ⟨fun h=>⟨p31,h⟩,fun h=>h.2⟩)),rfl⟩
end
section
open Go.RowKit
section
variable {N:Nat} {D:List Deferred} {w0:World} {F:Nat→Prop} {G0 G G':GH} {L L':OL} {T:List (Nat × Value)}
variable {r:Option Nat} {P:Program} {ops:Array Oper} {Q:Exit→Act→World→Prop} {rest:List Oper} {a:Act} {w w':World}
theorem yg {ι:Type} {Tc:List (Nat × Value)} {l:List Oper} (k:Nat) (Tv:ι→List (Nat × Value)) (Pr:ι→Prop) (_:St N D w0 F G0 G L Tc a w)
  (h1:(∀ i a w,Pr i→St N D w0 F G0 G L (Tv i++Tc) a w→WL r P ops Q (l.drop k) a w)→WL r P ops Q l a w)
  (h2:∀ i a w,Pr i→St N D w0 F G0 G L (Tv i++Tc) a w→WL r P ops Q (l.drop k) a w):WL r P ops Q l a w:=h1 h2
theorem Change.back (h:Change w w' G G' L L'):Change w w' G G L L' :=
 ⟨h.os,h.tape,h.output,h.size,h.fr,fun _ _ h=>h,fun _ _ h=>.inl h,⟨fun k o hk=>h.owns.ro k o (h.gm k o hk),h.owns.own,fun p hp=>(by
  have hs:=h.owns.sep p hp
  cases hg:G p.1 with
  | none=>rfl
  | some o=>have:=h.gm _ _ hg;rw [hs] at this;cases this),h.owns.nd⟩,h.lx⟩
theorem fQ.back {R:Value→GH→OL→Prop} {R':Value→OL→Prop} (hR:∀ v G' L',R v G' L'→R' v L') {e:Ending} (h:fQ w G L R e w'):fQ w G L (fun v G' L'=>G=G'∧R' v L') e w':=by
 obtain ⟨v,G',L',rfl,hc,hr⟩:=h
 exact ⟨v,G,L',rfl,hc.back,rfl,hR _ _ _ hr⟩
theorem Calls.Wh {f:FuncId} {args:Array Value} {R:Value→GH→OL→Prop} {R':Value→OL→Prop} (h:Calls P f args w (fQ w G L R)) (hR:∀ v G' L',R v G' L'→R' v L'):Calls P f args w (fQ w G L fun v G' L'=>G=G'∧R' v L') :=
 h.mono fun _ _=>fQ.back hR
theorem aU.back {R:Value→GH→Prop} {e:Ending} (h:aU w G R e w'):aU w G (fun v G'=>(∃ g,R v g)∧G=G') e w':=by
 obtain ⟨v,G',rfl,hb,hX,hr⟩:=h
 exact ⟨v,G,rfl,hb,⟨fun _ _ h=>h,fun _ _ h=>.inl h,fun k o hk=>hX.2.2 k o (hX.1 k o hk)⟩,⟨G',hr⟩,rfl⟩
theorem OX {f:FuncId} {args:Array Value} {R:Value→GH→Prop} (h:Calls P f args w (aU w G R)):Calls P f args w (aU w G fun v G'=>(∃ g,R v g)∧G=G'):=h.mono fun _ _=>aU.back
/-- A block that a call only reads may be lent to it as if it were read alone. -/
theorem gT.add {b:Nat} {o:Obj} (h:gT G ((b,o) :: L) w):Hold (G.add b o) w:=fun k o' hk=>by
 unfold GH.add at hk
 split at hk
 ·next e=>cases hk;subst e;exact h.own _ List.mem_cons_self
 ·exact h.ro k o' hk
theorem adM {b:Nat} {o:Obj} {R:Value→GH→Prop} {R':Value→Prop} (hO:gT G ((b,o) :: L) w) (hR:∀ v G',R v G'→R' v) {e:Ending} (h:aU w (G.add b o) R e w'):fQ w G ((b,o) :: L) (fun v G' L'=>G=G'∧L'=(b,o) :: L∧R' v) e w':=by
 obtain ⟨v,G',rfl,hb,hX,hr⟩:=h
 exact ⟨v,G,_,rfl,(hO.hp.below hb).Uo,rfl,rfl,hR _ _ hr⟩
end
end
section
open Go.RowKit
abbrev jm.cells (x:jm):List Value:=[vi x.rev,vi x.move]
abbrev iW.cells (x:iW):List Value:=[vi x.rev,vi x.key,vi x.before,.bool x.had]
theorem XK {G:GH} {x:jm} {cs:List Value} (h:aO G x.dat cs):cs=x.cells:=by
 simp only [jm.dat,aO,ah] at h
 obtain ⟨_,_,rfl,⟨rfl,_⟩,_,_,rfl,⟨rfl,_⟩,rfl⟩:=h
 rfl
theorem acn {G:GH} {x:iW} {cs:List Value} (h:aO G x.dat cs):cs=x.cells:=by
 simp only [iW.dat,aO,ah] at h
 obtain ⟨_,_,rfl,⟨rfl,_⟩,_,_,rfl,⟨rfl,_⟩,_,_,rfl,⟨rfl,_⟩,_,_,rfl,⟨rfl,_⟩,rfl⟩:=h
 rfl
theorem iC.eq_iff (a b:iC):(a.key=b.key∧a.value=b.value)↔a=b:=by cases a;cases b;simp
theorem jm.eq_iff (a b:jm):(a.rev=b.rev∧a.move=b.move)↔a=b:=by cases a;cases b;simp
theorem iW.eq_iff (a b:iW):(a.rev=b.rev∧a.key=b.key∧a.before=b.before∧a.had=b.had)↔a=b:=by cases a;cases b;simp
instance:DecidableEq iC:=fun a b=>decidable_of_iff _ (iC.eq_iff a b)
instance:DecidableEq jm:=fun a b=>decidable_of_iff _ (jm.eq_iff a b)
instance:DecidableEq iW:=fun a b=>decidable_of_iff _ (iW.eq_iff a b)
theorem gW.eq_iff (a b:gW):(((a.props=b.props∧a.marks.ins=b.marks.ins)∧a.marks.move=b.marks.move)∧a.marks.bK=b.marks.bK)∧a.marks.layers=b.marks.layers↔a=b:=by
 obtain ⟨p,i,m,d,l⟩:=a;obtain ⟨p2,i2,m2,d2,l2⟩:=b
 simp [and_assoc]
instance:DecidableEq gW:=fun a b=>decidable_of_iff _ (gW.eq_iff a b)
abbrev BM (h:gW) (p d l:Value):Value:=.agg #[p,vi h.marks.ins,vi h.marks.move,d,l]
end
section
open Go.RowKit
theorem Z5:bO Tryz.prog 178 0 0:=⟨by kernel_rfl⟩
theorem wQ:bO Tryz.prog 178 1 1:=⟨by kernel_rfl⟩
theorem Qt:bO Tryz.prog 178 3 3:=⟨by kernel_rfl⟩
theorem Bu:bO Tryz.prog 178 2 2:=⟨by kernel_rfl⟩
theorem Ka:∀ args w,(callFunc 70 args).run Tryz.prog w=.ok (.enter 70 args) w:=enters Tryz.func70 rfl (by kernel_rfl)
/-- What a checker knows: styles, the lists' ids, the revisions' ids. -/
structure fJ where
 st:List bg
 uK:List Int
 Cq:List Int
abbrev aI (st:List bg) (li:List eD) (rv:List dJ):fJ:=⟨st,li.map eD.id,rv.map dJ.id⟩
theorem Sj {G:GH} {l:List iW} {A:Option Addr} {n c k:Nat} (hv:ah G (.sl 4 (l.map iW.dat)) (.slice A n c)) (hk:k < l.length):∃ b o,A=some ⟨b,o,none⟩∧(∀ j u,l[k].cells[j]?=some u→aB G b (o+k*4+j)=some u):=by
 obtain ⟨A',c',he,_,_,hg⟩:=hv.slice
 injection he with e1 e2 e3
 subst e1;obtain ⟨b,o,cs,h1,h2,h3,h4⟩:=hg k l[k].dat (by simp [hk]);have:=acn h4;subst this;exact ⟨b,o,h1,h3⟩
theorem PG {G:GH} {l:List jm} {A:Option Addr} {n c k:Nat} (hv:ah G (.sl 2 (l.map jm.dat)) (.slice A n c)) (hk:k < l.length):∃ b o,A=some ⟨b,o,none⟩∧(∀ j u,l[k].cells[j]?=some u→aB G b (o+k*2+j)=some u):=by
 obtain ⟨A',c',he,_,_,hg⟩:=hv.slice
 injection he with e1 e2 e3
 subst e1;obtain ⟨b,o,cs,h1,h2,h3,h4⟩:=hg k l[k].dat (by simp [hk]);have:=XK h4;subst this;exact ⟨b,o,h1,h3⟩
def xI (C:fJ) (e:Int) (k:Nat) (x:iW) (pk:Int):Int :=
 if x.rev∉C.Cq then 22 else if vO e x.key=false then 4 else if 0 < k∧x.key < pk then 6 else if x.had=false then bJ (decide (x.before≠0)) 21 else cu [qy x.key x.before,lu C.st C.uK x.key x.before]
def Ah (C:fJ) (e:Int) (l:List iW) (k:Nat):Int:=match l[k]? with|some x=>xI C e k x ((l[k - 1]?.map iW.key).getD 0)|none=>0
theorem aco (G:GH) (w0:World) (hG:Hold G w0) (st:List bg) (li:List eD) (rv:List dJ) (b ms ml mr mb mu:Nat) (n:Int) (hck:qh G st li rv ms ml mr mu) (hb:G b=some (dW b ms ml mr mb mu n).2)
  (e:Int) (l:List iW) (v:Value) (hv:ah G (.sl 4 (l.map iW.dat)) v) (k:Nat) (hk:k < l.length) :
  Calls Tryz.prog 72 #[.pointer (some ⟨b,0,none⟩),vi e,v,vi k] w0 (aU w0 G fun u G'=>u=vi (Ah (aI st li rv) e l k)):=by
 have hc2:aB G b 2=some (.map (some mr)):=by unfold aB;rw [hb];rfl
 obtain ⟨A,c,rfl,hl1,hl2,-⟩:=hv.slice;have hml:maxLen=9223372036854775807:=rfl;rw [List.length_map] at *;obtain ⟨xb,xo,rfl,hrow⟩:=Sj hv hk
 have hk1:k - 1 < l.length:=by omega
 obtain ⟨b',o',he',hrow'⟩:=Sj hv hk1
 injection he' with he'
 injection he' with e1 e2
 subst e1;subst e2
 have he:Ah (aI st li rv) e l k=xI (aI st li rv) e k l[k] l[k - 1].key:=by unfold Ah;rw [List.getElem?_eq_getElem hk,List.getElem?_eq_getElem hk1];rfl
 obtain ⟨x,hx⟩:∃ x,x=l[k]:=⟨_,rfl⟩;obtain ⟨y,hy⟩:∃ y,y=l[k - 1]:=⟨_,rfl⟩;rw [← hx] at hrow he;rw [← hy] at hrow' he;have hq:=hrow' 1 _ rfl;refine eN [(0,_),(1,_),(2,_),(3,_)] Tryz.func72 rfl Tryz.ntmps72 rfl rfl hG ?_;intro a H;refine kP H (SR fun _ K1=>Ra rfl (Kz K1 (SR fun _ K2=>Rm rfl (Rm rfl (Ri x9 xZ rfl rfl ?_)))));clear H K1;intro a H;refine aK xZ (cs:=x.cells) H wn rfl rfl (fun j v hj=>H.hp.aB (hrow j v hj)) rfl ?_;clear H;intro a H;refine bX xZ H wn rfl ?_;clear H;intro b9 a w rH H;refine aP xZ 0 (vs:=[_,_,_,_]) _ H wn rfl rfl rfl rfl rfl rfl rfl rfl ?_;clear H;intro w H;dsimp only [List.set,setRow] at H;refine K2 _ _ ?_;clear K2;refine kP H (SQ fun _ K3=>SB (SQ fun _ K4=>?_));clear H;intro a H;refine dz (hmx) [[],[0],[0,1],[0,1,2],[],[4],[0,1,2,3,4,5],(List.range 7),(List.range 8)] [8] (by kernel_rfl) (by kernel_rfl) (fun (aC:Nat) (v:Value) (G:GH)=>match aC with|0=>v=.pointer (some ⟨b,0,none⟩)|1=>v=.pointer (some ⟨b,0,none⟩)|2=>v=.pointer (some ⟨b,2,none⟩)|3=>v=.map (some mr)|4=>v=.pointer (some ⟨b9,0,none⟩)|5=>v=vi x.rev|6=>v=.bool (decide (x.rev∈rv.map dJ.id))|7=>v=.bool (!decide (x.rev∈rv.map dJ.id))|_=>True) (fun _ _ _ _ _ h=>h) H ?_ ?_
 ·clear H;refine av (Z0 rfl (Rm rfl)) (Z1 0 15 rfl (Rk rfl)) (Z1 1 16 rfl (Rf DV rfl)) (X1 2 17 rfl fun hG=>Rg wu rfl (aD hG hc2)) (av (Z0 rfl (Rf Z5 rfl)) (Z1 4 19 rfl (Ro ak 0 rfl rfl)) ?_ (Z1 6 21 rfl (Rn rfl)) (bq (aT rfl) dh))
  refine dK 3 18 5 20 rfl rfl fun _ a w G1 hG HT H fin=>?_;refine uR (zv:=.bool false) wC kU (by kernel_rfl) H wn rfl rfl (H.hp.ro _ _ (hG _ _ hck.rev)) rfl ?_;clear H;intro a H;rw [Aj] at H;exact fin H iJ rfl
 clear H;intro a w G wW H hv;have H:=H.aM (hv 7 22 rfl rfl) rfl;clear hv;refine kH H (Ra rfl ?_);clear H;intro a H;refine au ⟨rfl,?_⟩;refine K4 _ _ ?_;clear K4;refine l6 H rfl ?_ ?_
 ·intro fE
  try have qM:=dT fE
  refine kP H (SR fun _ K5=>Ra rfl (Kz K5 ?_));clear H K5;intro a H;refine lr H Tryz.results72 rfl ?_
  exact H.hp.ret (by rw [he];refine congrArg vi ?_;clear he hrow hrow' hq hx hy;unfold xI;(repeat' split) <;> first|rfl|(simp_all;done)|(exfalso;simp_all;done))
 intro fE
 try have qM:=dF fE
 refine kP H (SR fun _ K6=>Rm rfl (Rf wQ rfl (Ro ak 0 rfl rfl ?_)));clear H;intro a H;refine s_call Qc H wn rfl (OX (QF _ _ H.hp.ro e x.key)) rfl ?_;clear H;rintro v27 _ a w ⟨⟨_,rfl⟩,rfl⟩ - H;refine kH H (Rn rfl (Ra rfl (Kz K6 (Cd rfl ?_ ?_)))) <;> clear H K6
 ·intro h23 a H
  try have y9:=dT h23
  refine kP H (SR fun _ K7=>Ra rfl (Kz K7 ?_));clear H K7;intro a H;refine lr H Tryz.results72 rfl ?_
  exact H.hp.ret (by rw [he];refine congrArg vi ?_;clear he hrow hrow' hq hx hy;unfold xI;(repeat' split) <;> first|rfl|(simp_all;done)|(exfalso;simp_all;done))
 intro h23 a H
 try have y9:=dF h23
 refine aQ (fun _ K8=>?_);replace hq:=aD wW hq
 by_cases c0:0 < (k:Int)
 ·skip
  by_cases c1:x.key < y.key
  ·skip;refine dz (hmx) [[],[0],[0,1],[0,1,2],[0,1,2,3],[0,1,2],[0,1,2],[0,1,2,6],[0,1,2,5,6,7],[0,1,2,5,6,7,8],[0,1,2,5,6,7,8,9],(List.range 11),(List.range 12),(List.range 13)] [13] (by kernel_rfl) (by kernel_rfl) (fun (aC:Nat) (v:Value) (G:GH)=>match aC with|0=>v=vi k|1=>v=.bool (decide (0 < (k:Int)))|2=>v=.bool (decide (0 < (k:Int)))|3=>v=.pointer (some ⟨b9,1,none⟩)|4=>v=vi x.key|5=>v=.slice (some ⟨xb,xo,none⟩) l.length c|6=>v=vi k|7=>v=vi ((k - 1:Nat):Int)|8=>v=.pointer (some ⟨xb,xo+(k - 1)*4,none⟩)|9=>v=.pointer (some ⟨xb,xo+(k - 1)*4+1,none⟩)|10=>v=vi y.key|11=>v=.bool (decide (x.key < y.key))|12=>v=.bool (decide (x.key < y.key))|_=>True) (fun _ _ _ _ _ h=>h) H ?_ ?_
   ·clear H;refine av (Z0 rfl (Rm rfl)) (Z1 0 30 rfl (Rc rfl)) (Z1 1 31 rfl (Rm rfl)) (Z1 2 32 rfl (YF wQ (ay c0) rfl)) (av (Z2 3 33 2 32 rfl (YO ak 0 (ay c0) rfl rfl)) (Z1 2 32 rfl (YM (ay c0) rfl)) (Z1 2 32 rfl (YM (ay c0) rfl)) ?_ (av (Z3 5 35 7 37 2 32 rfl (YI x9 xZ (ay c0) rfl rfl)) (Z2 8 38 2 32 rfl (YF wQ (ay c0) rfl)) (X2 9 39 2 32 rfl fun hG=>YR ak (ay c0) rfl (aD hG hq)) (Z3 4 34 10 40 2 32 rfl (YC (ay c0) rfl)) (bq (Z2 2 32 11 41 rfl (Pt (ay c0) rfl)) (bq (aT rfl) dh))))
    refine dK 6 36 2 32 rfl rfl fun _ a w G1 hG HT H fin=>?_;refine nk _ H (wg H rfl rfl (ay c0)) rfl rfl rfl (by omega) (by omega) rfl ?_;clear H;intro a H;exact fin H iJ (by first|rfl|exact congrArg vi (by omega))
   clear H;intro a w G jd H hv;have H:=H.aM (hv 12 42 rfl rfl) rfl;clear hv;refine kH H (Ra rfl ?_);clear H;intro a H;refine au ⟨rfl,?_⟩;refine K8 _ _ ?_;clear K8;refine vG H rfl (ay c1) ?_;refine aQ (fun _ K9=>?_);have hz:0 < k∧x.key < y.key:=⟨by omega,c1⟩;refine kP H (SC (Ra rfl (Kn K9 ?_)));clear H K9;intro a H;refine lr H Tryz.results72 rfl ?_
   exact H.hp.ret (by rw [he];refine congrArg vi ?_;clear he hrow hrow' hq hx hy;unfold xI;(repeat' split) <;> first|rfl|(simp_all;done)|(exfalso;simp_all;done))
  skip;refine dz (hmx) [[],[0],[0,1],[0,1,2],[0,1,2,3],[0,1,2],[0,1,2],[0,1,2,6],[0,1,2,5,6,7],[0,1,2,5,6,7,8],[0,1,2,5,6,7,8,9],(List.range 11),(List.range 12),(List.range 13)] [13] (by kernel_rfl) (by kernel_rfl) (fun (aC:Nat) (v:Value) (G:GH)=>match aC with|0=>v=vi k|1=>v=.bool (decide (0 < (k:Int)))|2=>v=.bool (decide (0 < (k:Int)))|3=>v=.pointer (some ⟨b9,1,none⟩)|4=>v=vi x.key|5=>v=.slice (some ⟨xb,xo,none⟩) l.length c|6=>v=vi k|7=>v=vi ((k - 1:Nat):Int)|8=>v=.pointer (some ⟨xb,xo+(k - 1)*4,none⟩)|9=>v=.pointer (some ⟨xb,xo+(k - 1)*4+1,none⟩)|10=>v=vi y.key|11=>v=.bool (decide (x.key < y.key))|12=>v=.bool (decide (x.key < y.key))|_=>True) (fun _ _ _ _ _ h=>h) H ?_ ?_
  ·clear H;refine av (Z0 rfl (Rm rfl)) (Z1 0 30 rfl (Rc rfl)) (Z1 1 31 rfl (Rm rfl)) (Z1 2 32 rfl (YF wQ (ay c0) rfl)) (av (Z2 3 33 2 32 rfl (YO ak 0 (ay c0) rfl rfl)) (Z1 2 32 rfl (YM (ay c0) rfl)) (Z1 2 32 rfl (YM (ay c0) rfl)) ?_ (av (Z3 5 35 7 37 2 32 rfl (YI x9 xZ (ay c0) rfl rfl)) (Z2 8 38 2 32 rfl (YF wQ (ay c0) rfl)) (X2 9 39 2 32 rfl fun hG=>YR ak (ay c0) rfl (aD hG hq)) (Z3 4 34 10 40 2 32 rfl (YC (ay c0) rfl)) (bq (Z2 2 32 11 41 rfl (Pt (ay c0) rfl)) (bq (aT rfl) dh))))
   refine dK 6 36 2 32 rfl rfl fun _ a w G1 hG HT H fin=>?_;refine nk _ H (wg H rfl rfl (ay c0)) rfl rfl rfl (by omega) (by omega) rfl ?_;clear H;intro a H;exact fin H iJ (by first|rfl|exact congrArg vi (by omega))
  clear H;intro a w G jd H hv;have H:=H.aM (hv 12 42 rfl rfl) rfl;clear hv;refine kH H (Ra rfl ?_);clear H;intro a H;refine au ⟨rfl,?_⟩;refine K8 _ _ ?_;clear K8;refine mO H rfl (aL c1) ?_;refine aQ (fun _ aH=>?_)
  have hz:¬ (0 < k∧x.key < y.key):=by first|exact fun h=>c1 h.2|exact fun h=>c0 (by omega)
  refine kP H (SC (Rf Qt rfl (Ro oH 0 rfl rfl (Rn rfl (Ra rfl (Kn aH (Cd rfl ?_ ?_))))))) <;> clear H aH
  ·intro h43 a H
   try have p43:=dT h43
   refine kP H (SR fun _ aX=>Rf Bu rfl (Ro ak 0 rfl rfl (Rc rfl ?_)));clear H;intro a H;refine s_call gX H wn rfl (iy _ _ H.hp.ro _ 21) rfl ?_;clear H;rintro v50 _ a w ⟨rfl,rfl⟩ - H;refine kH H (Ra rfl (Kz aX ?_));clear H aX;intro a H;refine lr H Tryz.results72 rfl ?_
   exact H.hp.ret (by rw [he];refine congrArg vi ?_;clear he hrow hrow' hq hx hy;unfold xI;(repeat' split) <;> first|rfl|(simp_all;done)|(exfalso;simp_all;done))
  intro h43 a H
  try have p43:=dF h43
  refine eX ?_;refine K3 _ _ ?_;clear K3;refine aQ (fun _ bD=>?_);replace hck:=(hck.mono wW).mono jd;replace hb:=jd _ _ (wW _ _ hb);refine dz (hmx) [[],[0],[],[2],[0,1,2,3],[],[],[6],[],[8],(List.range 10),(List.range 11),(List.range 12),(List.range 13)] [11,12,13] (by kernel_rfl) (by kernel_rfl) (fun (aC:Nat) (v:Value) (G:GH)=>match aC with|0=>v=.pointer (some ⟨b9,1,none⟩)|1=>v=vi x.key|2=>v=.pointer (some ⟨b9,2,none⟩)|3=>v=vi x.before|4=>v=vi (qy x.key x.before)|5=>v=.pointer (some ⟨b,0,none⟩)|6=>v=.pointer (some ⟨b9,1,none⟩)|7=>v=vi x.key|8=>v=.pointer (some ⟨b9,2,none⟩)|9=>v=vi x.before|10=>v=vi (lu st (li.map eD.id) x.key x.before)|_=>True) (fun _ _ _ _ _ h=>h) H ?_ ?_
  ·clear H;refine av (Z0 rfl (Rf wQ rfl)) (Z1 0 51 rfl (Ro ak 0 rfl rfl)) (Z0 rfl (Rf Bu rfl)) (Z1 2 53 rfl (Ro ak 0 rfl rfl)) (av ?_ (Z0 rfl (Rm rfl)) (Z0 rfl (Rf wQ rfl)) (Z1 6 57 rfl (Ro ak 0 rfl rfl)) (av (Z0 rfl (Rf Bu rfl)) (Z1 8 59 rfl (Ro ak 0 rfl rfl)) ?_ (aT rfl) (bq (aT rfl) (bq (aT rfl) dh))))
   ·refine dK 1 52 3 54 rfl rfl fun _ a w G1 hG HT H fin=>?_;refine s_call JV H wn rfl (JE _ _ H.hp.ro x.key x.before) rfl ?_;clear H;rintro v55 Jh a w rfl KX H;exact fin H KX (rfl)
   refine wK 5 56 7 58 9 60 rfl rfl fun _ a w G1 hG HT H fin=>?_;refine s_call Ka H wn rfl (JJ _ _ H.hp.ro st li rv b ms ml mr mb mu n x.key x.before (hck.mono hG) (hG _ _ hb)) rfl ?_;clear H;rintro v61 VD a w ⟨rfl,-⟩ KY H;exact fin H KY (rfl)
  clear H;intro a w G pQ H hv;have H:=H.aM (hv 4 55 rfl rfl) rfl;have H:=H.aM (hv 10 61 rfl rfl) rfl;clear hv;refine fM lU dQ [_,_] [_,_] H wn rfl rfl rfl rfl rfl (by intro i q h;match i,h with|0,h=>exact h|1,h=>exact h|n+2,h=>simp at h) rfl rfl ?_;clear H;intro V7 a w aaZ H;obtain ⟨VE,abq,LB,H⟩:=H.dB;refine s_call mR H wn rfl (mU _ _ H.hp.ro _ _ (tu LB)) rfl ?_;clear H;rintro v63 _ a w ⟨rfl,rfl⟩ - H;refine kH H (Ra rfl ?_);clear H;intro a H;refine au ⟨rfl,?_⟩;refine bD _ _ ?_;clear bD;refine lr H Tryz.results72 rfl ?_
  exact H.hp.ret (by rw [he];refine congrArg vi ?_;clear he hrow hrow' hq hx hy;unfold xI;(repeat' split) <;> first|rfl|(simp_all;done)|(exfalso;simp_all;done))
 skip;refine dz (hmx) [[],[0],[0,1],[0,1,2],[0,1,2,3],[0,1,2],[0,1,2],[0,1,2,6],[0,1,2,5,6,7],[0,1,2,5,6,7,8],[0,1,2,5,6,7,8,9],(List.range 11),(List.range 12),(List.range 13)] [13] (by kernel_rfl) (by kernel_rfl) (fun (aC:Nat) (v:Value) (G:GH)=>match aC with|0=>v=vi k|1=>v=.bool (decide (0 < (k:Int)))|2=>v=.bool (decide (0 < (k:Int)))|3=>v=undef|4=>v=undef|5=>v=undef|6=>v=undef|7=>v=undef|8=>v=undef|9=>v=undef|10=>v=undef|11=>v=undef|12=>v=.bool false|_=>True) (fun _ _ _ _ _ h=>h) H ?_ ?_
 ·exact av (Z0 rfl (Rm rfl)) (Z1 0 30 rfl (Rc rfl)) (Z1 1 31 rfl (Rm rfl)) (aV (j:=2) (by kernel_rfl) (fun _ _ _ _ _ h=>h) rfl rfl rfl rfl rfl (fun _ _ h=>Eq.trans h (congrArg Value.bool (aL c0))) rfl (fun _=>rfl)) (av (aV (j:=2) (by kernel_rfl) (fun _ _ _ _ _ h=>h) rfl rfl rfl rfl rfl (fun _ _ h=>Eq.trans h (congrArg Value.bool (aL c0))) rfl (fun _=>rfl)) (aV (j:=2) (by kernel_rfl) (fun _ _ _ _ _ h=>h) rfl rfl rfl rfl rfl (fun _ _ h=>Eq.trans h (congrArg Value.bool (aL c0))) rfl (fun _=>rfl)) (aV (j:=2) (by kernel_rfl) (fun _ _ _ _ _ h=>h) rfl rfl rfl rfl rfl (fun _ _ h=>Eq.trans h (congrArg Value.bool (aL c0))) rfl (fun _=>rfl)) (aV (j:=2) (by kernel_rfl) (fun _ _ _ _ _ h=>h) rfl rfl rfl rfl rfl (fun _ _ h=>Eq.trans h (congrArg Value.bool (aL c0))) rfl (fun _=>rfl)) (av (aV (j:=2) (by kernel_rfl) (fun _ _ _ _ _ h=>h) rfl rfl rfl rfl rfl (fun _ _ h=>Eq.trans h (congrArg Value.bool (aL c0))) rfl (fun _=>rfl)) (aV (j:=2) (by kernel_rfl) (fun _ _ _ _ _ h=>h) rfl rfl rfl rfl rfl (fun _ _ h=>Eq.trans h (congrArg Value.bool (aL c0))) rfl (fun _=>rfl)) (aV (j:=2) (by kernel_rfl) (fun _ _ _ _ _ h=>h) rfl rfl rfl rfl rfl (fun _ _ h=>Eq.trans h (congrArg Value.bool (aL c0))) rfl (fun _=>rfl)) (aV (j:=2) (by kernel_rfl) (fun _ _ _ _ _ h=>h) rfl rfl rfl rfl rfl (fun _ _ h=>Eq.trans h (congrArg Value.bool (aL c0))) rfl (fun _=>rfl)) (bq (Z2 2 32 11 41 rfl (Pf (aL c0) rfl)) (bq (aT rfl) dh))))
 clear H;intro a w G jd H hv;have H:=H.aM (hv 12 42 rfl rfl) rfl;clear hv;refine kH H (Ra rfl ?_);clear H;intro a H;refine au ⟨rfl,?_⟩;refine K8 _ _ ?_;clear K8;refine mO H rfl rfl ?_;refine aQ (fun _ bH=>?_)
 have hz:¬ (0 < k∧x.key < y.key):=by first|exact fun h=>c1 h.2|exact fun h=>c0 (by omega)
 refine kP H (SC (Rf Qt rfl (Ro oH 0 rfl rfl (Rn rfl (Ra rfl (Kn bH (Cd rfl ?_ ?_))))))) <;> clear H bH
 ·intro h43 a H
  try have p43:=dT h43
  refine kP H (SR fun _ bG=>Rf Bu rfl (Ro ak 0 rfl rfl (Rc rfl ?_)));clear H;intro a H;refine s_call gX H wn rfl (iy _ _ H.hp.ro _ 21) rfl ?_;clear H;rintro v50 _ a w ⟨rfl,rfl⟩ - H;refine kH H (Ra rfl (Kz bG ?_));clear H bG;intro a H;refine lr H Tryz.results72 rfl ?_
  exact H.hp.ret (by rw [he];refine congrArg vi ?_;clear he hrow hrow' hq hx hy;unfold xI;(repeat' split) <;> first|rfl|(simp_all;done)|(exfalso;simp_all;done))
 intro h43 a H
 try have p43:=dF h43
 refine eX ?_;refine K3 _ _ ?_;clear K3;refine aQ (fun _ bV=>?_);replace hck:=(hck.mono wW).mono jd;replace hb:=jd _ _ (wW _ _ hb);refine dz (hmx) [[],[0],[],[2],[0,1,2,3],[],[],[6],[],[8],(List.range 10),(List.range 11),(List.range 12),(List.range 13)] [11,12,13] (by kernel_rfl) (by kernel_rfl) (fun (aC:Nat) (v:Value) (G:GH)=>match aC with|0=>v=.pointer (some ⟨b9,1,none⟩)|1=>v=vi x.key|2=>v=.pointer (some ⟨b9,2,none⟩)|3=>v=vi x.before|4=>v=vi (qy x.key x.before)|5=>v=.pointer (some ⟨b,0,none⟩)|6=>v=.pointer (some ⟨b9,1,none⟩)|7=>v=vi x.key|8=>v=.pointer (some ⟨b9,2,none⟩)|9=>v=vi x.before|10=>v=vi (lu st (li.map eD.id) x.key x.before)|_=>True) (fun _ _ _ _ _ h=>h) H ?_ ?_
 ·clear H;refine av (Z0 rfl (Rf wQ rfl)) (Z1 0 51 rfl (Ro ak 0 rfl rfl)) (Z0 rfl (Rf Bu rfl)) (Z1 2 53 rfl (Ro ak 0 rfl rfl)) (av ?_ (Z0 rfl (Rm rfl)) (Z0 rfl (Rf wQ rfl)) (Z1 6 57 rfl (Ro ak 0 rfl rfl)) (av (Z0 rfl (Rf Bu rfl)) (Z1 8 59 rfl (Ro ak 0 rfl rfl)) ?_ (aT rfl) (bq (aT rfl) (bq (aT rfl) dh))))
  ·refine dK 1 52 3 54 rfl rfl fun _ a w G1 hG HT H fin=>?_;refine s_call JV H wn rfl (JE _ _ H.hp.ro x.key x.before) rfl ?_;clear H;rintro v55 Jh a w rfl KX H;exact fin H KX (rfl)
  refine wK 5 56 7 58 9 60 rfl rfl fun _ a w G1 hG HT H fin=>?_;refine s_call Ka H wn rfl (JJ _ _ H.hp.ro st li rv b ms ml mr mb mu n x.key x.before (hck.mono hG) (hG _ _ hb)) rfl ?_;clear H;rintro v61 VD a w ⟨rfl,-⟩ KY H;exact fin H KY (rfl)
 clear H;intro a w G pQ H hv;have H:=H.aM (hv 4 55 rfl rfl) rfl;have H:=H.aM (hv 10 61 rfl rfl) rfl;clear hv;refine fM lU dQ [_,_] [_,_] H wn rfl rfl rfl rfl rfl (by intro i q h;match i,h with|0,h=>exact h|1,h=>exact h|n+2,h=>simp at h) rfl rfl ?_;clear H;intro V7 a w aaZ H;obtain ⟨VE,abq,LB,H⟩:=H.dB;refine s_call mR H wn rfl (mU _ _ H.hp.ro _ _ (tu LB)) rfl ?_;clear H;rintro v63 _ a w ⟨rfl,rfl⟩ - H;refine kH H (Ra rfl ?_);clear H;intro a H;refine au ⟨rfl,?_⟩;refine bV _ _ ?_;clear bV;refine lr H Tryz.results72 rfl ?_
 exact H.hp.ret (by rw [he];refine congrArg vi ?_;clear he hrow hrow' hq hx hy;unfold xI;(repeat' split) <;> first|rfl|(simp_all;done)|(exfalso;simp_all;done))
end
section
open Go.RowKit
theorem CO:Ty Tryz.prog 97 1 8 [.pointer none] false:=⟨by kernel_rfl,by kernel_rfl⟩
theorem Zf:∀ args w,(callFunc 72 args).run Tryz.prog w=.ok (.enter 72 args) w:=enters Tryz.func72 rfl (by kernel_rfl)
theorem CG:Ty Tryz.prog 27 4 64 [.int .i64 0,.int .i64 0,.slice none 0 0,.slice none 0 0] true:=⟨by kernel_rfl,by kernel_rfl⟩
theorem vI:bO Tryz.prog 27 0 0:=⟨by kernel_rfl⟩
theorem Bw:bO Tryz.prog 27 1 1:=⟨by kernel_rfl⟩
theorem DW:bO Tryz.prog 150 0 0:=⟨by kernel_rfl⟩
theorem Qp:bO Tryz.prog 150 1 1:=⟨by kernel_rfl⟩
theorem Ze:∀ args w,(callFunc 71 args).run Tryz.prog w=.ok (.enter 71 args) w:=enters Tryz.func71 rfl (by kernel_rfl)
theorem acj {G:GH} {st:List bg} {li:List eD} {rv:List dJ} {b ms ml mr mb mu:Nat} {n:Int} (hck:qh G st li rv ms ml mr mu) (hb:G b=some (dW b ms ml mr mb mu n).2)
  {x3 x4 NR:Nat} {e:Int} {l:List iW} {v:Value} (h3:aB G x3 0=some (.pointer (some ⟨b,0,none⟩))) (h4:aB G x4 0=some (vi e)) (h11:aB G NR 3=some v) (hv:ah G (.sl 4 (l.map iW.dat)) v) :
  oL (.func (.func 71) #[] #[.pointer (some ⟨x3,0,none⟩),.pointer (some ⟨x4,0,none⟩),.pointer (some ⟨NR,0,none⟩)]) G l.length (Ah (aI st li rv) e l):=by
 intro k hk G1 w0 hm hG;refine jI (caps:=[.pointer (some ⟨x3,0,none⟩),.pointer (some ⟨x4,0,none⟩),.pointer (some ⟨NR,0,none⟩)]) Ze ?_;replace h3:=aD hm h3;replace h4:=aD hm h4;replace h11:=aD hm h11;replace hv:=hv.mono hm;obtain ⟨vA,vn,vc,rfl⟩:=hv.form;refine eN [(0,_),(1,_),(2,_),(3,_)] Tryz.func71 rfl Tryz.ntmps71 rfl rfl hG ?_;intro a H;refine kP H (SR fun _ K1=>Ra rfl (Kz K1 (SR fun _ K2=>Rg CO rfl (by assumption) ?_)));clear H K1;intro a H;refine kH H (Rg ak rfl (by assumption) ?_);clear H;intro a H;refine kH H (Rf D6 rfl (Rg ET rfl (by assumption) ?_));clear H;intro a H;refine kH H (Rm rfl ?_);clear H;intro a H;refine s_call Zf H wn rfl (aco _ _ H.hp.ro st li rv b ms ml mr mb mu n (hck.mono hm) (hm _ _ hb) e l _ hv k hk) rfl ?_;clear H;rintro v11 qj a w rfl xq H;exact kH H (Ra rfl (Kz K2 (LR Tryz.results71 rfl fun H=>H.hp.ret rfl)))
/-- The errors of the properties, of the marks, of the deletions. -/
def vZ (C:fJ) (l:List iC):Int:=cu (l.map fun p=>lu C.st C.uK p.key p.value)
def iZ (C:fJ) (m:sJ):Int:=if m.ins≠0∧m.ins∉C.Cq then 22 else if ¬ (0≤m.move∧m.move≤1073741824)∨(m.move≠0∧m.ins=0) then 21 else if 16 < (m.bK.length:Int) then 9 else 0
def tQ (C:fJ) (k:Nat) (x:jm) (pr:Int):Int:=if x.rev∉C.Cq then 22 else if 0 < k∧x.rev≤pr then 6 else if ¬ (0≤x.move∧x.move≤1073741824) then 21 else 0
def tO (C:fJ) (l:List jm) (k:Nat):Int:=match l[k]? with|some x=>tQ C k x ((l[k - 1]?.map jm.rev).getD 0)|none=>0
/-- The error of a head. -/
def iK (C:fJ) (e:Int) (h:gW):Int:=cu [fD e h.props,vZ C h.props,iZ C h.marks,jr (tO C h.marks.bK) h.marks.bK.length,bJ (decide (64 < (h.marks.layers.length:Int))) 9,jr (Ah C e h.marks.layers) h.marks.layers.length]
theorem aa7 {C:fJ} {e:Int} {h:gW} (h1:fD e h.props≠0):iK C e h=fD e h.props:=by simp [iK,cu,h1]
theorem aa8 {C:fJ} {e:Int} {h:gW} (h1:fD e h.props=0) (h2:vZ C h.props≠0):iK C e h=vZ C h.props:=by simp [iK,cu,h1,h2]
theorem xg {C:fJ} {e:Int} {h:gW} (h1:fD e h.props=0) (h2:vZ C h.props=0) (h3:iZ C h.marks≠0):iK C e h=iZ C h.marks:=by simp [iK,cu,h1,h2,h3]
theorem aa9 {C:fJ} {e:Int} {h:gW} (h1:fD e h.props=0) (h2:vZ C h.props=0) (h3:iZ C h.marks=0) (h4:jr (tO C h.marks.bK) h.marks.bK.length≠0):iK C e h=jr (tO C h.marks.bK) h.marks.bK.length:=by simp [iK,cu,h1,h2,h3,h4]
theorem abb {C:fJ} {e:Int} {h:gW} (h1:fD e h.props=0) (h2:vZ C h.props=0) (h3:iZ C h.marks=0) (h4:jr (tO C h.marks.bK) h.marks.bK.length=0) (h5:64 < (h.marks.layers.length:Int)):iK C e h=9:=by simp [iK,cu,h1,h2,h3,h4,bJ,h5]
theorem abd {C:fJ} {e:Int} {h:gW} (h1:fD e h.props=0) (h2:vZ C h.props=0) (h3:iZ C h.marks=0) (h4:jr (tO C h.marks.bK) h.marks.bK.length=0) (h5:¬ 64 < (h.marks.layers.length:Int)):iK C e h=jr (Ah C e h.marks.layers) h.marks.layers.length:=by simp [iK,cu,h1,h2,h3,h4,bJ,h5];exact Eq.symm
theorem TI {C:fJ} {l:List iC} {k:Nat} (h:k < l.length):cu ((l.map fun p=>lu C.st C.uK p.key p.value).drop k)=if lu C.st C.uK l[k].key l[k].value≠0 then lu C.st C.uK l[k].key l[k].value else cu ((l.map fun p=>lu C.st C.uK p.key p.value).drop (k+1)):=by
 rw [Gy (by simpa using h)];simp
theorem abe (G:GH) (w0:World) (hG:Hold G w0) (st:List bg) (li:List eD) (rv:List dJ) (b ms ml mr mb mu:Nat) (n:Int) (hck:qh G st li rv ms ml mr mu) (hb:G b=some (dW b ms ml mr mb mu n).2)
  (e:Int) (h:gW) (p d l:Value) (hh:jq G h p d l) (hz:nC h≤4294967296) :
  Calls Tryz.prog 43 #[.pointer (some ⟨b,0,none⟩),vi e,BM h p d l] w0 (aU w0 G fun u G'=>u=vi (iK (aI st li rv) e h)):=by
 obtain ⟨pA,pc,rfl,-,-,-⟩:=hh.props.slice;obtain ⟨dA,dc,rfl,-,-,-⟩:=hh.bK.slice;obtain ⟨lA,lc,rfl,-,-,-⟩:=hh.layers.slice;have hml:maxLen=9223372036854775807:=rfl;have hzz:=Fe h;have hz1:=pq (h.props.map iC.dat);have hz2:=pq (h.marks.bK.map jm.dat);have hz3:=pq (h.marks.layers.map iW.dat)
 simp only [List.length_map] at hh hz1 hz2 hz3 ⊢
 generalize nC h=zz at hz hzz
 refine eN [(0,_),(1,_),(2,_)] Tryz.func43 rfl Tryz.ntmps43 rfl rfl hG ?_;intro a H;refine aY (fun _ K1=>?_);refine bY (cs:=[_]) H wn rfl rfl rfl ?_;clear H;intro b3 a w hb3 H;refine bY (cs:=[_]) H wn rfl rfl rfl ?_;clear H;intro b4 a w hb4 H;refine bY (cs:=[_,_,_,_,_]) H wn rfl rfl rfl ?_;clear H;intro b5 a w hb5 H;refine kH H (Ra rfl (Kz K1 (SQ fun _ K2=>SQ fun _ K3=>?_)));clear H K1;intro a H;obtain ⟨VJ,GX,vR,H⟩:=H.dB;obtain ⟨VI,BP,uo,H⟩:=H.dB;obtain ⟨Ga,yU,w9,H⟩:=H.dB;replace vR:=yU _ _ (BP _ _ vR);replace uo:=yU _ _ uo;have hma:∀ b o,G b=some o→Ga b=some o:=fun b o h=>yU _ _ (BP _ _ (GX _ _ h));clear yU BP GX;replace hck:=hck.mono hma;replace hb:=hma _ _ hb;replace hh:=hh.mono hma
 have g3:aB Ga b3 0=some (.pointer (some ⟨b,0,none⟩)):=by unfold aB;rw [w9];rfl
 have g4:aB Ga b4 0=some (vi e):=by unfold aB;rw [uo];rfl
 have g50:aB Ga b5 0=some (.slice pA h.props.length pc):=by unfold aB;rw [vR];rfl
 have g51:∀ (j:Nat) (u:Value),[vi h.marks.ins,vi h.marks.move,.slice dA h.marks.bK.length dc,.slice lA h.marks.layers.length lc][j]?=some u→aB Ga b5 (1+j)=some u:=by
  intro j u hj
  unfold aB;rw [vR]
  match j,hj with
  | 0,hj=>exact hj
  | 1,hj=>exact hj
  | 2,hj=>exact hj
  | 3,hj=>exact hj
  | n+4,hj=>simp at hj
 have hc2:aB Ga b 2=some (.map (some mr)):=by unfold aB;rw [hb];rfl
 refine kP H (SC (Rg ak rfl (by assumption) ?_));clear H;intro a H;refine kH H (Rf Gp rfl (Rg CF rfl (by assumption) ?_));clear H;intro a H;refine s_call P9 H wn rfl (OX (TF _ _ H.hp.ro e h.props _ hh.props)) rfl ?_;clear H;rintro v17 _ a w ⟨⟨_,rfl⟩,rfl⟩ - H;refine kH H (Ra rfl (Kn K3 (SR fun _ K4=>Rm rfl (Rc rfl (Kz K4 (Cd rfl ?_ ?_)))))) <;> clear H K3 K4
 ·intro h19 a H
  try have j6:=dT h19
  refine aQ (fun _ K5=>?_);have hE:=aa7 (C:=aI st li rv) (e:=e) (h:=h) j6;exact kP H (SC (Rm rfl (Ra rfl (Kn K5 (LR Tryz.results43 rfl fun H=>H.hp.ret (by rw [hE]))))))
 intro h19 a H
 try have j6:=dF h19
 have e1:fD e h.props=0:=by simpa using j6
 refine kP H (Kc K2 (SQ fun _ K6=>SR fun _ K7=>Rf Gp rfl (Rg CF rfl (by assumption) ?_)));clear H K2;intro a H;refine kH H (Rl qP rfl (Rm rfl (Kz K7 (SB ?_))));clear H K7;intro a H;skip;refine d9 (ι:=Nat) (Tc:=[(3,_),(4,_),(5,_),(22,_),(23,_)]) (Lc:=[]) (fun (gh:Nat)=>[(24,vi gh)]) (fun (gh:Nat)=>[]) (fun (gh:Nat)=>Ga) (fun (gh:Nat)=>gh≤h.props.length∧cu ((h.props.map fun p=>lu st (li.map eD.id) p.key p.value).drop gh)=vZ (aI st li rv) h.props) (fun (gh:Nat)=>h.props.length - gh) (0) (by exact (H).sub ⟨rfl,rfl,rfl,rfl,rfl,rfl,trivial⟩) ?_ ?_
 ·exact ⟨Nat.zero_le _,rfl⟩
 clear H;intro gh a w hI H;obtain ⟨k,hgh⟩:∃ x,x=gh:=⟨_,rfl⟩;subst hgh;obtain ⟨hk,heq⟩:=hI;dsimp only [List.cons_append,List.nil_append,List.append_nil] at H;refine kP H (SR fun _ K8=>Rc rfl (Kz K8 (SQ fun _ K9=>Cd rfl ?_ ?_))) <;> clear H K8
 ·intro kG a H
  try have p25:=dT kG
  have hk2:k < h.props.length:=by omega
  obtain ⟨xb,xo,rfl,hrow⟩:=Il hh.props hk2;refine kP H (Kc K9 (SQ fun _ aH=>SB (SR fun _ aX=>Ri qP nu rfl rfl ?_)));clear H K9;intro a H;refine aK nu (cs:=[_,_]) H wn rfl rfl (fun j v hj=>H.hp.aB (hrow j v hj)) rfl ?_;clear H;intro a H;refine bX nu H wn rfl ?_;clear H;intro b9 a w rH H;refine aP nu 0 (vs:=[_,_]) _ H wn rfl rfl rfl rfl rfl rfl rfl rfl ?_;clear H;intro w H;dsimp only [List.set,setRow] at H;refine aX _ _ ?_;clear aX;refine kP H (SR fun _ bD=>Rg CO rfl (by assumption) ?_);clear H;intro a H;refine kH H (Rf qZ rfl (Ro ak 0 rfl rfl (Rf Qo rfl (Ro ak 0 rfl rfl ?_))));clear H;intro a H;refine s_call Ka H wn rfl (JJ _ _ H.hp.ro st li rv b ms ml mr mb mu n h.props[k].key h.props[k].value hck hb) rfl ?_;clear H;rintro v33 _ a w ⟨rfl,rfl⟩ - H;refine kH H (Ra rfl (Kz bD (SR fun _ bH=>Rm rfl (Rc rfl (Kz bH (Cd rfl ?_ ?_)))))) <;> clear H bD bH
  ·intro jM a H
   try have p35:=dT jM
   refine aQ (fun _ bG=>?_)
   have hr:vZ (aI st li rv) h.props=lu st (li.map eD.id) h.props[k].key h.props[k].value:=by rw [← heq];exact (TI (C:=aI st li rv) hk2).trans (if_pos p35)
   have hE:=(aa8 (C:=aI st li rv) (e:=e) (h:=h) e1 (by rw [hr];exact p35)).trans hr;exact kP H (SC (Rm rfl (Ra rfl (Kn bG (LR Tryz.results43 rfl fun H=>H.hp.ret (by rw [hE]))))))
  intro jM a H
  try have p35:=dF jM
  refine kP H (Kc aH (SC (Rd rfl (Rm rfl ?_))));clear H aH;intro a H;refine au ?_;refine dD ((k+1)) (by exact (H.bL (Pl:=[_]) (bB:=[]) [] (by decide) rfl).sub ⟨rfl,rfl,rfl,rfl,rfl,rfl,trivial⟩) ?_ ?_
  ·exact ⟨by omega,by rw [TI (C:=aI st li rv) hk2,if_neg (by simpa using p35)] at heq;exact heq⟩
  first|omega|(dsimp only;omega)
 intro kG a H
 try have p25:=dF kG
 refine dL ?_;refine K6 _ _ ?_;clear K6;refine aQ (fun _ bV=>?_)
 have e2:vZ (aI st li rv) h.props=0:=by rw [← heq,List.drop_of_length_le (by rw [List.length_map];omega)];rfl
 refine kP H (SC (Rf Bz rfl ?_));clear H;intro a H;refine aK CG (cs:=[vi h.marks.ins,vi h.marks.move,.slice dA h.marks.bK.length dc,.slice lA h.marks.layers.length lc]) H wn rfl rfl (fun j v hj=>H.hp.aB (g51 j v hj)) rfl ?_;clear H;intro a H;refine bX CG H wn rfl ?_;clear H;intro b11 a w yO H;refine aP CG 0 (vs:=[_,_,_,_]) _ H wn rfl rfl rfl rfl rfl rfl rfl rfl ?_;clear H;intro w H;dsimp only [List.set,setRow] at H;obtain ⟨Gb,hmb,BK,H⟩:=H.dB;replace hck:=hck.mono hmb;replace hb:=hmb _ _ hb;replace hh:=hh.mono hmb;replace g3:=aD hmb g3;replace g4:=aD hmb g4;replace hc2:=aD hmb hc2
 have q0:aB Gb b11 0=some (vi h.marks.ins):=by unfold aB;rw [BK];rfl
 have q1:aB Gb b11 1=some (vi h.marks.move):=by unfold aB;rw [BK];rfl
 have q2:aB Gb b11 2=some (.slice dA h.marks.bK.length dc):=by unfold aB;rw [BK];rfl
 have q3:aB Gb b11 3=some (.slice lA h.marks.layers.length lc):=by unfold aB;rw [BK];rfl
 have hcb:=acj hck hb g3 g4 q3 hh.layers;refine au ?_;refine bV _ _ ?_;clear bV;refine qW (ι:=GH) (Tc:=[(3,_),(4,_),(11,_)]) (Lc:=[]) (fun (gh:GH)=>[]) (fun (gh:GH)=>[]) (fun (gh:GH)=>gh) (fun (gh:GH)=>iZ (aI st li rv) h.marks=0∧(∀ b o,Gb b=some o→gh b=some o)) (by exact (H).sub ⟨rfl,rfl,rfl,trivial⟩) ?_ ?_
 ·skip;refine lZ ?_;refine aQ (fun _ bQ=>?_)
  by_cases c0:h.marks.ins≠0
  ·skip
   by_cases c1:h.marks.ins∉rv.map dJ.id
   ·skip;refine dz (hmx) [[],[0],[0,1],[0,1,2],[0,1,2,3],[0,1,2,3,4],[0,1,2,3,4,5],(List.range 7),[0,1,2,3],[0,1,2,3,8],(List.range 10),(List.range 11),(List.range 12),(List.range 13)] [13] (by kernel_rfl) (by kernel_rfl) (fun (aC:Nat) (v:Value) (G:GH)=>match aC with|0=>v=.pointer (some ⟨b11,0,none⟩)|1=>v=vi h.marks.ins|2=>v=.bool (decide (h.marks.ins≠0))|3=>v=.bool (decide (h.marks.ins≠0))|4=>v=.pointer (some ⟨b,0,none⟩)|5=>v=.pointer (some ⟨b,0,none⟩)|6=>v=.pointer (some ⟨b,2,none⟩)|7=>v=.map (some mr)|8=>v=.pointer (some ⟨b11,0,none⟩)|9=>v=vi h.marks.ins|10=>v=.bool (decide (h.marks.ins∈rv.map dJ.id))|11=>v=.bool (decide (h.marks.ins∉rv.map dJ.id))|12=>v=.bool (decide (h.marks.ins∉rv.map dJ.id))|_=>True) (fun _ _ _ _ _ h=>h) H ?_ ?_
    ·clear H;refine av (Z0 rfl (Rf vI rfl)) (X1 0 41 rfl fun hG=>Rg ak rfl (aD hG q0)) (Z1 1 42 rfl (Rc rfl)) (Z1 2 43 rfl (Rm rfl)) (av (X1 3 44 rfl fun hG=>YR CO (ay c0) rfl (aD hG g3)) ?_ (Z2 5 46 3 44 rfl (YF DV (ay c0) rfl)) (X2 6 47 3 44 rfl fun hG=>YR wu (ay c0) rfl (aD hG hc2)) (av (Z1 3 44 rfl (YF vI (ay c0) rfl)) (X2 8 49 3 44 rfl fun hG=>YR ak (ay c0) rfl (aD hG q0)) ?_ ?_ (bq (Z2 3 44 11 52 rfl (Pt (ay c0) rfl)) (bq (aT rfl) dh))))
     ·refine dK 4 45 3 44 rfl rfl fun _ a w G1 hG HT H fin=>?_;refine o8 H (wg H rfl rfl (ay c0)) rfl rfl ?_;clear H;intro a H;exact fin H iJ rfl
     ·refine wK 7 48 9 50 3 44 rfl rfl fun _ a w G1 hG HT H fin=>?_;refine uR (zv:=.bool false) wC kU (by kernel_rfl) H (wg H rfl rfl (ay c0)) rfl rfl (H.hp.ro _ _ (hG _ _ hck.rev)) rfl ?_;clear H;intro a H;rw [Aj] at H;exact fin H iJ rfl
     refine dK 10 51 3 44 rfl rfl fun _ a w G1 hG HT H fin=>?_;refine kH H (YN (ay c0) rfl ?_);clear H;intro a H;exact fin H iJ (by first|rfl|exact congrArg Value.bool decide_not.symm)
    clear H;intro a w G nK H hv;have H:=H.aM (hv 12 53 rfl rfl) rfl;clear hv;refine kH H (Ra rfl ?_);clear H;intro a H;refine au ⟨rfl,?_⟩;refine bQ _ _ ?_;clear bQ;refine vG H rfl (ay c1) ?_;refine aQ (fun _ bS=>?_);have e3:iZ (aI st li rv) h.marks=22:=if_pos ⟨c0,c1⟩;have hE:=(xg (C:=aI st li rv) (e:=e) (h:=h) e1 e2 (by rw [e3];decide)).trans e3;exact kP H (SC (Ra rfl (Kn bS (LR Tryz.results43 rfl fun H=>H.hp.ret (by rw [hE])))))
   skip;refine dz (hmx) [[],[0],[0,1],[0,1,2],[0,1,2,3],[0,1,2,3,4],[0,1,2,3,4,5],(List.range 7),[0,1,2,3],[0,1,2,3,8],(List.range 10),(List.range 11),(List.range 12),(List.range 13)] [13] (by kernel_rfl) (by kernel_rfl) (fun (aC:Nat) (v:Value) (G:GH)=>match aC with|0=>v=.pointer (some ⟨b11,0,none⟩)|1=>v=vi h.marks.ins|2=>v=.bool (decide (h.marks.ins≠0))|3=>v=.bool (decide (h.marks.ins≠0))|4=>v=.pointer (some ⟨b,0,none⟩)|5=>v=.pointer (some ⟨b,0,none⟩)|6=>v=.pointer (some ⟨b,2,none⟩)|7=>v=.map (some mr)|8=>v=.pointer (some ⟨b11,0,none⟩)|9=>v=vi h.marks.ins|10=>v=.bool (decide (h.marks.ins∈rv.map dJ.id))|11=>v=.bool (decide (h.marks.ins∉rv.map dJ.id))|12=>v=.bool (decide (h.marks.ins∉rv.map dJ.id))|_=>True) (fun _ _ _ _ _ h=>h) H ?_ ?_
   ·clear H;refine av (Z0 rfl (Rf vI rfl)) (X1 0 41 rfl fun hG=>Rg ak rfl (aD hG q0)) (Z1 1 42 rfl (Rc rfl)) (Z1 2 43 rfl (Rm rfl)) (av (X1 3 44 rfl fun hG=>YR CO (ay c0) rfl (aD hG g3)) ?_ (Z2 5 46 3 44 rfl (YF DV (ay c0) rfl)) (X2 6 47 3 44 rfl fun hG=>YR wu (ay c0) rfl (aD hG hc2)) (av (Z1 3 44 rfl (YF vI (ay c0) rfl)) (X2 8 49 3 44 rfl fun hG=>YR ak (ay c0) rfl (aD hG q0)) ?_ ?_ (bq (Z2 3 44 11 52 rfl (Pt (ay c0) rfl)) (bq (aT rfl) dh))))
    ·refine dK 4 45 3 44 rfl rfl fun _ a w G1 hG HT H fin=>?_;refine o8 H (wg H rfl rfl (ay c0)) rfl rfl ?_;clear H;intro a H;exact fin H iJ rfl
    ·refine wK 7 48 9 50 3 44 rfl rfl fun _ a w G1 hG HT H fin=>?_;refine uR (zv:=.bool false) wC kU (by kernel_rfl) H (wg H rfl rfl (ay c0)) rfl rfl (H.hp.ro _ _ (hG _ _ hck.rev)) rfl ?_;clear H;intro a H;rw [Aj] at H;exact fin H iJ rfl
    refine dK 10 51 3 44 rfl rfl fun _ a w G1 hG HT H fin=>?_;refine kH H (YN (ay c0) rfl ?_);clear H;intro a H;exact fin H iJ (by first|rfl|exact congrArg Value.bool decide_not.symm)
   clear H;intro a w G nK H hv;have H:=H.aM (hv 12 53 rfl rfl) rfl;clear hv;refine kH H (Ra rfl ?_);clear H;intro a H;refine au ⟨rfl,?_⟩;refine bQ _ _ ?_;clear bQ;refine mO H rfl (aL c1) ?_;refine aQ (fun _ cO=>?_)
   have hno:¬ (h.marks.ins≠0∧h.marks.ins∉(aI st li rv).Cq):=by first|exact fun h=>c1 h.2|exact fun h=>c0 h.1
   replace q0:=aD nK q0;replace q1:=aD nK q1;replace q2:=aD nK q2;refine kP H (SC (Rf Bw rfl (Rg ak rfl (by assumption) ?_)));clear H;intro a H;refine s_call qY H wn rfl (rV _ _ H.hp.ro h.marks.move 0 1073741824) rfl ?_;clear H;rintro v57 _ a w ⟨rfl,rfl⟩ - H;refine kH H (Rn rfl (Rm rfl (Sp 59 rfl ?_ ?_))) <;> clear H
   ·intro eP a H
    try have p59:=dT eP
    refine kH H (Ks eP rfl (Ks eP rfl (Ks eP rfl (Ks eP rfl (Ku rfl (Ku rfl (Ku rfl (Ks eP rfl (Pt eP rfl (Ra rfl (Kn cO (Ct rfl rfl (SQ fun _ dV=>?_)))))))))))));clear H cO;intro a H
    have e3:iZ (aI st li rv) h.marks=21:=by unfold iZ;rw [if_neg hno,if_pos (by first|(simp_all;done)|(simp_all;omega))]
    have hE:=(xg (C:=aI st li rv) (e:=e) (h:=h) e1 e2 (by rw [e3];decide)).trans e3;exact kP H (SC (Ra rfl (Kn dV (LR Tryz.results43 rfl fun H=>H.hp.ret (by rw [hE])))))
   intro eP a H
   try have p59:=dF eP
   refine kH H (YF Bw eP rfl (YR ak eP rfl (by assumption) ?_));clear H;intro a H;refine kH H (YC eP rfl (YM eP rfl (Sp 63 rfl ?_ ?_))) <;> clear H
   ·intro h63 a H
    try have p63:=dT h63
    refine kH H (YF vI h63 rfl (YR ak h63 rfl (by assumption) ?_));clear H;intro a H;refine kH H (YC h63 rfl (PT eP h63 rfl (Pf eP rfl (Ra rfl (Kn cO (Cd rfl ?_ ?_)))))) <;> clear H cO
    ·intro fG a H
     try have p54:=dT fG
     refine aQ (fun _ dI=>?_)
     have e3:iZ (aI st li rv) h.marks=21:=by unfold iZ;rw [if_neg hno,if_pos (by first|(simp_all;done)|(simp_all;omega))]
     have hE:=(xg (C:=aI st li rv) (e:=e) (h:=h) e1 e2 (by rw [e3];decide)).trans e3;exact kP H (SC (Ra rfl (Kn dI (LR Tryz.results43 rfl fun H=>H.hp.ret (by rw [hE])))))
    intro fG a H
    try have p54:=dF fG
    refine aQ (fun _ eH=>?_)
    have hn2:¬ (¬ (0≤h.marks.move∧h.marks.move≤1073741824)∨(h.marks.move≠0∧h.marks.ins=0)):=by first|(simp_all;done)|(simp_all;omega)
    refine kP H (SC (Rf vJ rfl (Rg wz rfl (by assumption) ?_)));clear H;intro a H;refine kH H (Rl sH rfl (Rc rfl (Ra rfl (Kn eH (Cd rfl ?_ ?_))))) <;> clear H eH
    ·intro kK a H
     try have p69:=dT kK
     refine aQ (fun _ fq=>?_)
     have e3:iZ (aI st li rv) h.marks=9:=by unfold iZ;rw [if_neg hno,if_neg hn2,if_pos (by simpa using kK)]
     have hE:=(xg (C:=aI st li rv) (e:=e) (h:=h) e1 e2 (by rw [e3];decide)).trans e3;exact kP H (SC (Ra rfl (Kn fq (LR Tryz.results43 rfl fun H=>H.hp.ret (by rw [hE])))))
    intro kK a H
    try have p69:=dF kK
    have e3:iZ (aI st li rv) h.marks=0:=by unfold iZ;rw [if_neg hno,if_neg hn2,if_neg (by simpa using kK)]
    refine eX ?_;refine ⟨_,by exact (H).sub ⟨rfl,rfl,rfl,trivial⟩,?_⟩;exact ⟨e3,nK⟩
   intro h63 a H
   try have p63:=dF h63
   refine kH H (Ks h63 rfl (Ks h63 rfl (Ks h63 rfl (PF eP h63 rfl (Pf eP rfl (Ra rfl (Kn cO (Cf rfl rfl (SQ fun _ gK=>?_)))))))));clear H cO;intro a H
   have hn2:¬ (¬ (0≤h.marks.move∧h.marks.move≤1073741824)∨(h.marks.move≠0∧h.marks.ins=0)):=by first|(simp_all;done)|(simp_all;omega)
   refine kP H (SC (Rf vJ rfl (Rg wz rfl (by assumption) ?_)));clear H;intro a H;refine kH H (Rl sH rfl (Rc rfl (Ra rfl (Kn gK (Cd rfl ?_ ?_))))) <;> clear H gK
   ·intro kK a H
    try have p69:=dT kK
    refine aQ (fun _ gF=>?_)
    have e3:iZ (aI st li rv) h.marks=9:=by unfold iZ;rw [if_neg hno,if_neg hn2,if_pos (by simpa using kK)]
    have hE:=(xg (C:=aI st li rv) (e:=e) (h:=h) e1 e2 (by rw [e3];decide)).trans e3;exact kP H (SC (Ra rfl (Kn gF (LR Tryz.results43 rfl fun H=>H.hp.ret (by rw [hE])))))
   intro kK a H
   try have p69:=dF kK
   have e3:iZ (aI st li rv) h.marks=0:=by unfold iZ;rw [if_neg hno,if_neg hn2,if_neg (by simpa using kK)]
   refine eX ?_;refine ⟨_,by exact (H).sub ⟨rfl,rfl,rfl,trivial⟩,?_⟩;exact ⟨e3,nK⟩
  skip;refine dz (hmx) [[],[0],[0,1],[0,1,2],[0,1,2,3],[0,1,2,3,4],[0,1,2,3,4,5],(List.range 7),[0,1,2,3],[0,1,2,3,8],(List.range 10),(List.range 11),(List.range 12),(List.range 13)] [13] (by kernel_rfl) (by kernel_rfl) (fun (aC:Nat) (v:Value) (G:GH)=>match aC with|0=>v=.pointer (some ⟨b11,0,none⟩)|1=>v=vi h.marks.ins|2=>v=.bool (decide (h.marks.ins≠0))|3=>v=.bool (decide (h.marks.ins≠0))|4=>v=undef|5=>v=undef|6=>v=undef|7=>v=undef|8=>v=undef|9=>v=undef|10=>v=undef|11=>v=undef|12=>v=.bool false|_=>True) (fun _ _ _ _ _ h=>h) H ?_ ?_
  ·exact av (Z0 rfl (Rf vI rfl)) (X1 0 41 rfl fun hG=>Rg ak rfl (aD hG q0)) (Z1 1 42 rfl (Rc rfl)) (Z1 2 43 rfl (Rm rfl)) (av (aV (j:=3) (by kernel_rfl) (fun _ _ _ _ _ h=>h) rfl rfl rfl rfl rfl (fun _ _ h=>Eq.trans h (congrArg Value.bool (aL c0))) rfl (fun _=>rfl)) (aV (j:=3) (by kernel_rfl) (fun _ _ _ _ _ h=>h) rfl rfl rfl rfl rfl (fun _ _ h=>Eq.trans h (congrArg Value.bool (aL c0))) rfl (fun _=>rfl)) (aV (j:=3) (by kernel_rfl) (fun _ _ _ _ _ h=>h) rfl rfl rfl rfl rfl (fun _ _ h=>Eq.trans h (congrArg Value.bool (aL c0))) rfl (fun _=>rfl)) (aV (j:=3) (by kernel_rfl) (fun _ _ _ _ _ h=>h) rfl rfl rfl rfl rfl (fun _ _ h=>Eq.trans h (congrArg Value.bool (aL c0))) rfl (fun _=>rfl)) (av (aV (j:=3) (by kernel_rfl) (fun _ _ _ _ _ h=>h) rfl rfl rfl rfl rfl (fun _ _ h=>Eq.trans h (congrArg Value.bool (aL c0))) rfl (fun _=>rfl)) (aV (j:=3) (by kernel_rfl) (fun _ _ _ _ _ h=>h) rfl rfl rfl rfl rfl (fun _ _ h=>Eq.trans h (congrArg Value.bool (aL c0))) rfl (fun _=>rfl)) (aV (j:=3) (by kernel_rfl) (fun _ _ _ _ _ h=>h) rfl rfl rfl rfl rfl (fun _ _ h=>Eq.trans h (congrArg Value.bool (aL c0))) rfl (fun _=>rfl)) (aV (j:=3) (by kernel_rfl) (fun _ _ _ _ _ h=>h) rfl rfl rfl rfl rfl (fun _ _ h=>Eq.trans h (congrArg Value.bool (aL c0))) rfl (fun _=>rfl)) (bq (Z2 3 44 11 52 rfl (Pf (aL c0) rfl)) (bq (aT rfl) dh))))
  clear H;intro a w G nK H hv;have H:=H.aM (hv 12 53 rfl rfl) rfl;clear hv;refine kH H (Ra rfl ?_);clear H;intro a H;refine au ⟨rfl,?_⟩;refine bQ _ _ ?_;clear bQ;refine mO H rfl rfl ?_;refine aQ (fun _ fO=>?_)
  have hno:¬ (h.marks.ins≠0∧h.marks.ins∉(aI st li rv).Cq):=by first|exact fun h=>c1 h.2|exact fun h=>c0 h.1
  replace q0:=aD nK q0;replace q1:=aD nK q1;replace q2:=aD nK q2;refine kP H (SC (Rf Bw rfl (Rg ak rfl (by assumption) ?_)));clear H;intro a H;refine s_call qY H wn rfl (rV _ _ H.hp.ro h.marks.move 0 1073741824) rfl ?_;clear H;rintro v57 _ a w ⟨rfl,rfl⟩ - H;refine kH H (Rn rfl (Rm rfl (Sp 59 rfl ?_ ?_))) <;> clear H
  ·intro eP a H
   try have p59:=dT eP
   refine kH H (Ks eP rfl (Ks eP rfl (Ks eP rfl (Ks eP rfl (Ku rfl (Ku rfl (Ku rfl (Ks eP rfl (Pt eP rfl (Ra rfl (Kn fO (Ct rfl rfl (SQ fun _ iF=>?_)))))))))))));clear H fO;intro a H
   have e3:iZ (aI st li rv) h.marks=21:=by unfold iZ;rw [if_neg hno,if_pos (by first|(simp_all;done)|(simp_all;omega))]
   have hE:=(xg (C:=aI st li rv) (e:=e) (h:=h) e1 e2 (by rw [e3];decide)).trans e3;exact kP H (SC (Ra rfl (Kn iF (LR Tryz.results43 rfl fun H=>H.hp.ret (by rw [hE])))))
  intro eP a H
  try have p59:=dF eP
  refine kH H (YF Bw eP rfl (YR ak eP rfl (by assumption) ?_));clear H;intro a H;refine kH H (YC eP rfl (YM eP rfl (Sp 63 rfl ?_ ?_))) <;> clear H
  ·intro h63 a H
   try have p63:=dT h63
   refine kH H (YF vI h63 rfl (YR ak h63 rfl (by assumption) ?_));clear H;intro a H;refine kH H (YC h63 rfl (PT eP h63 rfl (Pf eP rfl (Ra rfl (Kn fO (Cd rfl ?_ ?_)))))) <;> clear H fO
   ·intro fG a H
    try have p54:=dT fG
    refine aQ (fun _ iT=>?_)
    have e3:iZ (aI st li rv) h.marks=21:=by unfold iZ;rw [if_neg hno,if_pos (by first|(simp_all;done)|(simp_all;omega))]
    have hE:=(xg (C:=aI st li rv) (e:=e) (h:=h) e1 e2 (by rw [e3];decide)).trans e3;exact kP H (SC (Ra rfl (Kn iT (LR Tryz.results43 rfl fun H=>H.hp.ret (by rw [hE])))))
   intro fG a H
   try have p54:=dF fG
   refine aQ (fun _ gL=>?_)
   have hn2:¬ (¬ (0≤h.marks.move∧h.marks.move≤1073741824)∨(h.marks.move≠0∧h.marks.ins=0)):=by first|(simp_all;done)|(simp_all;omega)
   refine kP H (SC (Rf vJ rfl (Rg wz rfl (by assumption) ?_)));clear H;intro a H;refine kH H (Rl sH rfl (Rc rfl (Ra rfl (Kn gL (Cd rfl ?_ ?_))))) <;> clear H gL
   ·intro kK a H
    try have p69:=dT kK
    refine aQ (fun _ jG=>?_)
    have e3:iZ (aI st li rv) h.marks=9:=by unfold iZ;rw [if_neg hno,if_neg hn2,if_pos (by simpa using kK)]
    have hE:=(xg (C:=aI st li rv) (e:=e) (h:=h) e1 e2 (by rw [e3];decide)).trans e3;exact kP H (SC (Ra rfl (Kn jG (LR Tryz.results43 rfl fun H=>H.hp.ret (by rw [hE])))))
   intro kK a H
   try have p69:=dF kK
   have e3:iZ (aI st li rv) h.marks=0:=by unfold iZ;rw [if_neg hno,if_neg hn2,if_neg (by simpa using kK)]
   refine eX ?_;refine ⟨_,by exact (H).sub ⟨rfl,rfl,rfl,trivial⟩,?_⟩;exact ⟨e3,nK⟩
  intro h63 a H
  try have p63:=dF h63
  refine kH H (Ks h63 rfl (Ks h63 rfl (Ks h63 rfl (PF eP h63 rfl (Pf eP rfl (Ra rfl (Kn fO (Cf rfl rfl (SQ fun _ jV=>?_)))))))));clear H fO;intro a H
  have hn2:¬ (¬ (0≤h.marks.move∧h.marks.move≤1073741824)∨(h.marks.move≠0∧h.marks.ins=0)):=by first|(simp_all;done)|(simp_all;omega)
  refine kP H (SC (Rf vJ rfl (Rg wz rfl (by assumption) ?_)));clear H;intro a H;refine kH H (Rl sH rfl (Rc rfl (Ra rfl (Kn jV (Cd rfl ?_ ?_))))) <;> clear H jV
  ·intro kK a H
   try have p69:=dT kK
   refine aQ (fun _ kV=>?_)
   have e3:iZ (aI st li rv) h.marks=9:=by unfold iZ;rw [if_neg hno,if_neg hn2,if_pos (by simpa using kK)]
   have hE:=(xg (C:=aI st li rv) (e:=e) (h:=h) e1 e2 (by rw [e3];decide)).trans e3;exact kP H (SC (Ra rfl (Kn kV (LR Tryz.results43 rfl fun H=>H.hp.ret (by rw [hE])))))
  intro kK a H
  try have p69:=dF kK
  have e3:iZ (aI st li rv) h.marks=0:=by unfold iZ;rw [if_neg hno,if_neg hn2,if_neg (by simpa using kK)]
  refine eX ?_;refine ⟨_,by exact (H).sub ⟨rfl,rfl,rfl,trivial⟩,?_⟩;exact ⟨e3,nK⟩
 clear H;intro gh a w hI H;obtain ⟨g,hgh⟩:∃ x,x=gh:=⟨_,rfl⟩;subst hgh;obtain ⟨e3,rR⟩:=hI;replace hck:=hck.mono rR;replace hb:=rR _ _ hb;replace hh:=hh.mono rR;replace g3:=aD rR g3;replace q2:=aD rR q2;replace q3:=aD rR q3;replace hc2:=aD rR hc2;replace hcb:=hcb.mono rR;dsimp only [List.cons_append,List.nil_append,List.append_nil] at H;refine kP H (SQ fun _ kE=>SR fun _ ko=>Rf vJ rfl (Rg wz rfl (by assumption) ?_));clear H;intro a H;refine kH H (Rl sH rfl (Rm rfl (Kz ko (SB ?_))));clear H ko;intro a H;skip;refine d9 (ι:=Nat × GH) (Tc:=[(3,_),(4,_),(11,_),(75,_),(76,_)]) (Lc:=[]) (fun (gh:Nat × GH)=>[(77,vi gh.1)]) (fun (gh:Nat × GH)=>[]) (fun (gh:Nat × GH)=>gh.2) (fun (gh:Nat × GH)=>gh.1≤h.marks.bK.length∧cu (((List.range h.marks.bK.length).map (tO (aI st li rv) h.marks.bK)).drop gh.1)=jr (tO (aI st li rv) h.marks.bK) h.marks.bK.length∧(∀ b o,g b=some o→gh.2 b=some o)) (fun (gh:Nat × GH)=>h.marks.bK.length - gh.1) ((0,g)) (by exact (H).sub ⟨rfl,rfl,rfl,rfl,rfl,rfl,trivial⟩) ?_ ?_
 ·exact ⟨Nat.zero_le _,rfl,fun _ _ h=>h⟩
 clear H;intro gh a w hI H;obtain ⟨k,g2⟩:=gh;dsimp only at hI H;obtain ⟨hk,heq,hgm⟩:=hI;dsimp only [List.cons_append,List.nil_append,List.append_nil] at H;refine kP H (SR fun _ nD=>Rc rfl (Kz nD (SQ fun _ oM=>Cd rfl ?_ ?_))) <;> clear H nD
 ·intro KH a H
  try have p78:=dT KH
  have hk2:k < h.marks.bK.length:=by omega
  have hd2:=hh.bK.mono hgm;obtain ⟨xb,xo,rfl,hrow⟩:=PG hd2 hk2
  have hk1:k - 1 < h.marks.bK.length:=by omega
  obtain ⟨b',o',he',hrow'⟩:=PG hd2 hk1
  injection he' with he'
  injection he' with e1 e2
  subst e1;subst e2
  have hde:tO (aI st li rv) h.marks.bK k=tQ (aI st li rv) k h.marks.bK[k] h.marks.bK[k - 1].rev:=by unfold tO;rw [List.getElem?_eq_getElem hk2,List.getElem?_eq_getElem hk1];rfl
  have hX:∀ v,tQ (aI st li rv) k h.marks.bK[k] h.marks.bK[k - 1].rev=v→v≠0→iK (aI st li rv) e h=v:=fun v h1 h2=>by
   have h4:jr (tO (aI st li rv) h.marks.bK) h.marks.bK.length=v:=by rw [← heq,zK hk2,hde,h1,if_pos h2]
   exact (aa9 e1 e2 e3 (by rw [h4];exact h2)).trans h4
  have hp:=hrow' 0 _ rfl;have g3':=aD hgm g3;have hc2':=aD hgm hc2;have q2':=aD hgm q2;refine kP H (Kc oM (SQ fun _ mH=>SB (SR fun _ qm=>Rm rfl (Ri sH xY rfl rfl ?_))));clear H oM;intro a H;refine aK xY (cs:=h.marks.bK[k].cells) H wn rfl rfl (fun j v hj=>H.hp.aB (hrow j v hj)) rfl ?_;clear H;intro a H;refine bX xY H wn rfl ?_;clear H;intro b13 a w Ei H;refine kH H (Ra rfl ?_);clear H;intro a H;refine aP xY 0 (vs:=[_,_]) _ H wn rfl rfl rfl rfl rfl rfl rfl rfl ?_;clear H;intro w H;dsimp only [List.set,setRow] at H;refine qm _ _ ?_;clear qm;refine lZ ?_;refine aQ (fun _ vk=>?_);refine dz (hmx) [[],[0],[0,1],[0,1,2],[],[4],[0,1,2,3,4,5],(List.range 7),(List.range 8)] [8] (by kernel_rfl) (by kernel_rfl) (fun (aC:Nat) (v:Value) (G:GH)=>match aC with|0=>v=.pointer (some ⟨b,0,none⟩)|1=>v=.pointer (some ⟨b,0,none⟩)|2=>v=.pointer (some ⟨b,2,none⟩)|3=>v=.map (some mr)|4=>v=.pointer (some ⟨b13,0,none⟩)|5=>v=vi h.marks.bK[k].rev|6=>v=.bool (decide (h.marks.bK[k].rev∈rv.map dJ.id))|7=>v=.bool (!decide (h.marks.bK[k].rev∈rv.map dJ.id))|_=>True) (fun _ _ _ _ _ h=>h) H ?_ ?_
  ·clear H;refine av (X0 rfl fun hG=>Rg CO rfl (aD hG g3')) (Z1 0 83 rfl (Rk rfl)) (Z1 1 84 rfl (Rf DV rfl)) (X1 2 85 rfl fun hG=>Rg wu rfl (aD hG hc2')) (av (Z0 rfl (Rf DW rfl)) (Z1 4 87 rfl (Ro ak 0 rfl rfl)) ?_ (Z1 6 89 rfl (Rn rfl)) (bq (aT rfl) dh))
   refine dK 3 86 5 88 rfl rfl fun _ a w G1 hG HT H fin=>?_;refine uR (zv:=.bool false) wC kU (by kernel_rfl) H wn rfl rfl (H.hp.ro _ _ (hG _ _ (hgm _ _ hck.rev))) rfl ?_;clear H;intro a H;rw [Aj] at H;exact fin H iJ rfl
  clear H;intro a w G BF H hv;have H:=H.aM (hv 7 90 rfl rfl) rfl;clear hv;refine kH H (Ra rfl ?_);clear H;intro a H;refine au ⟨rfl,?_⟩;refine vk _ _ ?_;clear vk;refine l6 H rfl ?_ ?_
  ·intro nU
   try have M7:=dT nU
   refine aQ (fun _ vo=>?_);have hE:=hX 22 (by unfold tQ;rw [if_pos (by simpa using nU)]) (by decide);exact kP H (SC (Ra rfl (Kn vo (LR Tryz.results43 rfl fun H=>H.hp.ret (by rw [hE])))))
  intro nU
  try have M7:=dF nU
  have Es:¬ (h.marks.bK[k].rev∉(aI st li rv).Cq):=by simpa using nU
  refine aQ (fun _ kW=>?_);replace hp:=aD BF hp;replace q2':=aD BF q2'
  by_cases c3:0 < (k:Int)
  ·skip
   by_cases c4:h.marks.bK[k].rev≤h.marks.bK[k - 1].rev
   ·skip;refine dz (hmx) [[],[0],[0,1],[0,1,2],[0,1,2,3],[0,1,2],[0,1,2,5],[0,1,2],[0,1,2,7],[0,1,2,5,6,7,8],[0,1,2,5,6,7,8,9],[0,1,2,5,6,7,8,9,10],(List.range 12),(List.range 13),(List.range 14)] [14] (by kernel_rfl) (by kernel_rfl) (fun (aC:Nat) (v:Value) (G:GH)=>match aC with|0=>v=vi k|1=>v=.bool (decide (0 < (k:Int)))|2=>v=.bool (decide (0 < (k:Int)))|3=>v=.pointer (some ⟨b13,0,none⟩)|4=>v=vi h.marks.bK[k].rev|5=>v=.pointer (some ⟨b11,2,none⟩)|6=>v=.slice (some ⟨xb,xo,none⟩) h.marks.bK.length dc|7=>v=vi k|8=>v=vi ((k - 1:Nat):Int)|9=>v=.pointer (some ⟨xb,xo+(k - 1)*2,none⟩)|10=>v=.pointer (some ⟨xb,xo+(k - 1)*2+0,none⟩)|11=>v=vi h.marks.bK[k - 1].rev|12=>v=.bool (decide (h.marks.bK[k].rev≤h.marks.bK[k - 1].rev))|13=>v=.bool (decide (h.marks.bK[k].rev≤h.marks.bK[k - 1].rev))|_=>True) (fun _ _ _ _ _ h=>h) H ?_ ?_
    ·clear H;refine av (Z0 rfl (Rm rfl)) (Z1 0 92 rfl (Rc rfl)) (Z1 1 93 rfl (Rm rfl)) (Z1 2 94 rfl (YF DW (ay c3) rfl)) (av (Z2 3 95 2 94 rfl (YO ak 0 (ay c3) rfl rfl)) (Z1 2 94 rfl (YF vJ (ay c3) rfl)) (X2 5 97 2 94 rfl fun hG=>YR wz (ay c3) rfl (aD hG q2')) (Z1 2 94 rfl (YM (ay c3) rfl)) (av ?_ (Z3 6 98 8 100 2 94 rfl (YI sH xY (ay c3) rfl rfl)) (Z2 9 101 2 94 rfl (YF DW (ay c3) rfl)) (X2 10 102 2 94 rfl fun hG=>YR ak (ay c3) rfl (aD hG hp)) (bq (Z3 4 96 11 103 2 94 rfl (YC (ay c3) rfl)) (bq (Z2 2 94 12 104 rfl (Pt (ay c3) rfl)) (bq (aT rfl) dh)))))
     refine dK 7 99 2 94 rfl rfl fun _ a w G1 hG HT H fin=>?_;refine nk _ H (wg H rfl rfl (ay c3)) rfl rfl rfl (by omega) (by omega) rfl ?_;clear H;intro a H;exact fin H iJ (by first|rfl|exact congrArg vi (by omega))
    clear H;intro a w G GJ H hv;have H:=H.aM (hv 13 105 rfl rfl) rfl;clear hv;refine kH H (Ra rfl ?_);clear H;intro a H;refine au ⟨rfl,?_⟩;refine kW _ _ ?_;clear kW;refine vG H rfl (ay c4) ?_;refine aQ (fun _ wH=>?_);have hz:0 < k∧h.marks.bK[k].rev≤h.marks.bK[k - 1].rev:=⟨by omega,c4⟩;have hE:=hX 6 (by unfold tQ;rw [if_neg Es,if_pos hz]) (by decide);exact kP H (SC (Ra rfl (Kn wH (LR Tryz.results43 rfl fun H=>H.hp.ret (by rw [hE])))))
   skip;refine dz (hmx) [[],[0],[0,1],[0,1,2],[0,1,2,3],[0,1,2],[0,1,2,5],[0,1,2],[0,1,2,7],[0,1,2,5,6,7,8],[0,1,2,5,6,7,8,9],[0,1,2,5,6,7,8,9,10],(List.range 12),(List.range 13),(List.range 14)] [14] (by kernel_rfl) (by kernel_rfl) (fun (aC:Nat) (v:Value) (G:GH)=>match aC with|0=>v=vi k|1=>v=.bool (decide (0 < (k:Int)))|2=>v=.bool (decide (0 < (k:Int)))|3=>v=.pointer (some ⟨b13,0,none⟩)|4=>v=vi h.marks.bK[k].rev|5=>v=.pointer (some ⟨b11,2,none⟩)|6=>v=.slice (some ⟨xb,xo,none⟩) h.marks.bK.length dc|7=>v=vi k|8=>v=vi ((k - 1:Nat):Int)|9=>v=.pointer (some ⟨xb,xo+(k - 1)*2,none⟩)|10=>v=.pointer (some ⟨xb,xo+(k - 1)*2+0,none⟩)|11=>v=vi h.marks.bK[k - 1].rev|12=>v=.bool (decide (h.marks.bK[k].rev≤h.marks.bK[k - 1].rev))|13=>v=.bool (decide (h.marks.bK[k].rev≤h.marks.bK[k - 1].rev))|_=>True) (fun _ _ _ _ _ h=>h) H ?_ ?_
   ·clear H;refine av (Z0 rfl (Rm rfl)) (Z1 0 92 rfl (Rc rfl)) (Z1 1 93 rfl (Rm rfl)) (Z1 2 94 rfl (YF DW (ay c3) rfl)) (av (Z2 3 95 2 94 rfl (YO ak 0 (ay c3) rfl rfl)) (Z1 2 94 rfl (YF vJ (ay c3) rfl)) (X2 5 97 2 94 rfl fun hG=>YR wz (ay c3) rfl (aD hG q2')) (Z1 2 94 rfl (YM (ay c3) rfl)) (av ?_ (Z3 6 98 8 100 2 94 rfl (YI sH xY (ay c3) rfl rfl)) (Z2 9 101 2 94 rfl (YF DW (ay c3) rfl)) (X2 10 102 2 94 rfl fun hG=>YR ak (ay c3) rfl (aD hG hp)) (bq (Z3 4 96 11 103 2 94 rfl (YC (ay c3) rfl)) (bq (Z2 2 94 12 104 rfl (Pt (ay c3) rfl)) (bq (aT rfl) dh)))))
    refine dK 7 99 2 94 rfl rfl fun _ a w G1 hG HT H fin=>?_;refine nk _ H (wg H rfl rfl (ay c3)) rfl rfl rfl (by omega) (by omega) rfl ?_;clear H;intro a H;exact fin H iJ (by first|rfl|exact congrArg vi (by omega))
   clear H;intro a w G GJ H hv;have H:=H.aM (hv 13 105 rfl rfl) rfl;clear hv;refine kH H (Ra rfl ?_);clear H;intro a H;refine au ⟨rfl,?_⟩;refine kW _ _ ?_;clear kW;refine mO H rfl (aL c4) ?_;refine aQ (fun _ yw=>?_)
   have hz:¬ (0 < k∧h.marks.bK[k].rev≤h.marks.bK[k - 1].rev):=by first|exact fun h=>c4 h.2|exact fun h=>c3 (by omega)
   refine kP H (SC (Rf Qp rfl (Ro ak 0 rfl rfl ?_)));clear H;intro a H;refine s_call qY H wn rfl (rV _ _ H.hp.ro h.marks.bK[k].move 0 1073741824) rfl ?_;clear H;rintro v109 _ a w ⟨rfl,rfl⟩ - H;refine kH H (Rn rfl (Ra rfl (Kn yw (Cd rfl ?_ ?_)))) <;> clear H yw
   ·intro tZ a H
    try have M4:=dT tZ
    refine aQ (fun _ zF=>?_);have hE:=hX 21 (by unfold tQ;rw [if_neg Es,if_neg hz,if_pos (by have h0:=tZ;simp at h0;omega)]) (by decide);exact kP H (SC (Ra rfl (Kn zF (LR Tryz.results43 rfl fun H=>H.hp.ret (by rw [hE])))))
   intro tZ a H
   try have M4:=dF tZ
   have LM:tQ (aI st li rv) k h.marks.bK[k] h.marks.bK[k - 1].rev=0:=by unfold tQ;rw [if_neg Es,if_neg hz,if_neg (by have h0:=tZ;simp at h0;omega)]
   have KP:=fun b o h=>GJ b o (BF b o (hgm b o h));refine kP H (Kc mH (SC (Rd rfl (Rm rfl ?_))));clear H mH;intro a H;refine au ?_;refine dD ((k+1,G)) (by exact (H.bL (Pl:=[_]) (bB:=[]) [] (by decide) rfl).sub ⟨rfl,rfl,rfl,rfl,rfl,rfl,trivial⟩) ?_ ?_
   ·(try dsimp only);exact ⟨by omega,by rw [zK hk2,if_neg (by rw [hde];simpa using LM)] at heq;exact heq,KP⟩
   first|omega|(dsimp only;omega)
  skip;refine dz (hmx) [[],[0],[0,1],[0,1,2],[0,1,2,3],[0,1,2],[0,1,2,5],[0,1,2],[0,1,2,7],[0,1,2,5,6,7,8],[0,1,2,5,6,7,8,9],[0,1,2,5,6,7,8,9,10],(List.range 12),(List.range 13),(List.range 14)] [14] (by kernel_rfl) (by kernel_rfl) (fun (aC:Nat) (v:Value) (G:GH)=>match aC with|0=>v=vi k|1=>v=.bool (decide (0 < (k:Int)))|2=>v=.bool (decide (0 < (k:Int)))|3=>v=undef|4=>v=undef|5=>v=undef|6=>v=undef|7=>v=undef|8=>v=undef|9=>v=undef|10=>v=undef|11=>v=undef|12=>v=undef|13=>v=.bool false|_=>True) (fun _ _ _ _ _ h=>h) H ?_ ?_
  ·exact av (Z0 rfl (Rm rfl)) (Z1 0 92 rfl (Rc rfl)) (Z1 1 93 rfl (Rm rfl)) (aV (j:=2) (by kernel_rfl) (fun _ _ _ _ _ h=>h) rfl rfl rfl rfl rfl (fun _ _ h=>Eq.trans h (congrArg Value.bool (aL c3))) rfl (fun _=>rfl)) (av (aV (j:=2) (by kernel_rfl) (fun _ _ _ _ _ h=>h) rfl rfl rfl rfl rfl (fun _ _ h=>Eq.trans h (congrArg Value.bool (aL c3))) rfl (fun _=>rfl)) (aV (j:=2) (by kernel_rfl) (fun _ _ _ _ _ h=>h) rfl rfl rfl rfl rfl (fun _ _ h=>Eq.trans h (congrArg Value.bool (aL c3))) rfl (fun _=>rfl)) (aV (j:=2) (by kernel_rfl) (fun _ _ _ _ _ h=>h) rfl rfl rfl rfl rfl (fun _ _ h=>Eq.trans h (congrArg Value.bool (aL c3))) rfl (fun _=>rfl)) (aV (j:=2) (by kernel_rfl) (fun _ _ _ _ _ h=>h) rfl rfl rfl rfl rfl (fun _ _ h=>Eq.trans h (congrArg Value.bool (aL c3))) rfl (fun _=>rfl)) (av (aV (j:=2) (by kernel_rfl) (fun _ _ _ _ _ h=>h) rfl rfl rfl rfl rfl (fun _ _ h=>Eq.trans h (congrArg Value.bool (aL c3))) rfl (fun _=>rfl)) (aV (j:=2) (by kernel_rfl) (fun _ _ _ _ _ h=>h) rfl rfl rfl rfl rfl (fun _ _ h=>Eq.trans h (congrArg Value.bool (aL c3))) rfl (fun _=>rfl)) (aV (j:=2) (by kernel_rfl) (fun _ _ _ _ _ h=>h) rfl rfl rfl rfl rfl (fun _ _ h=>Eq.trans h (congrArg Value.bool (aL c3))) rfl (fun _=>rfl)) (aV (j:=2) (by kernel_rfl) (fun _ _ _ _ _ h=>h) rfl rfl rfl rfl rfl (fun _ _ h=>Eq.trans h (congrArg Value.bool (aL c3))) rfl (fun _=>rfl)) (bq (aV (j:=2) (by kernel_rfl) (fun _ _ _ _ _ h=>h) rfl rfl rfl rfl rfl (fun _ _ h=>Eq.trans h (congrArg Value.bool (aL c3))) rfl (fun _=>rfl)) (bq (Z2 2 94 12 104 rfl (Pf (aL c3) rfl)) (bq (aT rfl) dh)))))
  clear H;intro a w G GJ H hv;have H:=H.aM (hv 13 105 rfl rfl) rfl;clear hv;refine kH H (Ra rfl ?_);clear H;intro a H;refine au ⟨rfl,?_⟩;refine kW _ _ ?_;clear kW;refine mO H rfl rfl ?_;refine aQ (fun _ yx=>?_)
  have hz:¬ (0 < k∧h.marks.bK[k].rev≤h.marks.bK[k - 1].rev):=by first|exact fun h=>c4 h.2|exact fun h=>c3 (by omega)
  refine kP H (SC (Rf Qp rfl (Ro ak 0 rfl rfl ?_)));clear H;intro a H;refine s_call qY H wn rfl (rV _ _ H.hp.ro h.marks.bK[k].move 0 1073741824) rfl ?_;clear H;rintro v109 _ a w ⟨rfl,rfl⟩ - H;refine kH H (Rn rfl (Ra rfl (Kn yx (Cd rfl ?_ ?_)))) <;> clear H yx
  ·intro tZ a H
   try have M4:=dT tZ
   refine aQ (fun _ zG=>?_);have hE:=hX 21 (by unfold tQ;rw [if_neg Es,if_neg hz,if_pos (by have h0:=tZ;simp at h0;omega)]) (by decide);exact kP H (SC (Ra rfl (Kn zG (LR Tryz.results43 rfl fun H=>H.hp.ret (by rw [hE])))))
  intro tZ a H
  try have M4:=dF tZ
  have LM:tQ (aI st li rv) k h.marks.bK[k] h.marks.bK[k - 1].rev=0:=by unfold tQ;rw [if_neg Es,if_neg hz,if_neg (by have h0:=tZ;simp at h0;omega)]
  have KP:=fun b o h=>GJ b o (BF b o (hgm b o h));refine kP H (Kc mH (SC (Rd rfl (Rm rfl ?_))));clear H mH;intro a H;refine au ?_;refine dD ((k+1,G)) (by exact (H.bL (Pl:=[_]) (bB:=[]) [] (by decide) rfl).sub ⟨rfl,rfl,rfl,rfl,rfl,rfl,trivial⟩) ?_ ?_
  ·(try dsimp only);exact ⟨by omega,by rw [zK hk2,if_neg (by rw [hde];simpa using LM)] at heq;exact heq,KP⟩
  first|omega|(dsimp only;omega)
 intro KH a H
 try have p78:=dF KH
 refine dL ?_;refine kE _ _ ?_;clear kE;refine aQ (fun _ Dg=>?_);refine aQ (fun _ Dh=>?_)
 have e4:jr (tO (aI st li rv) h.marks.bK) h.marks.bK.length=0:=by rw [← heq,List.drop_of_length_le (by simp;omega)];rfl
 replace q3:=aD hgm q3;refine kP H (SC (Rf D6 rfl (Rg ET rfl (by assumption) ?_)));clear H;intro a H;refine kH H (Rl x9 rfl (Rc rfl (Kn Dh (Cd rfl ?_ ?_)))) <;> clear H Dh
 ·intro fT a H
  try have uM:=dT fT
  refine aQ (fun _ Fw=>?_);have hE:=abb (C:=aI st li rv) (e:=e) (h:=h) e1 e2 e3 e4 uM;exact kP H (SC (Ra rfl (Kn Fw (LR Tryz.results43 rfl fun H=>H.hp.ret (by rw [hE])))))
 intro fT a H
 try have uM:=dF fT
 refine eX ?_;refine Dg _ _ ?_;clear Dg;refine aQ (fun _ Fx=>?_);have hE:=abd (C:=aI st li rv) (e:=e) (h:=h) e1 e2 e3 e4 uM;refine kP H (SC (Rf D6 rfl (Rg ET rfl (by assumption) ?_)));clear H;intro a H;refine kH H (Rl x9 rfl ?_);clear H;intro a H;refine lT H wn rfl rfl ?_;clear H;intro a H;refine s_call Bp H wn rfl (Du _ _ H.hp.ro h.marks.layers.length (Ah (aI st li rv) e h.marks.layers) _ (by omega) (hcb.mono hgm)) rfl ?_;clear H;rintro agD afM a w rfl afV H;exact kH H (Ra rfl (Kn Fx (LR Tryz.results43 rfl fun H=>H.hp.ret (by rw [hE]))))
end
end Go.Proofs.YthichnnlceeofaaGreat
