/-
  What the claim stands on, part 3: Fst Nam Pn De Dj Mp Dk Dw Lsc Dm Dl Lfl Dv Lpc Scn By Lps Lcl Dst Sty Mk Stz Dsc Mi Ro Ri.
-/
import Derived.Test.YtlnhhlighgaapaaGreatWkb
import Derived.MapKept
import Derived.Lib.ConvBytes
import Derived.Laws.MakeOwn
namespace Go.Proofs.YtlnhhlighgaapaaGreat
open Go.Proofs.Tryz
section
open Go.RowKit
theorem jg:Ty prog 22 1 8 [.int .i64 0] false:=⟨by kernel_rfl,by kernel_rfl⟩
theorem rU:prog.underlying 221=some (.slice 22):=by kernel_rfl
theorem zJ:∀ args w,(callFunc 128 args).run prog w=.ok (.enter 128 args) w:=enters func128 rfl (by kernel_rfl)
theorem zX (G:GH) (w0:World) (hG:Hold G w0) (n l h:Int):Calls prog 128 #[vi n,vi l,vi h] w0 (bR w0 G fun u G'=>u=.bool (decide (l≤n∧n≤h))∧G=G'):=by
 refine eN [(0,_),(1,_),(2,_)] func128 rfl ntmps128 rfl rfl hG ?_;intro a H;refine kP H (SR fun _ K1=>ak K1 rfl (SR fun _ K2=>Rm rfl (Rm rfl (Rc rfl (Rm rfl (Sp 10 rfl ?_ ?_)))))) <;> clear H K1
 ·intro h10 a H
  try have mX:=dT h10
  exact kH H (YM h10 rfl (YM h10 rfl (YC h10 rfl (Pt h10 rfl (ak K2 rfl (LR results128 rfl fun H=>H.rt ⟨aL (by first|(simp_all;done)|(simp_all;omega)),rfl⟩))))))
 intro h10 a H
 try have mX:=dF h10
 exact kH H (aT h10 rfl (Pf h10 rfl (ak K2 rfl (LR results128 rfl fun H=>H.rt ⟨aL (by first|(simp_all;done)|(simp_all;omega)),rfl⟩))))
def bS (b:Bool) (e:Int):Int:=if b=true then e else 0
theorem kW (G:GH) (w0:World) (hG:Hold G w0) (b:Bool) (e:Int):Calls prog 65 #[.bool b,vi e] w0 (bR w0 G fun u G'=>u=vi (bS b e)∧G=G'):=by
 refine eN [(0,_),(1,_)] func65 rfl ntmps65 rfl rfl hG ?_;intro a H;refine kP H (SR fun _ K1=>ak K1 rfl (SQ fun _ K2=>SR fun _ K3=>Rm rfl (Kz K3 (Cd rfl ?_ ?_)))) <;> clear H K1 K3
 ·intro h5 a H
  try have p5:=dT h5
  exact kP H (SR fun _ K4=>Rm rfl (ak K4 rfl (LR results65 rfl fun H=>H.rt ⟨aC vi (by simp_all [bS]),rfl⟩)))
 intro h5 a H
 try have p5:=dF h5
 exact kP H (Kc K2 (SR fun _ K5=>ak K5 rfl (LR results65 rfl fun H=>H.rt ⟨aC vi (by simp_all [bS]),rfl⟩)))
def bV:List Int→Int
 | []=>0
 | e :: r=>if e≠0 then e else bV r
theorem Qi {l:List Int} {k:Nat} (h:k < l.length):bV (l.drop k)=if l[k]≠0 then l[k] else bV (l.drop (k+1)):=by
 rw [kR h,bV]
theorem tJ (G:GH) (w0:World) (hG:Hold G w0) (l:List Int) (v:aj) (hv:aB G (.sl 1 (l.map fun k=>[li k])) v) :
  Calls prog 52 #[v] w0 (bR w0 G fun u G'=>u=vi (bV l)∧G=G'):=by
 obtain ⟨A,c,rfl,hc1,hc2,hg⟩:=hv.slice;have hml:maxLen=9223372036854775807:=rfl;rw [bZ] at *;refine eN [(0,_)] func52 rfl ntmps52 rfl rfl hG ?_;intro a H;refine kP H (SR fun _ K1=>ak K1 rfl (SQ fun _ K2=>SR fun _ K3=>Rm rfl (Rl rU rfl (Rm rfl (Kz K3 (SB ?_))))));clear H K1 K3;intro a H;skip;refine fH (ι:=Nat) (Tc:=[(5,_),(6,_)]) (Lc:=[]) (fun gh=>[(7,vi gh)]) (fun gh=>[]) (fun gh=>G) (fun gh=>gh≤l.length∧bV (l.drop gh)=bV l) (fun gh=>l.length - gh) (0) (by exact (H).sub ⟨rfl,rfl,rfl,av⟩) ?_ ?_
 ·exact ⟨iK _,rfl⟩
 clear H;intro gh a w hI H;obtain ⟨k,hgh⟩:∃ x,x=gh:=⟨_,rfl⟩;subst hgh;obtain ⟨hk,he⟩:=hI;dsimp only [lca,aS] at H;refine kP H (SR fun _ K4=>Rc rfl (Kz K4 (SQ fun _ K5=>Cd rfl ?_ ?_))) <;> clear H K4
 ·intro h8 a H
  try have p8:=dT h8
  have hk2:k < l.length:=by omega
  obtain ⟨b,o,cs,rfl,hcl,hrow,hr⟩:=hg k [li l[k]] (by simp [hk2]);obtain ⟨v1,_,rfl,⟨rfl,-⟩,rfl⟩:∃ v vs,cs=v :: vs∧aB G (li l[k]) v∧bH G [] vs:=hr
  have hcell:aH G b (o+k*1)=some (vi l[k]):=by simpa using hrow 0 _ rfl
  refine kP H (Kc K5 (SQ fun _ K6=>SB (SR fun _ K7=>Ri rU jg rfl rfl (Rg jg rfl hcell (ak K7 rfl (SR fun _ K8=>Rm rfl (Rc rfl (Kz K8 (Cd rfl ?_ ?_))))))))) <;> clear H K5 K7 K8
  ·intro h12 a H
   try have qM:=dT h12
   exact kP H (SR fun _ K9=>Rm rfl (ak K9 rfl (LR results52 rfl fun H=>H.rt ⟨aC vi (by rw [Qi hk2,au qM] at he;exact he),rfl⟩)))
  intro h12 a H
  try have qM:=dF h12
  refine kP H (Kc K6 (SC (Rd rfl (Rm rfl ?_))));clear H K6;intro a H;refine aI ?_;refine dP ((k+1)) (by exact (H).sub ⟨rfl,rfl,rfl,av⟩) ?_ ?_
  ·exact ⟨by omega,by rw [Qi hk2,ah qM] at he;exact he⟩
  first|omega|(dsimp only;omega)
 intro h8 a H
 try have p8:=dF h8
 refine eD ?_;refine K2 _ _ ?_;clear K2;exact kP H (SR fun _ aZ=>ak aZ rfl (LR results52 rfl fun H=>H.rt ⟨aC vi (by rw [gy (by omega)] at he;exact he),rfl⟩))
def vP (fv:aj) (Gi:GH) (n:Nat) (E:Nat→Int):Prop:=∀ i,i < n→∀ (G1:GH) (w1:World),(∀ b o,Gi b=some o→G1 b=some o)→Hold G1 w1→yg prog fv [vi i] w1 (bR w1 G1 fun u G'=>u=vi (E i))
theorem vP.mono {fv:aj} {G G':GH} {n:Nat} {E:Nat→Int} (h:vP fv G n E) (hm:∀ b o,G b=some o→G' b=some o):vP fv G' n E:=fun i hi G1 w1 hG1=>h i hi G1 w1 fun b o hb=>hG1 b o (hm b o hb)
def iQ (E:Nat→Int) (n:Nat):Int:=bV ((List.range n).map E)
theorem qZ {E:Nat→Int} {n k:Nat} (h:k < n):bV (((List.range n).map E).drop k)=if E k≠0 then E k else bV (((List.range n).map E).drop (k+1)):=by
 rw [Qi (by simpa using h)];simp
theorem MP (G:GH) (w0:World) (hG:Hold G w0) (n:Nat) (E:Nat→Int) (fv:aj) (hn:n≤4611686018427387904) (hf:vP fv G n E) :
  Calls prog 119 #[vi n,fv] w0 (bR w0 G fun u G'=>u=vi (iQ E n)):=by
 refine eN [(0,_),(1,_)] func119 rfl ntmps119 rfl rfl hG ?_;intro a H;refine kP H (SR fun _ K1=>ak K1 rfl (SQ fun _ K2=>SR fun _ K3=>Rm rfl (Rm rfl (Kz K3 (SB ?_)))));clear H K1 K3;intro a H;skip;refine fH (ι:=Nat × GH) (Tc:=[(1,_),(7,_)]) (Lc:=[]) (fun gh=>[(8,vi gh.1)]) (fun gh=>[]) (fun gh=>gh.2) (fun gh=>gh.1≤n∧bV (((List.range n).map E).drop gh.1)=iQ E n∧(∀ b o,G b=some o→gh.2 b=some o)) (fun gh=>n - gh.1) ((0,G)) (by exact (H).sub ⟨rfl,rfl,rfl,av⟩) ?_ ?_
 ·exact ⟨iK _,rfl,fun _ _ h=>h⟩
 clear H;intro gh a w hI H;obtain ⟨k,g⟩:=gh;dsimp only at hI H;obtain ⟨hk,he,hgm⟩:=hI;dsimp only [lca,aS] at H;refine kP H (SR fun _ K4=>Rc rfl (Kz K4 (SQ fun _ K5=>Cd rfl ?_ ?_))) <;> clear H K4
 ·intro h9 a H
  try have p9:=dT h9
  have hk2:k < n:=by omega
  refine kP H (Kc K5 (SQ fun _ K6=>SB (SR fun _ K7=>Rm rfl (ak K7 rfl (SR fun _ K8=>Rm rfl (Rm rfl ?_))))));clear H K5 K7;intro a H;refine qP H wn rfl rfl (hf k hk2 _ _ hgm H.ro) rfl ?_;clear H;rintro v13 CQ a w rfl uI H;refine kH H (ak K8 rfl (SR fun _ K9=>Rm rfl (Rc rfl (Kz K9 (Cd rfl ?_ ?_))))) <;> clear H K8 K9
  ·intro jO a H
   try have qw:=dT jO
   exact kP H (SR fun _ aZ=>Rm rfl (ak aZ rfl (LR results119 rfl fun H=>H.rt (aC vi (by rw [qZ hk2,au qw] at he;exact he)))))
  intro jO a H
  try have qw:=dF jO
  refine kP H (Kc K6 (SC (Rd rfl (Rm rfl ?_))));clear H K6;intro a H;refine aI ?_;refine dP ((k+1,CQ)) (by exact (H).sub ⟨rfl,rfl,rfl,av⟩) ?_ ?_
  ·(try dsimp only);exact ⟨by omega,by rw [qZ hk2,ah qw] at he;exact he,fun b o h=>uI b o (hgm b o h)⟩
  first|omega|(dsimp only;omega)
 intro h9 a H
 try have p9:=dF h9
 refine eD ?_;refine K2 _ _ ?_;clear K2;exact kP H (SR fun _ bN=>ak bN rfl (LR results119 rfl fun H=>H.rt (aC vi (by rw [gy (by simp;omega)] at he;exact he))))
def lQ (id:Nat→Int) (i:Nat):Int:=if ¬ (1≤id i∧id i≤1073741824) then 18 else if 0 < i∧id i=id (i - 1) then 7 else if 0 < i∧id i < id (i - 1) then 6 else 0
theorem WK (G:GH) (w0:World) (hG:Hold G w0) (i:Nat) (id:Nat→Int) (fv:aj) (hn:i≤4611686018427387904) (hf:vP fv G (i+1) id) :
  Calls prog 121 #[vi i,fv] w0 (bR w0 G fun u G'=>u=vi (lQ id i)):=by
 refine eN [(0,_),(1,_)] func121 rfl ntmps121 rfl rfl hG ?_;intro a H;refine kP H (SR fun _ K1=>ak K1 rfl (SQ fun _ K2=>SB (SR fun _ K3=>Rm rfl (Rm rfl ?_))));clear H K1;intro a H;refine qP H wn rfl rfl (hf i (Nat.lt_succ_self _) _ _ (fun _ _ h=>h) H.ro) rfl ?_;clear H;rintro v8 G8 a w rfl AZ H;refine s_call zJ H wn rfl (zX _ _ H.ro (id i) 1 1073741824) rfl ?_;clear H;rintro v9 _ a w ⟨rfl,rfl⟩ - H;refine kH H (Rn rfl (ak K3 rfl (Cd rfl ?_ ?_))) <;> clear H K3
 ·intro h5 a H
  try have p5:=dT h5
  refine kP H (SR fun _ K4=>ak K4 rfl ?_);clear H K4;intro a H;refine lr H results121 rfl ?_
  exact H.rt (aC vi (by unfold lQ;(repeat' split) <;> first|rfl|(exfalso;simp_all;done)|(exfalso;simp_all;omega)))
 intro h5 a H
 try have p5:=dF h5
 refine kP H (SR fun _ K5=>Rm rfl (Rc rfl (Rm rfl (Sp 14 rfl ?_ ?_)))) <;> clear H
 ·intro eO a H
  try have ny:=dT eO
  refine kH H (YM eO rfl (YM eO rfl ?_));clear H;intro a H;refine qP H (wg H rfl rfl eO) rfl rfl (hf i (Nat.lt_succ_self _) _ _ AZ H.ro) rfl ?_;clear H;rintro v17 CU a w rfl tY H;refine kH H (YM eO rfl (YM eO rfl ?_));clear H;intro a H;refine og _ H (wg H rfl rfl eO) rfl rfl rfl (by omega) (by omega) rfl ?_;clear H;intro a H;rw [show ((i:Int) - 1)=((i - 1:Nat):Int) by omega] at H;refine qP H (wg H rfl rfl eO) rfl rfl (hf (i - 1) (by omega) _ _ (fun b o h=>tY b o (AZ b o h)) H.ro) rfl ?_;clear H;rintro v21 YD a w rfl EP H;refine kH H (YC eO rfl (Pt eO rfl (ak K5 rfl (Cd rfl ?_ ?_)))) <;> clear H K5
  ·intro h11 a H
   try have sN:=dT h11
   refine kP H (SR fun _ K6=>ak K6 rfl ?_);clear H K6;intro a H;refine lr H results121 rfl ?_
   exact H.rt (aC vi (by unfold lQ;(repeat' split) <;> first|rfl|(exfalso;simp_all;done)|(exfalso;simp_all;omega)))
  intro h11 a H
  try have sN:=dF h11
  refine kP H (SR fun _ K7=>Rm rfl (Rc rfl (Rm rfl (Sp 27 rfl ?_ ?_)))) <;> clear H
  ·intro h27 a H
   try have p27:=dT h27
   refine kH H (YM h27 rfl (YM h27 rfl ?_));clear H;intro a H;refine qP H (wg H rfl rfl h27) rfl rfl (hf i (Nat.lt_succ_self _) _ _ (fun b o h=>by first|exact EP b o (tY b o (AZ b o h))|(exfalso;omega)) H.ro) rfl ?_;clear H;rintro v30 Fv a w rfl Gx H;refine kH H (YM h27 rfl (YM h27 rfl ?_));clear H;intro a H;refine og _ H (wg H rfl rfl h27) rfl rfl rfl (by omega) (by omega) rfl ?_;clear H;intro a H;rw [show ((i:Int) - 1)=((i - 1:Nat):Int) by omega] at H;refine qP H (wg H rfl rfl h27) rfl rfl (hf (i - 1) (by omega) _ _ (fun b o h=>by first|exact Gx b o (EP b o (tY b o (AZ b o h)))|(exfalso;omega)) H.ro) rfl ?_;clear H;rintro v34 G34 a w rfl abS H;refine kH H (YC h27 rfl (Pt h27 rfl (ak K7 rfl (Cd rfl ?_ ?_)))) <;> clear H K7
   ·intro eP a H
    try have nA:=dT eP
    refine kP H (SR fun _ K8=>ak K8 rfl ?_);clear H K8;intro a H;refine lr H results121 rfl ?_
    exact H.rt (aC vi (by unfold lQ;(repeat' split) <;> first|rfl|(exfalso;simp_all;done)|(exfalso;simp_all;omega)))
   intro eP a H
   try have nA:=dF eP
   refine kP H (Kc K2 (SR fun _ K9=>ak K9 rfl ?_));clear H K2 K9;intro a H;refine lr H results121 rfl ?_
   exact H.rt (aC vi (by unfold lQ;(repeat' split) <;> first|rfl|(exfalso;simp_all;done)|(exfalso;simp_all;omega)))
  intro h27 a H
  try have p27:=dF h27
  refine kH H (aT h27 rfl (aT h27 rfl (aP h27 rfl (Pf h27 rfl (ak K7 rfl (Cf rfl rfl (Kc K2 (SR fun _ aZ=>ak aZ rfl ?_))))))));clear H K7 K2 aZ;intro a H;refine lr H results121 rfl ?_
  exact H.rt (aC vi (by unfold lQ;(repeat' split) <;> first|rfl|(exfalso;simp_all;done)|(exfalso;simp_all;omega)))
 intro eO a H
 try have ny:=dF eO
 refine kH H (aT eO rfl (aT eO rfl (aP eO rfl (Pf eO rfl (ak K5 rfl (Cf rfl rfl (SR fun _ bN=>Rm rfl (Rc rfl (Rm rfl (Sp 27 rfl ?_ ?_)))))))))) <;> clear H K5
 ·intro h27 a H
  try have p27:=dT h27
  refine kH H (YM h27 rfl (YM h27 rfl ?_));clear H;intro a H;refine qP H (wg H rfl rfl h27) rfl rfl (hf i (Nat.lt_succ_self _) _ _ (fun b o h=>by first|exact EP b o (tY b o (AZ b o h))|(exfalso;omega)) H.ro) rfl ?_;clear H;rintro v30 Fv a w rfl Gx H;refine kH H (YM h27 rfl (YM h27 rfl ?_));clear H;intro a H;refine og _ H (wg H rfl rfl h27) rfl rfl rfl (by omega) (by omega) rfl ?_;clear H;intro a H;rw [show ((i:Int) - 1)=((i - 1:Nat):Int) by omega] at H;refine qP H (wg H rfl rfl h27) rfl rfl (hf (i - 1) (by omega) _ _ (fun b o h=>by first|exact Gx b o (EP b o (tY b o (AZ b o h)))|(exfalso;omega)) H.ro) rfl ?_;clear H;rintro v34 G34 a w rfl abS H;refine kH H (YC h27 rfl (Pt h27 rfl (ak bN rfl (Cd rfl ?_ ?_)))) <;> clear H bN
  ·intro eP a H
   try have nA:=dT eP
   refine kP H (SR fun _ bQ=>ak bQ rfl ?_);clear H bQ;intro a H;refine lr H results121 rfl ?_
   exact H.rt (aC vi (by unfold lQ;(repeat' split) <;> first|rfl|(exfalso;simp_all;done)|(exfalso;simp_all;omega)))
  intro eP a H
  try have nA:=dF eP
  refine kP H (Kc K2 (SR fun _ bT=>ak bT rfl ?_));clear H K2 bT;intro a H;refine lr H results121 rfl ?_
  exact H.rt (aC vi (by unfold lQ;(repeat' split) <;> first|rfl|(exfalso;simp_all;done)|(exfalso;simp_all;omega)))
 intro h27 a H
 try have p27:=dF h27
 refine kH H (aT h27 rfl (aT h27 rfl (aP h27 rfl (Pf h27 rfl (ak bN rfl (Cf rfl rfl (Kc K2 (SR fun _ cu=>ak cu rfl ?_))))))));clear H bN K2 cu;intro a H;refine lr H results121 rfl ?_
 exact H.rt (aC vi (by unfold lQ;(repeat' split) <;> first|rfl|(exfalso;simp_all;done)|(exfalso;simp_all;omega)))
end
section
open Go.RowKit
theorem kS:∀ args w,(callFunc 65 args).run prog w=.ok (.enter 65 args) w:=enters func65 rfl (by kernel_rfl)
theorem tH:∀ args w,(callFunc 52 args).run prog w=.ok (.enter 52 args) w:=enters func52 rfl (by kernel_rfl)
def qE (s:ByteArray):Bool:=decide (1≤s.size∧s.size≤40) && rV s
theorem Zz (G:GH) (w0:World) (hG:Hold G w0) (s:ByteArray) (hs:s.size < 4611686018427387904):Calls prog 127 #[.string s] w0 (bR w0 G fun u G'=>u=.bool (qE s)∧G=G'):=by
 refine eN [(0,_)] func127 rfl ntmps127 rfl rfl hG ?_;intro a H;refine kP H (SR fun _ K1=>ak K1 rfl (SR fun _ K2=>Rm rfl (Rv iO rfl (Rc rfl (Rm rfl (Sp 6 rfl ?_ ?_)))))) <;> clear H K1
 ·intro h6 a H
  try have p6:=dT h6
  refine kH H (YM h6 rfl ?_);clear H;intro a H;refine Cz iO H (wg H rfl rfl h6) rfl rfl ?_;clear H;intro a H;refine kH H (YC h6 rfl (Pt h6 rfl (Rm rfl (Sp 11 rfl ?_ ?_)))) <;> clear H
  ·intro h11 a H
   try have sN:=dT h11
   refine kH H (YM h11 rfl ?_);clear H;intro a H;refine s_call FU H (wg H rfl rfl h11) rfl (Ho _ _ H.ro s hs) rfl ?_;clear H;rintro v13 _ a w ⟨rfl,rfl⟩ - H;exact kH H (Pt h11 rfl (ak K2 rfl (LR results127 rfl fun H=>H.rt ⟨aL (by unfold qE;first|(simp_all;done)|(simp_all;omega)),rfl⟩)))
  intro h11 a H
  try have sN:=dF h11
  exact kH H (aP h11 rfl (Pf h11 rfl (ak K2 rfl (LR results127 rfl fun H=>H.rt ⟨aL (by unfold qE;first|(simp_all;done)|(simp_all;omega)),rfl⟩))))
 intro h6 a H
 try have p6:=dF h6
 exact kH H (aT h6 rfl (Pf h6 rfl (Rm rfl (aP rfl rfl (Pf rfl rfl (ak K2 rfl (LR results127 rfl fun H=>H.rt ⟨aL (by unfold qE;first|(simp_all;done)|(simp_all;omega)),rfl⟩)))))))
theorem Zy (G:GH) (w0:World) (hG:Hold G w0) (s:ByteArray) (hs:s.size < 4611686018427387904):Calls prog 58 #[.string s] w0 (bR w0 G fun u G'=>u=.bool (qE s)∧G=G'):=by
 refine eN [(0,_)] func58 rfl ntmps58 rfl rfl hG ?_;intro a H;refine kP H (SR fun _ K1=>ak K1 rfl (SR fun _ K2=>Rm rfl ?_));clear H K1;intro a H;refine s_call FU H wn rfl (Ho _ _ H.ro s hs) rfl ?_;clear H;rintro v4 _ a w ⟨rfl,rfl⟩ - H;refine kH H (Rm rfl (Sp 5 rfl ?_ ?_)) <;> clear H
 ·intro h5 a H
  try have p5:=dT h5
  refine kH H (YM h5 rfl ?_);clear H;intro a H;refine Cz iO H (wg H rfl rfl h5) rfl rfl ?_;clear H;intro a H;refine kH H (YC h5 rfl (Pt h5 rfl (Rm rfl (Sp 10 rfl ?_ ?_)))) <;> clear H
  ·intro h10 a H
   try have mX:=dT h10
   refine kH H (YM h10 rfl ?_);clear H;intro a H;refine Cz iO H (wg H rfl rfl h10) rfl rfl ?_;clear H;intro a H;refine kH H (YC h10 rfl (Pt h10 rfl (ak K2 rfl ?_)));clear H K2;intro a H;refine lr H results58 rfl ?_;refine H.rt ⟨aL ?_,rfl⟩
   unfold qE
   cases hvs:rV s <;> simp_all
   all_goals (first|omega|(rw [rZ];simp;omega))
  intro h10 a H
  try have mX:=dF h10
  refine kH H (aT h10 rfl (Pf h10 rfl (ak K2 rfl ?_)));clear H K2;intro a H;refine lr H results58 rfl ?_;refine H.rt ⟨aL ?_,rfl⟩
  unfold qE
  cases hvs:rV s <;> simp_all
  all_goals (first|omega|(rw [rZ];simp;omega))
 intro h5 a H
 try have p5:=dF h5
 refine kH H (aT h5 rfl (Pf h5 rfl (Rm rfl (aT rfl rfl (Pf rfl rfl (ak K2 rfl ?_))))));clear H K2;intro a H;refine lr H results58 rfl ?_;refine H.rt ⟨aL ?_,rfl⟩
 unfold qE
 cases hvs:rV s <;> simp_all
 all_goals (first|omega|(rw [rZ];simp;omega))
def uj (s:ByteArray):Int:=bV [bS (!rV s) 12,bS (decide (1024 < (s.size:Int))) 10]
theorem Bo {G:GH} {b:Nat} {x y:Int} (h:G b=some (.cells #[vi x,vi y] 22 (0,0))):aB G (.sl 1 ([x,y].map fun k=>[li k])) (.slice (some ⟨b,0,none⟩) 2 2) :=
 aB.fZ (n:=2) (cap:=2) h rfl (dQ _) (show 2≤maxLen by decide) (kF (dQ _)) (gH G [x,y])
theorem X7 (G:GH) (w0:World) (hG:Hold G w0) (s:ByteArray) (hs:s.size < 4611686018427387904):Calls prog 129 #[.string s] w0 (bR w0 G fun u G'=>u=vi (uj s)):=by
 refine eN [(0,_)] func129 rfl ntmps129 rfl rfl hG ?_;intro a H;refine kP H (SR fun _ K1=>ak K1 rfl (SR fun _ K2=>Rm rfl ?_));clear H K1;intro a H;refine s_call FU H wn rfl (Ho _ _ H.ro s hs) rfl ?_;clear H;rintro v4 _ a w ⟨rfl,rfl⟩ - H;refine kH H (Rn rfl ?_);clear H;intro a H;refine s_call kS H wn rfl (kW _ _ H.ro _ 12) rfl ?_;clear H;rintro v6 _ a w ⟨rfl,rfl⟩ - H;refine kH H (Rm rfl (Rv iO rfl (Rc rfl ?_)));clear H;intro a H;refine s_call kS H wn rfl (kW _ _ H.ro _ 10) rfl ?_;clear H;rintro v10 _ a w ⟨rfl,rfl⟩ - H;refine jF rU jg [_,_] [_,_] H wn rfl rfl rfl rfl rfl (by intro i q h;match i,h with|0,h=>exact h|1,h=>exact h|n+2,h=>simp at h) rfl rfl ?_;clear H;intro b11 a w I8 H;obtain ⟨zx,Ji,KQ,H⟩:=H.fD;refine s_call tH H wn rfl (tJ _ _ H.ro _ _ (Bo KQ)) rfl ?_;clear H;rintro v12 _ a w ⟨rfl,rfl⟩ - H;exact kH H (ak K2 rfl (LR results129 rfl fun H=>H.rt rfl))
theorem aeC (G:GH) (w0:World) (hG:Hold G w0) (s:ByteArray) (hs:s.size < 4611686018427387904):Calls prog 59 #[.string s] w0 (bR w0 G fun u G'=>u=vi (uj s)∧G=G'):=by
 refine eN [(0,_)] func59 rfl ntmps59 rfl rfl hG ?_;intro a H;refine kP H (SR fun _ K1=>ak K1 rfl (SQ fun _ K2=>SB (SR fun _ K3=>Rm rfl ?_)));clear H K1;intro a H;refine s_call FU H wn rfl (Ho _ _ H.ro s hs) rfl ?_;clear H;rintro v5 _ a w ⟨rfl,rfl⟩ - H;refine kH H (Rn rfl (ak K3 rfl (Cd rfl ?_ ?_))) <;> clear H K3
 ·intro h3 a H
  try have p3:=dT h3
  exact kP H (SR fun _ K4=>ak K4 rfl (LR results59 rfl fun H=>H.rt ⟨aC vi (by unfold uj;simp_all [bV,bS]),rfl⟩))
 intro h3 a H
 try have p3:=dF h3
 refine kP H (SR fun _ K5=>Rm rfl (Rv iO rfl (Rc rfl (ak K5 rfl (Cd rfl ?_ ?_))))) <;> clear H K5
 ·intro h7 a H
  try have p7:=dT h7
  exact kP H (SR fun _ K6=>ak K6 rfl (LR results59 rfl fun H=>H.rt ⟨aC vi (by unfold uj;simp_all [bV,bS]),rfl⟩))
 intro h7 a H
 try have p7:=dF h7
 exact kP H (Kc K2 (SR fun _ K7=>ak K7 rfl (LR results59 rfl fun H=>H.rt ⟨aC vi (by unfold uj;simp_all [bV,bS]),rfl⟩)))
def xK (id before:Int) (fst:Bool):Int:=if id < 1∨1073741824 < id then 18 else if fst=false∧id=before then 7 else if fst=false∧id < before then 6 else 0
theorem WJ (G:GH) (w0:World) (hG:Hold G w0) (id before:Int) (fst:Bool):Calls prog 56 #[vi id,vi before,.bool fst] w0 (bR w0 G fun u G'=>u=vi (xK id before fst)∧G=G'):=by
 refine eN [(0,_),(1,_),(2,_)] func56 rfl ntmps56 rfl rfl hG ?_;intro a H;refine kP H (SR fun _ K1=>ak K1 rfl (SQ fun _ K2=>SB (SR fun _ K3=>Rm rfl (Rc rfl (Rm rfl (Sp 10 rfl ?_ ?_)))))) <;> clear H K1
 ·intro h10 a H
  try have mX:=dT h10
  refine kH H (aP h10 rfl (Pt h10 rfl (ak K3 rfl (Ct rfl rfl (SR fun _ K4=>ak K4 rfl ?_)))));clear H K3 K4;intro a H;refine lr H results56 rfl ?_
  exact H.rt ⟨aC vi (by unfold xK;(repeat' split) <;> first|rfl|(exfalso;simp_all;done)|(exfalso;simp_all;omega)),rfl⟩
 intro h10 a H
 try have mX:=dF h10
 refine kH H (YM h10 rfl (YC h10 rfl (Pf h10 rfl (ak K3 rfl (Cd rfl ?_ ?_))))) <;> clear H K3
 ·intro h7 a H
  try have p7:=dT h7
  refine kP H (SR fun _ K5=>ak K5 rfl ?_);clear H K5;intro a H;refine lr H results56 rfl ?_
  exact H.rt ⟨aC vi (by unfold xK;(repeat' split) <;> first|rfl|(exfalso;simp_all;done)|(exfalso;simp_all;omega)),rfl⟩
 intro h7 a H
 try have p7:=dF h7
 refine kP H (SR fun _ K6=>Rm rfl (Rn rfl (Rm rfl (Sp 17 rfl ?_ ?_)))) <;> clear H
 ·intro dS a H
  try have mJ:=dT dS
  refine kH H (YM dS rfl (YM dS rfl (YC dS rfl (Pt dS rfl (ak K6 rfl (Cd rfl ?_ ?_)))))) <;> clear H K6
  ·intro eO a H
   try have ny:=dT eO
   refine kP H (SR fun _ K7=>ak K7 rfl ?_);clear H K7;intro a H;refine lr H results56 rfl ?_
   exact H.rt ⟨aC vi (by unfold xK;(repeat' split) <;> first|rfl|(exfalso;simp_all;done)|(exfalso;simp_all;omega)),rfl⟩
  intro eO a H
  try have ny:=dF eO
  refine kP H (SR fun _ K8=>Rm rfl (Rn rfl (Rm rfl (Sp 25 rfl ?_ ?_)))) <;> clear H
  ·intro gZ a H
   try have p25:=dT gZ
   refine kH H (YM gZ rfl (YM gZ rfl (YC gZ rfl (Pt gZ rfl (ak K8 rfl (Cd rfl ?_ ?_)))))) <;> clear H K8
   ·intro h22 a H
    try have kr:=dT h22
    refine kP H (SR fun _ K9=>ak K9 rfl ?_);clear H K9;intro a H;refine lr H results56 rfl ?_
    exact H.rt ⟨aC vi (by unfold xK;(repeat' split) <;> first|rfl|(exfalso;simp_all;done)|(exfalso;simp_all;omega)),rfl⟩
   intro h22 a H
   try have kr:=dF h22
   refine kP H (Kc K2 (SR fun _ aZ=>ak aZ rfl ?_));clear H K2 aZ;intro a H;refine lr H results56 rfl ?_
   exact H.rt ⟨aC vi (by unfold xK;(repeat' split) <;> first|rfl|(exfalso;simp_all;done)|(exfalso;simp_all;omega)),rfl⟩
  intro gZ a H
  try have p25:=dF gZ
  refine kH H (aT gZ rfl (Pf gZ rfl (ak K8 rfl (Cf rfl rfl (Kc K2 (SR fun _ bN=>ak bN rfl ?_))))));clear H K8 K2 bN;intro a H;refine lr H results56 rfl ?_
  exact H.rt ⟨aC vi (by unfold xK;(repeat' split) <;> first|rfl|(exfalso;simp_all;done)|(exfalso;simp_all;omega)),rfl⟩
 intro dS a H
 try have mJ:=dF dS
 refine kH H (aT dS rfl (Pf dS rfl (ak K6 rfl (Cf rfl rfl (SR fun _ bQ=>Rm rfl (Rn rfl (Rm rfl (Sp 25 rfl ?_ ?_)))))))) <;> clear H K6
 ·intro gZ a H
  try have p25:=dT gZ
  refine kH H (YM gZ rfl (YM gZ rfl (YC gZ rfl (Pt gZ rfl (ak bQ rfl (Cd rfl ?_ ?_)))))) <;> clear H bQ
  ·intro h22 a H
   try have kr:=dT h22
   refine kP H (SR fun _ bT=>ak bT rfl ?_);clear H bT;intro a H;refine lr H results56 rfl ?_
   exact H.rt ⟨aC vi (by unfold xK;(repeat' split) <;> first|rfl|(exfalso;simp_all;done)|(exfalso;simp_all;omega)),rfl⟩
  intro h22 a H
  try have kr:=dF h22
  refine kP H (Kc K2 (SR fun _ cu=>ak cu rfl ?_));clear H K2 cu;intro a H;refine lr H results56 rfl ?_
  exact H.rt ⟨aC vi (by unfold xK;(repeat' split) <;> first|rfl|(exfalso;simp_all;done)|(exfalso;simp_all;omega)),rfl⟩
 intro gZ a H
 try have p25:=dF gZ
 refine kH H (aT gZ rfl (Pf gZ rfl (ak bQ rfl (Cf rfl rfl (Kc K2 (SR fun _ dL=>ak dL rfl ?_))))));clear H bQ K2 dL;intro a H;refine lr H results56 rfl ?_
 exact H.rt ⟨aC vi (by unfold xK;(repeat' split) <;> first|rfl|(exfalso;simp_all;done)|(exfalso;simp_all;omega)),rfl⟩
theorem WI (id:Nat→Int) (i:Nat):xK (id i) (id (i - 1)) (decide (i=0))=lQ id i:=by
 unfold xK lQ
 (repeat' split) <;> first|rfl|(exfalso;simp_all;done)|(exfalso;simp_all;omega)
def Rb (c:Int):Bool:=decide (97≤yD .or .u8 c 32) && decide (yD .or .u8 c 32≤122)
def JQ (c:Int):Bool:=(decide (48≤c) && decide (c≤57)) || decide (c=45) || decide (c=95)
def DT (s:ByteArray) (k:Nat):Bool:=Rb (jB s k) || (decide (k≠0) && JQ (jB s k))
def pX (s:ByteArray):Bool:=decide (1≤s.size∧s.size≤40) && (List.range s.size).all (DT s)
theorem MX (G:GH) (w0:World) (hG:Hold G w0) (s:ByteArray) (hs:s.size < 4611686018427387904):Calls prog 60 #[.string s] w0 (bR w0 G fun u G'=>u=.bool (pX s)∧G=G'):=by
 refine eN [(0,_)] func60 rfl ntmps60 rfl rfl hG ?_;intro a H;refine kP H (SR fun _ K1=>ak K1 rfl (SQ fun _ K2=>SR fun _ K3=>Rm rfl (Rv iO rfl (Rc rfl (Rm rfl (Sp 10 rfl ?_ ?_)))))) <;> clear H K1
 ·intro h10 a H
  try have mX:=dT h10
  exact kH H (aT h10 rfl (Pt h10 rfl (Kz K3 (Ct rfl rfl (SR fun _ K4=>ak K4 rfl (LR results60 rfl fun H=>H.rt ⟨aL (by unfold pX;rw [iC (by omega)];rfl),rfl⟩))))))
 intro h10 a H
 try have mX:=dF h10
 refine kH H (YM h10 rfl ?_);clear H;intro a H;refine Cz iO H (wg H rfl rfl h10) rfl rfl ?_;clear H;intro a H;refine kH H (YC h10 rfl (Pf h10 rfl (Kz K3 (Cd rfl ?_ ?_)))) <;> clear H K3
 ·intro eO a H
  try have ny:=dT eO
  exact kP H (SR fun _ K5=>ak K5 rfl (LR results60 rfl fun H=>H.rt ⟨aL (by unfold pX;rw [iC (by omega)];rfl),rfl⟩))
 intro eO a H
 try have ny:=dF eO
 refine kP H (Kc K2 (SQ fun _ K6=>SR fun _ K7=>Rm rfl (Rv iO rfl (Rm rfl (Kz K7 (SB ?_))))));clear H K2 K7;intro a H;skip;refine fH (ι:=Nat) (Tc:=[(0,_),(16,_)]) (Lc:=[]) (fun gh=>[(17,vi gh)]) (fun gh=>[]) (fun gh=>G) (fun gh=>gh≤s.size∧(List.range gh).all (DT s)=true) (fun gh=>s.size - gh) (0) (by exact (H).sub ⟨rfl,rfl,rfl,av⟩) ?_ ?_
 ·exact ⟨iK _,rfl⟩
 clear H;intro gh a w hI H;obtain ⟨k,hgh⟩:∃ x,x=gh:=⟨_,rfl⟩;subst hgh;obtain ⟨hk,hall⟩:=hI;dsimp only [lca,aS] at H;refine kP H (SR fun _ K8=>Rc rfl (Kz K8 (SQ fun _ K9=>Cd rfl ?_ ?_))) <;> clear H K8
 ·intro h18 a H
  try have sO:=dT h18
  have hk2:k < s.size:=by omega
  refine kP H (Kc K9 (SQ fun _ aZ=>SB (SR fun _ bN=>Rm rfl (ak bN rfl (SR fun _ bQ=>Rm rfl (Rm rfl ?_))))));clear H K9 bN;intro a H;refine qQ k iO H wn rfl rfl rfl (by omega) rfl ?_;clear H;intro a H;rw [← oC] at H;refine RO rfl H wn rfl rfl rfl ?_;clear H;intro a H;refine kH H (ak bQ rfl ?_);clear H bQ;intro a H;refine oO (ι:=Bool) (Tc:=[(0,_),(3,_),(16,_),(17,_)]) (Lc:=[]) (fun gh=>[(5,.bool gh)]) (fun gh=>[]) (fun gh=>G) (fun gh=>gh=Rb (jB s k)) (by exact (H).sub ⟨rfl,rfl,rfl,rfl,av⟩) ?_ ?_
  ·skip;refine kP H (SC (Rm rfl (Rc rfl (Rm rfl (Sp 26 rfl ?_ ?_))))) <;> clear H
   ·intro fV a H
    try have p26:=dT fV
    refine kH H (YM fV rfl (YC fV rfl (Pt fV rfl (Ra rfl ?_))));clear H;intro a H;refine aI ?_;refine ⟨_,by exact (H).sub ⟨rfl,rfl,rfl,rfl,rfl,av⟩,?_⟩
    unfold Rb;first|(simp_all;done)|(simp_all;omega)
   intro fV a H
   try have p26:=dF fV
   refine kH H (aP fV rfl (Pf fV rfl (Ra rfl ?_)));clear H;intro a H;refine aI ?_;refine ⟨_,by exact (H).sub ⟨rfl,rfl,rfl,rfl,rfl,av⟩,?_⟩
   unfold Rb;first|(simp_all;done)|(simp_all;omega)
  clear H;intro gh a w hI H;obtain ⟨lt,hgh⟩:∃ x,x=gh:=⟨_,rfl⟩;subst hgh;have hlt:=hI;dsimp only [lca,aS] at H;refine oO (ι:=Bool) (Tc:=[(0,_),(3,_),(5,_),(16,_),(17,_)]) (Lc:=[]) (fun gh=>[(6,.bool gh)]) (fun gh=>[]) (fun gh=>G) (fun gh=>gh=JQ (jB s k)) (by exact (H).sub ⟨rfl,rfl,rfl,rfl,rfl,av⟩) ?_ ?_
  ·skip;refine kP H (SC (Rm rfl (Rm rfl ?_)));clear H;intro a H;refine qQ k iO H wn rfl rfl rfl (by omega) rfl ?_;clear H;intro a H;rw [← oC] at H;refine kH H (Rc rfl (Rm rfl (Sp 34 rfl ?_ ?_))) <;> clear H
   ·intro fQ a H
    try have p34:=dT fQ
    refine kH H (YM fQ rfl (YM fQ rfl ?_));clear H;intro a H;refine qQ k iO H (wg H rfl rfl fQ) rfl rfl rfl (by omega) rfl ?_;clear H;intro a H;rw [← oC] at H;refine kH H (YC fQ rfl (Pt fQ rfl (Rm rfl (Sp 40 rfl ?_ ?_)))) <;> clear H
    ·intro rF a H
     try have p40:=dT rF
     refine kH H (aP rF rfl (aP rF rfl (Pt rF rfl (Rm rfl (aP rfl rfl (aP rfl rfl (Pt rfl rfl (Ra rfl ?_))))))));clear H;intro a H;refine aI ?_;refine ⟨_,by exact (H).sub ⟨rfl,rfl,rfl,rfl,rfl,rfl,av⟩,?_⟩
     unfold JQ;first|(simp_all;done)|(simp_all;omega)
    intro rF a H
    try have p40:=dF rF
    refine kH H (YM rF rfl (YM rF rfl ?_));clear H;intro a H;refine qQ k iO H (wg H rfl rfl rF) rfl rfl rfl (by omega) rfl ?_;clear H;intro a H;rw [← oC] at H;refine kH H (YC rF rfl (Pf rF rfl (Rm rfl (Sp 46 rfl ?_ ?_)))) <;> clear H
    ·intro h46 a H
     try have p46:=dT h46
     refine kH H (aP h46 rfl (aP h46 rfl (Pt h46 rfl (Ra rfl ?_))));clear H;intro a H;refine aI ?_;refine ⟨_,by exact (H).sub ⟨rfl,rfl,rfl,rfl,rfl,rfl,av⟩,?_⟩
     unfold JQ;first|(simp_all;done)|(simp_all;omega)
    intro h46 a H
    try have p46:=dF h46
    refine kH H (YM h46 rfl (YM h46 rfl ?_));clear H;intro a H;refine qQ k iO H (wg H rfl rfl h46) rfl rfl rfl (by omega) rfl ?_;clear H;intro a H;rw [← oC] at H;refine kH H (YC h46 rfl (Pf h46 rfl (Ra rfl ?_)));clear H;intro a H;refine aI ?_;refine ⟨_,by exact (H).sub ⟨rfl,rfl,rfl,rfl,rfl,rfl,av⟩,?_⟩
    unfold JQ;first|(simp_all;done)|(simp_all;omega)
   intro fQ a H
   try have p34:=dF fQ
   refine kH H (aP fQ rfl (aP fQ rfl (Pf fQ rfl (Rm rfl ?_))));clear H;intro a H;(iterate 2 refine mE H (wg H rfl rfl rfl) rfl rfl ?_;clear H;intro a H);refine qQ k iO H (wg H rfl rfl rfl) rfl rfl rfl (by omega) rfl ?_;clear H;intro a H;rw [← oC] at H;refine GX H (wg H rfl rfl rfl) rfl rfl rfl rfl ?_;clear H;intro a H;refine kH H (Pf rfl rfl (Rm rfl (Sp 46 rfl ?_ ?_))) <;> clear H
   ·intro h46 a H
    try have p46:=dT h46
    refine kH H (aP h46 rfl (aP h46 rfl (Pt h46 rfl (Ra rfl ?_))));clear H;intro a H;refine aI ?_;refine ⟨_,by exact (H).sub ⟨rfl,rfl,rfl,rfl,rfl,rfl,av⟩,?_⟩
    unfold JQ;first|(simp_all;done)|(simp_all;omega)
   intro h46 a H
   try have p46:=dF h46
   refine kH H (YM h46 rfl (YM h46 rfl ?_));clear H;intro a H;refine qQ k iO H (wg H rfl rfl h46) rfl rfl rfl (by omega) rfl ?_;clear H;intro a H;rw [← oC] at H;refine kH H (YC h46 rfl (Pf h46 rfl (Ra rfl ?_)));clear H;intro a H;refine aI ?_;refine ⟨_,by exact (H).sub ⟨rfl,rfl,rfl,rfl,rfl,rfl,av⟩,?_⟩
   unfold JQ;first|(simp_all;done)|(simp_all;omega)
  clear H;intro gh a w hI H;obtain ⟨ot,hgh⟩:∃ x,x=gh:=⟨_,rfl⟩;subst hgh;have hot:=hI;dsimp only [lca,aS] at H;refine kP H (SR fun _ bT=>Rm rfl (Rn rfl (Rm rfl (Sp 54 rfl ?_ ?_)))) <;> clear H
  ·intro iV a H
   try have p54:=dT iV
   refine kH H (YM iV rfl (YC iV rfl (YM iV rfl (Sp 57 rfl ?_ ?_)))) <;> clear H
   ·intro h57 a H
    try have p57:=dT h57
    refine kH H (aP h57 rfl (PT iV h57 rfl (Pt iV rfl (Kz bT (Ct rfl rfl (SR fun _ cu=>ak cu rfl ?_))))));clear H bT cu;intro a H;refine lr H results60 rfl ?_
    first
     | exact H.rt ⟨aL (by
       unfold pX
       rw [show k=s.size by omega] at hall
       rw [hall,gq (by omega)];rfl),rfl⟩
     | exact H.rt ⟨aL (by
       unfold pX
       rw [show (List.range s.size).all (DT s)=false from List.all_eq_false.2 ⟨k,by simpa using hk2,by unfold DT;simp_all⟩,Bool.and_false]),rfl⟩
   intro h57 a H
   try have p57:=dF h57
   refine kH H (YM h57 rfl (YN h57 rfl (PF iV h57 rfl (Pt iV rfl (Kz bT (Cd rfl ?_ ?_)))))) <;> clear H bT
   ·intro ql a H
    try have p61:=dT ql
    refine kP H (SR fun _ dL=>ak dL rfl ?_);clear H dL;intro a H;refine lr H results60 rfl ?_
    first
     | exact H.rt ⟨aL (by
       unfold pX
       rw [show k=s.size by omega] at hall
       rw [hall,gq (by omega)];rfl),rfl⟩
     | exact H.rt ⟨aL (by
       unfold pX
       rw [show (List.range s.size).all (DT s)=false from List.all_eq_false.2 ⟨k,by simpa using hk2,by unfold DT;simp_all⟩,Bool.and_false]),rfl⟩
   intro ql a H
   try have p61:=dF ql
   refine kP H (Kc aZ (SC (Rd rfl (Rm rfl ?_))));clear H aZ;intro a H;refine aI ?_;refine dP ((k+1)) (by exact (H).sub ⟨rfl,rfl,rfl,av⟩) ?_ ?_
   ·exact ⟨by omega,by rw [List.range_succ,List.all_append,hall];simp [DT];simp_all⟩
   first|omega|(dsimp only;omega)
  intro iV a H
  try have p54:=dF iV
  refine kH H (aT iV rfl (Ku rfl (Ku rfl (Ks iV rfl (Pf iV rfl (Kz bT (Cf rfl rfl (Kc aZ (SC (Rd rfl (Rm rfl ?_)))))))))));clear H bT aZ;intro a H;refine aI ?_;refine dP ((k+1)) (by exact (H).sub ⟨rfl,rfl,rfl,av⟩) ?_ ?_
  ·exact ⟨by omega,by rw [List.range_succ,List.all_append,hall];simp [DT];simp_all⟩
  first|omega|(dsimp only;omega)
 intro h18 a H
 try have sO:=dF h18
 refine eD ?_;refine K6 _ _ ?_;clear K6;refine kP H (SR fun _ dO=>ak dO rfl ?_);clear H dO;intro a H;refine lr H results60 rfl ?_
 first
  | exact H.rt ⟨aL (by
    unfold pX
    rw [show k=s.size by omega] at hall
    rw [hall,gq (by omega)];rfl),rfl⟩
  | exact H.rt ⟨aL (by
    unfold pX
    rw [show (List.range s.size).all (DT s)=false from List.all_eq_false.2 ⟨k,by simpa using hk2,by unfold DT;simp_all⟩,Bool.and_false]),rfl⟩
end
section
open Go.RowKit
section
variable {N:Nat} {D:List Deferred} {w0:World} {F:Nat→Prop} {G0 G:GH} {L:OL} {T:List (Nat × aj)}
variable {r:Option Nat} {P:Program} {ops:Array Oper} {Q:Exit→Act→World→Prop} {rest:List Oper} {a:Act} {w:World}
variable {d:Nat} {ty:TypeId} {pos:String} {aV:Array Edge} {g:Option (Nat × Bool)}
end
end
section
open Go.RowKit
section
variable {N:Nat} {D:List Deferred} {w0:World} {F:Nat→Prop} {G0 G:GH} {L:OL} {T T':List (Nat × aj)}
variable {r:Option Nat} {P:Program} {Q:Exit→Act→World→Prop} {l:List Oper} {a a':Act} {w w':World} {ε:Type}
def Kk (l:List Oper) (pr:ε→Nat→aj→Prop) (T:List (Nat × aj)) (S:Nat→Bool) (E:ε) (T':List (Nat × aj)):Prop :=
 (∀ t v,lk T t=some v→lk T' t=some v)∧∀ i d,S i=true→fT l i=some d→∃ v,lk T' d=some v∧pr E i v
theorem Kk.put {pr:ε→Nat→aj→Prop} {S:Nat→Bool} {E E':ε} {i d:Nat} {v:aj} (h:Kk l pr T S E T') (hok:ahv l T=true) (hi:fT l i=some d) (hv:pr E' i v) (hE:∀ j u,j≠i→pr E j u→pr E' j u):Kk l pr T (fM S i) E' ((d,v) :: T'):=by
 have hil:=zI hi
 have hok1:=pV.1 hok i (wQ.2 hil)
 rw [qd,hi] at hok1
 simp only [qD,Option.isNone_iff_eq_none,pV,wQ] at hok1
 refine ⟨fun t u ht=>?_,fun j e hj he=>?_⟩
 ·rw [xL (fun e=>by subst e;rw [hok1.1] at ht;cases ht)];exact h.1 t u ht
 ·by_cases hji:j=i
  ·subst hji;rw [hi] at he;cases he;exact ⟨v,yX _ _ _,hv⟩
  ·have hSj:S j=true:=by unfold fM at hj;rwa [ah hji] at hj
   obtain ⟨u,hu1,hu2⟩:=h.2 j e hSj he
   have hne:d≠e:=by
    intro e';subst e'
    have h2:=hok1.2 j (zI he)
    have hb:Nat.beq i j=false:=vV (fun h=>hji h.symm)
    rw [hb,he] at h2
    simp at h2
   exact ⟨u,by rw [xL hne];exact hu1,hE j u hji hu2⟩
theorem Kk.add {pr:ε→Nat→aj→Prop} {S:Nat→Bool} {E:ε} (h:Kk l pr T S E T') {t:Nat} {u:aj} (hu:lk T' t=some u):Kk l pr T S E ((t,u) :: T'):=by
 have e:∀ s v,lk T' s=some v→lk ((t,u) :: T') s=some v:=fun s v hs=>by
  by_cases hst:t=s
  ·subst hst;rw [hu] at hs;cases hs;exact yX _ _ _
  ·rw [xL hst];exact hs
 exact ⟨fun s v hs=>e s v (h.1 s v hs),fun i d hi hd=>by
  obtain ⟨v,h1,h2⟩:=h.2 i d hi hd
  exact ⟨v,e d v h1,h2⟩⟩
end
end
section
open Go.RowKit
section
variable {N:Nat} {D:List Deferred} {w0:World} {F:Nat→Prop} {G0 G G1 G2:GH} {L L1:OL} {T Xs:List (Nat × aj)}
variable {r:Option Nat} {P:Program} {Q:Exit→Act→World→Prop} {l:List Oper} {a a':Act} {w w':World}
theorem Tk {id:Nat} (hm:P.follows .mixedOrders=true) (dH:List (List Nat)) (B:List Nat) (hk:Eu l dH=true) (hB:CJ l dH B=true) (X:(Nat→Bool)→Act→World→Prop) (h0:X (fun _=>false) a w.drew)
  (hstep:∀ i o S a w,l[i]?=some o→B.contains i=false→S i=false→(∀ j∈dH.getD i [],S j=true)→(∀ j,j < l.length→i∈dH.getD j []→S j=false)→X S a w→WL r P l.toArray (fun e a' w'=>e=.normal∧X (fM S i) a' w') [o] a w)
  (hend:∀ S a w,(∀ i,i < l.length→B.contains i=false→S i=true)→(∀ i,B.contains i=true→S i=false)→X S a w→WL r P l.toArray (fun e a w=>e=.normal∧Q .normal a w) (uf l B) a w):WP r P (.region id l.toArray true) Q a w:=by
 have hB1:∀ p b,B[p]?=some b→b < l.length∧∀ i,i < l.length→(B.contains i=false∨(B.take p).contains i=true)→i∈dH.getD b []:=by
  intro p b hp
  simp only [CJ,qD] at hB
  have h1:=pV.1 hB.1 p (wQ.2 (mM.1 hp).1)
  rw [hp] at h1
  simp only [qD,pV,wQ] at h1
  refine ⟨Eq.mp Nat.blt_eq h1.1,fun i hi hor=>?_⟩
  have h2:=h1.2 i hi
  rcases hor with h3|h3
  ·have h4:i∉B:=by simpa using h3
   simpa [h4] using h2
  ·have h4:i∈B.take p:=by simpa using h3
   simpa [h4] using h2
 have hB2:∀ i,i < l.length→B.contains i=false→∀ j∈dH.getD i [],B.contains j=false:=by
  intro i hi hb j hj
  simp only [CJ,qD] at hB
  have h1:=pV.1 hB.2 i (wQ.2 hi)
  rw [hb] at h1
  simp only [Bool.false_or,pV] at h1
  simpa using h1 j hj
 refine ZR hm dH hk (fun S a w=>((∀ i,B.contains i=true→S i=false)∧X S a w) ∨
   ∃ p,(∀ i,i < l.length→B.contains i=false→S i=true)∧(∀ i,(B.take p).contains i=true→S i=true)∧(∀ q b,B[q]?=some b→p≤q→S b=false)∧WL r P l.toArray (fun e a w=>e=.normal∧Q .normal a w) (uf l (B.drop p)) a w)
  (.inl ⟨fun _ _=>rfl,h0⟩) ?_ ?_
 ·intro i o S a w ho hX bK nJ hdesc
  have hil:i < l.length:=(mM.1 ho).1
  by_cases hbi:B.contains i=true
  ·-- an operation of the tail: all that stands ahead of it is done
   obtain ⟨p0,hp0⟩:=List.getElem?_of_mem (by simpa using hbi:i∈B)
   have hall:∀ j,j < l.length→B.contains j=false→S j=true:=fun j hj hb=>nJ j ((hB1 p0 i hp0).2 j hj (.inl hb))
   have V6:∃ p,(∀ i,(B.take p).contains i=true→S i=true)∧(∀ q b,B[q]?=some b→p≤q→S b=false)∧WL r P l.toArray (fun e a w=>e=.normal∧Q .normal a w) (uf l (B.drop p)) a w:=by
    rcases hX with ⟨h1,hD⟩|⟨p,_,h2,h3,h4⟩
    ·exact ⟨0,by simp,fun q b hq _=>h1 b (by simpa using oM hq),hend S a w hall h1 hD⟩
    ·exact ⟨p,h2,h3,h4⟩
   obtain ⟨p,h2,h3,h4⟩:=V6
   -- i is the next one
   have hpp:p≤p0:=by
    rcases Nat.lt_or_ge p0 p with hlt|hge
    ·have:(B.take p).contains i=true:=by
      simp only [BD]
      exact oM (i:=p0) (by rw [Ay,au hlt];exact hp0)
     rw [h2 i this] at bK;cases bK
    ·exact hge
   have Js:p < B.length:=by have:=(mM.1 hp0).1;omega
   have hbp:B[p]?=some B[p]:=gD Js
   have heq:B[p]=i:=by
    rcases Nat.lt_or_ge p p0 with hlt|hge
    ·exfalso
     have hin:B[p]∈dH.getD i []:=(hB1 p0 i hp0).2 _ (hB1 p _ hbp).1 (.inr (by
      simp only [BD]
      exact oM (i:=p) (by rw [Ay,au hlt];exact hbp)))
     have:=nJ _ hin
     rw [h3 p _ hbp (dQ _)] at this;cases this
    ·have:p=p0:=by omega
     subst this
     rw [hbp] at hp0;simpa using hp0
   have hdrop:B.drop p=i :: B.drop (p+1):=by rw [kR Js,heq]
   have hops:uf l (B.drop p)=o :: uf l (B.drop (p+1)):=by rw [hdrop];simp [uf,ho]
   rw [hops] at h4
   refine afn (fun a' w' h5=>.inr ⟨p+1,fun j hj hb=>?_,fun j hj=>?_,fun q b hq hpq=>?_,h5⟩) h4
   ·unfold fM;split
    ·rfl
    ·exact hall j hj hb
   ·unfold fM;split
    ·rfl
    ·rename_i hne
     refine h2 j ?_
     simp only [BD] at hj ⊢
     rw [jZ Js,gu] at hj
     rcases hj with hj|hj
     ·exact hj
     ·simp only [uo] at hj;exact absurd (hj.trans heq) hne
   ·unfold fM
    rw [ah ?_]
    ·exact h3 q b hq (by omega)
    ·rintro rfl
     -- i would stand twice in B: it would come ahead of itself
     have h6:=(hB1 q b hq).2 b (hB1 q b hq).1 (.inr (by
      simp only [BD]
      exact oM (i:=p) (by rw [Ay,au (by omega)];rw [hbp,heq])))
     rw [nJ _ h6] at bK;cases bK
  ·have Jd:B.contains i=false:=by cases h:B.contains i with|false=>rfl|true=>exact absurd h hbi
   rcases hX with ⟨h1,hX⟩|⟨p,h0,_,_,_⟩
   ·refine sU (fun e a' w' ⟨he,hD⟩=>⟨he,.inl ⟨fun j hj=>?_,hD⟩⟩) (hstep i o S a w ho Jd bK nJ hdesc hX)
    unfold fM
    rw [ah (by rintro rfl;rw [Jd] at hj;cases hj)]
    exact h1 j hj
   ·rw [h0 i hil Jd] at bK;cases bK
 ·intro S a w hall hX
  rcases hX with ⟨h1,hD⟩|⟨p,_,_,h3,h4⟩
  ·have hnil:B=[]:=by
    cases B with
    | nil=>rfl
    | cons b B=>have h5:=h1 b (by simp);rw [hall b (hB1 0 b rfl).1] at h5;cases h5
   subst hnil
   exact (hend S a w (fun j hj _=>hall j hj) h1 hD).2
  ·have hnil:B.drop p=[]:=by
    cases hd:B.drop p with
    | nil=>rfl
    | cons b B' =>
     have hb:B[p]?=some b:=by
      have:=aC (fun x:List Nat=>x[0]?) hd
      simpa using this
     have h5:=h3 p b hb (dQ _)
     rw [hall b (hB1 p b hb).1] at h5;cases h5
   rw [hnil] at h4
   exact h4.2
theorem M7 {pr:Nat→aj→GH→Prop} {S:Nat→Bool} {i d:Nat} {v:aj} (hok:qd l T i=true) (hi:fT l i=some d) 
  (HT:St N D w0 F G0 G1 L T a w) (Hb:St N D w0 F G0 G1 L (Xs++full N a) a w) (hG:∀ k o,G k=some o→G1 k=some o) (hv:∀ j d,j≠i→S j=true→fT l j=some d→∃ v,a.tmps[d]?=some v∧pr j v G1)
  (hp:pr i v G1) (H:St N D w0 F G0 G1 L1 ((d,v) :: (Xs++full N a)) a' w'):DX N D w0 F G0 G L1 T l pr (fM S i) a' w':=by
 have hil:i < l.length:=zI hi
 have hok1:=hok
 rw [qd,hi] at hok1
 simp only [qD,Option.isNone_iff_eq_none,pV,wQ] at hok1
 have hsame:∀ t,t≠d→a'.tmps[t]?=a.tmps[t]?:=by
  intro t ht
  by_cases hlt:t < N
  ·have h1:∃ u,lk (Xs++full N a) t=some u:=by
    rw [Q8]
    cases lk Xs t with
    | some u=>exact ⟨u,rfl⟩
    | none=>exact ⟨_,Q9 a hlt⟩
   obtain ⟨u,hu⟩:=h1
   rw [Hb.get t u hu,H.get t u (by rw [xL (Ne.symm ht)];exact hu)]
  ·rw [Array.getElem?_eq_none (by rw [H.oz];omega),Array.getElem?_eq_none (by rw [Hb.oz];omega)]
 refine ⟨G1,hG,⟨H.oz,fun t u ht=>?_,H.uY,H.hp⟩,fun j e hj he=>?_⟩
 ·rw [hsame t (fun e=>by rw [e,hok1.1] at ht;cases ht)]
  exact HT.get t u ht
 ·by_cases hji:j=i
  ·subst hji
   rw [hi] at he
   simp only [pU] at he
   subst he
   exact ⟨v,H.get d v (yX _ _ _),hp⟩
  ·have hSj:S j=true:=by unfold fM at hj;rwa [ah hji] at hj
   obtain ⟨u,hu1,hu2⟩:=hv j e hji hSj he
   have hne:e≠d:=by
    intro e'
    subst e'
    have h2:=hok1.2 j (zI he)
    rw [vV (fun h=>hji h.symm),he] at h2
    simp at h2
   exact ⟨u,by rw [hsame e hne];exact hu1,hu2⟩
end
end
section
open Go.RowKit
section
variable {N:Nat} {D:List Deferred} {w0:World} {F:Nat→Prop} {G0 G:GH} {L:OL} {T:List (Nat × aj)}
variable {r:Option Nat} {P:Program} {ops:Array Oper} {Q:Exit→Act→World→Prop} {rest:List Oper} {a:Act} {w:World}
variable {d:Nat} {ty:TypeId} {pos:String} {aV:Array Edge} {g:Option (Nat × Bool)}
theorem LZ {t:TypeId} (H:St N D w0 F G0 G L T a w) (hw:Region.wanted ⟨some d,.makeMap t none,ty,pos,aV,g⟩ (yielded ops a.tmps)=true) (hd:Nat.blt d N=true)
  (k:∀ b a' w',w0.heap.size≤b→St N D w0 F G0 G ((b,.map #[] 0) :: L) ((d,.map (some b)) :: T) a' w'→WL r P ops Q rest a' w'):WL r P ops Q (⟨some d,.makeMap t none,ty,pos,aV,g⟩ :: rest) a w:=by
 refine iB (v:=.map (some w.heap.size)) (w':=w.alloc (.map #[] 0)) hw rfl ?_ (k _ _ _ H.hp.size (H.put hd _ (H.hp.alloc _)))
 simp [execOp,Instr.makeMap,newObj,Sem.run,fG]
def EU (an:Option (Nat × aj)) (zv:aj):aj × Bool:=match an with|some (_,v)=>(v,true)|none=>(zv,false)
theorem apP {t kt et:TypeId} {kd:TypeDesc} {x y:Operand} {b i clock:Nat} {es:Array MapEntry} {ky zv:aj} (an:Option (Nat × aj)) (hm:P.underlying t=some (.map kt et)) (hk:P.underlying kt=some kd) (hz:(P.info? et).map (fun i=>i.zero)=some (some zv)) (H:St N D w0 F G0 G L T a w)
  (hw:Region.wanted ⟨some d,.lookup t x y true,ty,pos,aV,g⟩ (yielded ops a.tmps)=true) (hx:ev T x=some (.map (some b))) (hy:ev T y=some ky) (hi:L[i]?=some (b,.map es clock)) (hky:MapKept.IsKey kd ky) (hf:Instr.findNow kd ky es.toList 0=some an) (hd:Nat.blt d N=true)
  (k:∀ a',St N D w0 F G0 G L ((d,.tuple #[(EU an zv).1,.bool (EU an zv).2]) :: T) a' w→WL r P ops Q rest a' w):WL r P ops Q (⟨some d,.lookup t x y true,ty,pos,aV,g⟩ :: rest) a w:=by
 have hb:w.heap[b]?=some (.map es clock):=H.hp.own _ (oM hi)
 obtain ⟨inf,hi1,hi2⟩:=qC.1 hz
 refine iB (v:=.tuple #[(EU an zv).1,.bool (EU an zv).2]) (w':=w) hw rfl ?_ (k _ (H.put hd _ H.hp))
 have h1:=MapKept.run_checkKey (w:=w) hk hky es.isEmpty 9999
 have h2:=MapKept.run_findKey (w:=w) hk hf
 cases an with
 | none=>simp [execOp,Instr.lookup,H.ev hx,H.ev hy,fG,rQ hm,MapKept.run_getObj_map hb,h1,h2,Result.andThen,zeroValue,JV hi1,hi2,EU]
 | some q=>simp [execOp,Instr.lookup,H.ev hx,H.ev hy,fG,rQ hm,MapKept.run_getObj_map hb,h1,h2,Result.andThen,EU]
theorem arj {w:World} {b clock:Nat} {es:Array MapEntry} {o:Obj} (h:w.heap[b]?=some (.map es clock)):yx b o w { w with heap:=w.heap.setIfInBounds b o }:=by
 have hlt:b < w.heap.size:=(Array.getElem?_eq_some_iff.1 h).1
 refine ⟨rfl,rfl,rfl,by simp,by simp [hlt],fun k hk=>?_⟩
 simp only
 rw [Array.getElem?_setIfInBounds_ne (Ne.symm hk)]
theorem aed {t kt et:TypeId} {kd:TypeDesc} {x y z:Operand} {b i clock:Nat} {es:Array MapEntry} {ky v:aj} (hm:P.underlying t=some (.map kt et)) (hk:P.underlying kt=some kd) (H:St N D w0 F G0 G L T a w)
  (hw:Region.wanted ⟨none,.mapUpdate t x y z,ty,pos,aV,g⟩ (yielded ops a.tmps)=true) (hx:ev T x=some (.map (some b))) (hy:ev T y=some ky) (hzv:ev T z=some v) (hi:L[i]?=some (b,.map es clock)) (hky:MapKept.IsKey kd ky) (hf:Instr.findNow kd ky es.toList 0=some none)
  (k:∀ w',St N D w0 F G0 G (L.set i (b,.map (es.push ⟨ky,v,clock⟩) (clock+1))) T a w'→WL r P ops Q rest a w'):WL r P ops Q (⟨none,.mapUpdate t x y z,ty,pos,aV,g⟩ :: rest) a w:=by
 have hb:w.heap[b]?=some (.map es clock):=H.hp.own _ (oM hi)
 have h1:=MapKept.run_checkKey (w:=w) hk hky false 9999
 have h2:=MapKept.run_findKey (w:=w) hk hf
 refine afo (w':={ w with heap:=w.heap.setIfInBounds b (.map (es.push ⟨ky,v,clock⟩) (clock+1)) }) hw rfl ?_ (k _ (H.move (H.hp.upd hi (arj hb))))
 simp [execOp,Instr.mapUpdate,H.ev hx,H.ev hy,H.ev hzv,fG,rQ hm,MapKept.run_getObj_map hb,h1,h2,MapKept.run_setObj_map _ hb,Result.andThen]
theorem JX {t yt:TypeId} (hu:P.underlying t=some .bool) {x y:Operand} {p q:Bool} (H:St N D w0 F G0 G L T a w) (hw:Region.wanted ⟨some d,.binOp .eql t x y yt,ty,pos,aV,g⟩ (yielded ops a.tmps)=true) (hx:ev T x=some (.bool p)) (hy:ev T y=some (.bool q)) (hd:Nat.blt d N=true)
  (k:∀ a',St N D w0 F G0 G L ((d,.bool (p == q)) :: T) a' w→WL r P ops Q rest a' w):WL r P ops Q (⟨some d,.binOp .eql t x y yt,ty,pos,aV,g⟩ :: rest) a w:=by
 refine iB (v:=.bool (p == q)) (w':=w) hw rfl ?_ (k _ (H.put hd _ H.hp))
 simp [execOp,H.ev hx,H.ev hy,fG,eqGuard,binOp,Op.equal,Op.maxDepth,run_equalIn_bool' w 9999 t p q hu]
theorem aee {t yt:TypeId} {x y:Operand} {p q:ByteArray} (H:St N D w0 F G0 G L T a w) (hw:Region.wanted ⟨some d,.binOp .neq t x y yt,ty,pos,aV,g⟩ (yielded ops a.tmps)=true) (hx:ev T x=some (.string p)) (hy:ev T y=some (.string q)) (hd:Nat.blt d N=true)
  (k:∀ a',St N D w0 F G0 G L ((d,.bool (!(p.toList == q.toList))) :: T) a' w→WL r P ops Q rest a' w):WL r P ops Q (⟨some d,.binOp .neq t x y yt,ty,pos,aV,g⟩ :: rest) a w:=by
 refine iB (v:=.bool (!(p.toList == q.toList))) (w':=w) hw rfl ?_ (k _ (H.put hd _ H.hp))
 simp [execOp,H.ev hx,H.ev hy,fG,eqGuard,binOp,Op.stringOp]
theorem Hp.adn (h:Hp w0 F G0 G L w) {b o:Nat} {c:Array aj} {e:TypeId} {fz:Nat × Nat} {v:aj} (hm:(b,Obj.cells c e fz)∈L) (hv:c[o]?=some v):w.cell? ⟨b,o,none⟩=some v:=by
 have:=h.own _ hm
 simp only [World.cell?,this]
 exact hv
end
end
section
open Go.RowKit
section
variable {N:Nat} {D:List Deferred} {w0:World} {F:Nat→Prop} {G0 G G1 G2:GH} {L L1:OL} {T Xs:List (Nat × aj)}
variable {r:Option Nat} {P:Program} {Q:Exit→Act→World→Prop} {l:List Oper} {a a':Act} {w w':World}
end
end
section
open Go.RowKit
section
variable {N:Nat} {D:List Deferred} {w0:World} {F:Nat→Prop} {G0 G G1 G2:GH} {L L1 L2:OL} {T Xs:List (Nat × aj)}
variable {r:Option Nat} {P:Program} {Q:Exit→Act→World→Prop} {l:List Oper} {a a':Act} {w w':World}
theorem TD {pr:Nat→aj→GH→Prop} {S:Nat→Bool} {i:Nat} (hi:fT l i=none) (HT:St N D w0 F G0 G1 L T a w) (hG:∀ k o,G k=some o→G1 k=some o) (hv:∀ i d,S i=true→fT l i=some d→∃ v,a.tmps[d]?=some v∧pr i v G1)
  (H:St N D w0 F G0 G1 L2 (Xs++full N a) a w'):DX N D w0 F G0 G L2 T l pr (fM S i) a w' :=
 ⟨G1,hG,HT.move H.hp,fun j e hj he=>hv j e (by
  unfold fM at hj
  by_cases hji:j=i
  ·subst hji;rw [hi] at he;cases he
  ·rwa [ah hji] at hj) he⟩
end
end
section
open Go.RowKit
theorem anN:liesAt prog prog.depth 321 (7 / prog.cellsOf 321) 2 265 1=true:=by kernel_rfl
theorem R9:Ty prog 5 1 1 [.int .u8 0] false:=⟨by kernel_rfl,by kernel_rfl⟩
abbrev iZ (b:Nat) (s:ByteArray) (i:Int) (p v q:aj) (pl e:Int):Nat × Obj:=(b,.cells #[.string s,vi i,p,v,q,vi pl,vi e] 321 (0,0))
theorem aqa (G:GH) (L:OL) (w0:World) (b:Nat) (s:ByteArray) (i:Int) (A:Option Addr) (n c:Nat) (B:Option Addr) (m d:Nat) (pl e:Int) (hO:jQ G (iZ b s i (.pointer none) (.slice A n c) (.slice B m d) pl e :: L) w0) :
  Calls prog 210 #[(aK b 2)] w0 (jk w0 G (iZ b s i (.pointer none) (.slice A n c) (.slice B m d) pl e :: L) fun u G' L'=>L'=iZ b s i (aK b 2) (.slice A n c) (.slice B m d) pl e :: L∧G'=G):=by
 refine mH (N:=20) (T:=[(0,_)]) func210 rfl ntmps210 rfl rfl hO ?_;intro a H;refine kP H (SR fun _ K1=>Rm rfl (Rk rfl (aW Np OQ 0 rfl rfl ?_)));clear H;intro a H;refine aea OV H wn rfl rfl ?_;clear H;intro a H;refine K1 _ _ ?_;clear K1;refine oN H rfl ?_ ?_
 ·intro h6
  refine kP H (SC (Rm rfl (Rm rfl ?_)));clear H;intro a H;refine apX OV aeL XJ H wn rfl 0 rfl rfl rfl ?_;clear H;intro a H;refine apR (xs:=[.tmp 9]) (aot _) H wn rfl rfl ?_;clear H;intro a H;refine apO aeL OV XJ H wn rfl 0 rfl anN rfl ?_;clear H;intro a H;refine kH H (Rk rfl (Rf Np rfl ?_));clear H;intro a H;refine bO OQ 0 (vs:=[_]) _ H wn rfl rfl rfl rfl rfl rfl rfl rfl ?_;clear H;intro w H;dsimp only [List.set,setRow] at H;refine aI ?_;refine (leave0 H results210 ?_).2;exact H.hp.gL ⟨rfl,rfl⟩
 intro h6
 exact absurd h6 (by decide)
theorem aqb (G:GH) (L:OL) (w0:World) (b:Nat) (s:ByteArray) (i:Int) (A:Option Addr) (n c:Nat) (B:Option Addr) (m d:Nat) (pl e:Int) (hO:jQ G (iZ b s i (aK b 2) (.slice A n c) (.slice B m d) pl e :: L) w0) :
  Calls prog 210 #[(aK b 2)] w0 (jk w0 G (iZ b s i (aK b 2) (.slice A n c) (.slice B m d) pl e :: L) fun u G' L'=>L'=iZ b s i (aK b 2) (.slice A n c) (.slice B m d) pl e :: L∧G'=G):=by
 refine mH (N:=20) (T:=[(0,_)]) func210 rfl ntmps210 rfl rfl hO ?_;intro a H;refine kP H (SR fun _ K1=>Rm rfl (Rk rfl (aW Np OQ 0 rfl rfl ?_)));clear H;intro a H;refine aea OV H wn rfl rfl ?_;clear H;intro a H;refine K1 _ _ ?_;clear K1;refine oN H rfl ?_ ?_
 ·intro h6
  exact absurd h6 (by simp)
 intro h6
 refine kP H (SR fun _ K2=>Rm rfl (Rk rfl (aW Np OQ 0 rfl rfl (Rm rfl ?_))));clear H;intro a H;refine apQ OV XJ H wn rfl rfl rfl ?_;clear H;intro a H;refine K2 _ _ ?_;clear K2;refine oN H rfl ?_ ?_
 ·intro h19
  exact absurd h19 (by decide)
 intro h19
 refine fI ?_;refine (leave0 H results210 ?_).2;exact H.hp.gL ⟨rfl,rfl⟩
theorem aqc (G:GH) (L:OL) (w0:World) (b:Nat) (s:ByteArray) (i:Int) (p:aj) (A:Option Addr) (n c:Nat) (B:Option Addr) (m d:Nat) (pl e:Int) (hp:p=.pointer none∨p=(aK b 2)) (hO:jQ G (iZ b s i p (.slice A n c) (.slice B m d) pl e :: L) w0) :
  Calls prog 210 #[(aK b 2)] w0 (jk w0 G (iZ b s i p (.slice A n c) (.slice B m d) pl e :: L) fun u G' L'=>L'=iZ b s i (aK b 2) (.slice A n c) (.slice B m d) pl e :: L∧G'=G):=by
 rcases hp with rfl|rfl
 ·exact aqa G L w0 b s i A n c B m d pl e hO
 exact aqb G L w0 b s i A n c B m d pl e hO
theorem afi (G:GH) (Lp Lo:OL) (w0:World) (b:Nat) (s:ByteArray) (i:Int) (p v:aj) (B:Option Addr) (m d:Nat) (pl e:Int) (n:Nat) (xs:List aj) (c:Int) (hp:p=.pointer none∨p=(aK b 2)) (hO:jQ G (iZ b s i p v (.slice B m d) pl e :: (Lp++Lo)) w0) (hrow:iP 5 1 v n xs Lo) (hn:n≤4294967296) :
  Calls prog 235 #[(aK b 2),.int .u8 c] w0 (jk w0 G (iZ b s i p v (.slice B m d) pl e :: (Lp++Lo)) fun u G' L'=>∃ v' kZ,L'=iZ b s i (aK b 2) v' (.slice B m d) pl e :: (Lp++kZ)∧iP 5 1 v' (n+1) (xs++[.int .u8 c]) kZ∧G'=G):=by
 have hml:maxLen=9223372036854775807:=rfl;obtain ⟨A,c0,rfl,-,-⟩:=hrow.shape;obtain ⟨Lt,rH⟩:∃ x,x=Lp++Lo:=⟨_,rfl⟩;rw [← rH] at hO ⊢;refine mH (N:=17) (T:=[(0,_),(1,_)]) func235 rfl ntmps235 rfl rfl hO ?_;intro a H;refine kP H (SR fun _ K1=>ak K1 rfl (SR fun _ K2=>Rm rfl ?_));clear H K1;intro a H;refine iH aiH (Li:=[]) (L:=iZ b s i p _ (.slice B m d) pl e :: Lt) H wn rfl (aqc _ _ _ b s i p A n c0 B m d pl e hp (Hp.owns (Li:=[]) H.hp)) rfl ?_;clear H;rintro v6 _ L6 a w ⟨rfl,rfl⟩ KY H;dsimp only [List.nil_append] at H;refine K2 _ _ ?_;clear K2;refine kP H (SR fun _ K3=>Rm rfl (Rm rfl (Rk rfl (aW KG Mc 0 rfl rfl (Rm rfl ?_)))));clear H;intro a H;refine jF J6 R9 [_] [_] H wn rfl rfl rfl rfl rfl (by intro i q h;match i,h with|0,h=>exact h|n+1,h=>simp at h) rfl rfl ?_;clear H;intro b13 a w ND H;subst rH;have H:=St.un (A:=[_,_]) (B:=Lp) (C:=Lo) H;refine xS (Li:=[_,_]++Lp) (Lo:=Lo) (news:=[.int .u8 c]) J6 R9 rfl rfl H wn rfl rfl hrow rfl (H.hp.eu 0 rfl rfl) rfl (by omega) (by omega) rfl ?_;clear H;intro v14 SN a w Oj H;obtain ⟨Sn,c14,rfl,-,-⟩:=Oj.shape;have H:=H.assoc;dsimp only [lca,aS] at H;refine kH H (Rk rfl (Rf KG rfl ?_));clear H;intro a H;refine bO Mc 1 (vs:=[_]) _ H wn rfl rfl rfl rfl rfl rfl rfl rfl ?_;clear H;intro w H;dsimp only [List.set,setRow] at H;refine K3 _ _ ?_;clear K3;exact kP H (SR fun _ K4=>ak K4 rfl (LR results235 rfl fun H=>H.hp.dh (L':=iZ b s i _ _ _ pl e :: (Lp++SN)) (Eh _ _) ⟨_,_,rfl,Oj,rfl⟩))
theorem aqt (G:GH) (L:OL) (w0:World) (b:Nat) (s:ByteArray) (i:Int) (p:aj) (A:Option Addr) (n c:Nat) (B:Option Addr) (m d:Nat) (pl e:Int) (hO:jQ G (iZ b s i p (.slice A n c) (.slice B m d) pl e :: L) w0) :
  Calls prog 243 #[(aK b 2)] w0 (jk w0 G (iZ b s i p (.slice A n c) (.slice B m d) pl e :: L) fun u G' L'=>u=vi n∧L'=iZ b s i p (.slice A n c) (.slice B m d) pl e :: L∧G'=G):=by
 refine mH (N:=8) (T:=[(0,_)]) func243 rfl ntmps243 rfl rfl hO ?_;intro a H;exact kP H (SR fun _ K1=>ak K1 rfl (SR fun _ K2=>Rm rfl (Rk rfl (aW KG Mc 0 rfl rfl (Rl J6 rfl (ak K2 rfl (LR results243 rfl fun H=>H.hp.gL ⟨rfl,rfl,rfl⟩)))))))
theorem aqE (G:GH) (L:OL) (w0:World) (b:Nat) (s:ByteArray) (i:Int) (p:aj) (A:Option Addr) (n c:Nat) (B:Option Addr) (m d:Nat) (pl e:Int) (hO:jQ G (iZ b s i p (.slice A n c) (.slice B m d) pl e :: L) w0) :
  Calls prog 244 #[(aK b 2)] w0 (jk w0 G (iZ b s i p (.slice A n c) (.slice B m d) pl e :: L) fun u G' L'=>L'=iZ b s i (.pointer none) (.slice none 0 0) (.slice B m d) pl e :: L∧G'=G):=by
 refine mH (N:=8) (T:=[(0,_)]) func244 rfl ntmps244 rfl rfl hO ?_;intro a H;refine kP H (SR fun _ K1=>Rm rfl (Rk rfl (Rf Np rfl ?_)));clear H;intro a H;refine bO OQ 0 (vs:=[_]) _ H wn rfl rfl rfl rfl rfl rfl rfl rfl ?_;clear H;intro w H;dsimp only [List.set,setRow] at H;refine K1 _ _ ?_;clear K1;refine kP H (SC (Rm rfl (Rk rfl (Rf KG rfl ?_))));clear H;intro a H;refine bO Mc 0 (vs:=[_]) _ H wn rfl rfl rfl rfl rfl rfl rfl rfl ?_;clear H;intro w H;dsimp only [List.set,setRow] at H;refine aI ?_;refine (leave0 H results244 ?_).2;exact H.hp.gL ⟨rfl,rfl⟩
theorem aqF (G:GH) (Lp Lo:OL) (w0:World) (b:Nat) (s:ByteArray) (i:Int) (p v:aj) (B:Option Addr) (m d:Nat) (pl e:Int) (l:List UInt8) (hO:jQ G (iZ b s i p v (.slice B m d) pl e :: (Lp++Lo)) w0) (hrow:iP 5 1 v l.length (Lib.byteCells l) Lo) (h0:l≠[]) :
  Calls prog 175 #[(aK b 2)] w0 (jk w0 G (iZ b s i p v (.slice B m d) pl e :: (Lp++Lo)) fun u G' L'=>u=.string ⟨l.toArray⟩∧L'=iZ b s i p v (.slice B m d) pl e :: Lp):=by
 rcases hrow.2 with ⟨-,h,-⟩|⟨b2,cap,cur,rfl,rfl,hc1,hc2,hc3,hc4⟩
 ·exact absurd (List.eq_nil_of_length_eq_zero h) h0
 have hl0:l.length≠0:=fun h=>h0 (List.eq_nil_of_length_eq_zero h);have hml:maxLen=9223372036854775807:=rfl;obtain ⟨Lt,rH⟩:∃ x,x=Lp++[(b2,Obj.cells cur 5 (0,0))]:=⟨_,rfl⟩;rw [← rH] at hO ⊢;refine mH (N:=14) (T:=[(0,_)]) func175 rfl ntmps175 rfl rfl hO ?_;intro a H;refine kP H (SR fun _ K1=>ak K1 rfl (SQ fun _ K2=>?_));clear H K1;intro a H;have H:=H.sub (T':=[(0,_)]) ⟨rfl,av⟩;refine dI hmx [[],[0],[0,1],[0,1,2],(ra 0 4),[],[5],[5,6],[5,6,7],(ra 5 4),(ra 0 10),(ra 0 11)] [10,11] (by kernel_rfl) [_,_,_,.slice (some ⟨b2,0,none⟩) l.length cap,(aK b2 0),_,_,_,.slice (some ⟨b2,0,none⟩) l.length cap,_] H (aG (Z0 rfl (Rm rfl)) (Z1 0 3 rfl (Rk rfl)) (Z1 1 4 rfl (Rf KG rfl)) (Z1 2 5 rfl (Ro Mc 0 rfl)) (aG ?_ (Z0 rfl (Rm rfl)) (Z1 5 8 rfl (Rk rfl)) (Z1 6 9 rfl (Rf KG rfl)) (aG (Z1 7 10 rfl (Ro Mc 0 rfl)) (Z1 8 11 rfl (Rl J6 rfl)) (cZ rfl) (cZ rfl) dU))) ?_
 ·refine eF 3 6 rfl rfl fun _ a w G1 hG HT H fin=>?_;refine apU H wn rfl (by omega) rfl ?_;clear H;intro a H;exact fin H iJ rfl
 clear H;intro a w G qK H hv;have H:=H.aU (hv 4 7 rfl rfl) rfl;have H:=H.aU (hv 9 12 rfl rfl) rfl;clear hv;subst rH;have H:=H.perm (List.Perm.cons _ Da);dsimp only [lca,aS] at H;refine apY (i:=1) l aqZ agG h0 (by omega) H wn rfl rfl rfl (by rw [← hc4,Nat.mul_one]) rfl ?_;clear H;intro fz a w H;dsimp only [List.set] at H;refine kH H (Ra rfl ?_);clear H;intro a H;refine aI ⟨rfl,?_⟩;refine K2 _ _ ?_;clear K2;refine lr H results175 rfl ?_;exact H.hp.dh (L':=iZ b s i _ _ _ pl e :: Lp) (List.Sublist.cons_cons _ (Eh _ _)) ⟨rfl,rfl⟩
end
section
open Go.RowKit
section
variable {N:Nat} {D:List Deferred} {w0:World} {F:Nat→Prop} {G0 G G1 G2:GH} {L L1 L2:OL} {T Xs:List (Nat × aj)}
variable {r:Option Nat} {P:Program} {Q:Exit→Act→World→Prop} {l:List Oper} {a a':Act} {w w':World}
end
end
section
open Go.RowKit
section
variable {N:Nat} {D:List Deferred} {w0:World} {F:Nat→Prop} {G0 G G1 G2:GH} {L L1 L2:OL} {T Xs:List (Nat × aj)}
variable {r:Option Nat} {P:Program} {Q:Exit→Act→World→Prop} {l:List Oper} {a a':Act} {w w':World}
theorem aaq {pr:Nat→aj→GH→Prop} {S:Nat→Bool} {i d:Nat} {v:aj} (hok:qd l T i=true) (lN:∀ i v (G G':GH),(∀ k o,G k=some o→G' k=some o)→pr i v G→pr i v G') (hi:fT l i=some d)
  (HT:St N D w0 F G0 G1 L T a w) (Hb:St N D w0 F G0 G1 L (Xs++full N a) a w) (hG:∀ k o,G k=some o→G1 k=some o) (hv:∀ j d,j≠i→S j=true→fT l j=some d→∃ v,a.tmps[d]?=some v∧pr j v G1)
  (hG2:∀ k o,G1 k=some o→G2 k=some o) (hp:pr i v G2) (H:St N D w0 F G0 G2 L1 ((d,v) :: (Xs++full N a)) a' w'):DX N D w0 F G0 G L1 T l pr (fM S i) a' w':=by
 have hok1:=hok
 rw [qd,hi] at hok1
 simp only [qD,Option.isNone_iff_eq_none,pV,wQ] at hok1
 have hsame:∀ t,t≠d→a'.tmps[t]?=a.tmps[t]?:=by
  intro t ht
  by_cases hlt:t < N
  ·have h1:∃ u,lk (Xs++full N a) t=some u:=by
    rw [Q8]
    cases lk Xs t with
    | some u=>exact ⟨u,rfl⟩
    | none=>exact ⟨_,Q9 a hlt⟩
   obtain ⟨u,hu⟩:=h1
   rw [Hb.get t u hu,H.get t u (by rw [xL (Ne.symm ht)];exact hu)]
  ·rw [Array.getElem?_eq_none (by rw [H.oz];omega),Array.getElem?_eq_none (by rw [Hb.oz];omega)]
 refine ⟨G2,fun k o hk=>hG2 k o (hG k o hk),⟨H.oz,fun t u ht=>?_,H.uY,H.hp⟩,fun j e hj he=>?_⟩
 ·rw [hsame t (fun e=>by rw [e,hok1.1] at ht;cases ht)]
  exact HT.get t u ht
 ·by_cases hji:j=i
  ·subst hji
   rw [hi] at he
   simp only [pU] at he
   subst he
   exact ⟨v,H.get d v (yX _ _ _),hp⟩
  ·have hSj:S j=true:=by unfold fM at hj;rwa [ah hji] at hj
   obtain ⟨u,hu1,hu2⟩:=hv j e hji hSj he
   have hne:e≠d:=by
    intro e'
    subst e'
    have h2:=hok1.2 j (zI he)
    rw [vV (fun h=>hji h.symm),he] at h2
    simp at h2
   exact ⟨u,by rw [hsame e hne];exact hu1,lN j u _ _ hG2 hu2⟩
theorem agp {id:Nat} {κ:Type} (k0:κ) (hm:P.follows .mixedOrders=true) (dH:List (List Nat)) (B:List Nat) (hk:Eu l dH=true) (hB:CJ l dH B=true) (m1 m2 m3:Nat) (amf:B.contains m1=false) (QE:B.contains m2=false) (amg:B.contains m3=false) (hne:Nat.beq m1 m2=false) (abZ:Nat.beq m2 m3=false) (hne1:Nat.beq m1 m3=false) (h12:(dH.getD m2 []).contains m1=true) (fP:(dH.getD m3 []).contains m1=true) (h23:(dH.getD m3 []).contains m2=true)
  (C L2:OL) (ob:Obj) (L3:Nat→κ→OL) (hC:∀ x,x∈C→x∈L) (hC2:∀ x,x∈C→x∈L2) (hC3:∀ b k x,x∈C→x∈L3 b k) (pr:Nat→κ→Nat→aj→GH→Prop)
  (amn:∀ b b' k i v G,Nat.beq i m2=false→(dH.getD i []).contains m2=false→pr b k i v G→pr b' k i v G)
  (amo:∀ b k k' i v G,Nat.beq i m3=false→(dH.getD i []).contains m3=false→pr b k i v G→pr b k' i v G)
  (H:St N D w0 F G0 G L T a w)
  (hstep:allI (fun i o=>∀ b k L' S a w G1,(∀ x,x∈C→x∈L')→B.contains i=false→Nat.beq i m1=false→Nat.beq i m2=false→Nat.beq i m3=false→S i=false→(∀ j∈dH.getD i [],S j=true)→(∀ k o,G k=some o→G1 k=some o)→St N D w0 F G0 G1 L' T a w→(∀ i d,S i=true→fT l i=some d→∃ v,a.tmps[d]?=some v∧pr b k i v G1) →
   WL r P l.toArray (fun e a' w'=>e=.normal∧DX N D w0 F G0 G L' T l (pr b k) (fM S i) a' w') [o] a w) 0 l)
  (N7:∀ o b k S a w G1,l[m1]?=some o→S m1=false→(∀ j∈dH.getD m1 [],S j=true)→(∀ k o,G k=some o→G1 k=some o)→St N D w0 F G0 G1 L T a w→(∀ i d,i≠m1→S i=true→fT l i=some d→∃ v,a.tmps[d]?=some v∧pr b k i v G1) →
   WL r P l.toArray (fun e a' w'=>e=.normal∧DX N D w0 F G0 G L2 T l (pr b k) (fM S m1) a' w') [o] a w)
  (N8:∀ o k S a w G1,l[m2]?=some o→S m2=false→(∀ j∈dH.getD m2 [],S j=true)→(∀ k o,G k=some o→G1 k=some o)→St N D w0 F G0 G1 L2 T a w→(∀ b i d,i≠m2→S i=true→fT l i=some d→∃ v,a.tmps[d]?=some v∧pr b k i v G1) →
   WL r P l.toArray (fun e a' w'=>e=.normal∧∃ b,DX N D w0 F G0 G ((b,ob) :: L2) T l (pr b k) (fM S m2) a' w') [o] a w)
  (ami:∀ o b S a w G1,l[m3]?=some o→S m3=false→(∀ j∈dH.getD m3 [],S j=true)→(∀ k o,G k=some o→G1 k=some o)→St N D w0 F G0 G1 ((b,ob) :: L2) T a w→(∀ k i d,i≠m3→S i=true→fT l i=some d→∃ v,a.tmps[d]?=some v∧pr b k i v G1) →
   WL r P l.toArray (fun e a' w'=>e=.normal∧∃ k,DX N D w0 F G0 G (L3 b k) T l (pr b k) (fM S m3) a' w') [o] a w)
  (hend:∀ b k a w G1,(∀ k o,G k=some o→G1 k=some o)→St N D w0 F G0 G1 (L3 b k) T a w→(∀ i d,B.contains i=false→fT l i=some d→∃ v,a.tmps[d]?=some v∧pr b k i v G1)→WL r P l.toArray (fun e a w=>e=.normal∧Q .normal a w) (uf l B) a w)
  (Jo:Nat.blt m2 l.length=true) (VX:Nat.blt m3 l.length=true):WP r P (.region id l.toArray true) Q a w:=by
 have ado:m1≠m2:=fun e=>by subst e;rw [Nat.beq_refl] at hne;cases hne
 have adq:m2≠m3:=fun e=>by subst e;rw [Nat.beq_refl] at abZ;cases abZ
 have adp:m1≠m3:=fun e=>by subst e;rw [Nat.beq_refl] at hne1;cases hne1
 refine Tk hm dH B hk hB (fun S a w=>(S m2=true→S m1=true)∧(S m3=true→S m2=true)∧∃ b k L',L'=(bif S m3 then L3 b k else bif S m2 then (b,ob) :: L2 else bif S m1 then L2 else L)∧DX N D w0 F G0 G L' T l (pr b k) S a w)
  ⟨fun h=>h,fun h=>h,0,k0,L,rfl,G,fun _ _ h=>h,H.move H.hp.drew,fun _ _ h=>absurd (show false=true from h) (by decide)⟩ ?_ ?_
 ·rintro i o S a w ho hb bK nJ hdesc ⟨ES,amm,b,k,L',hL,G1,hG,HS,hv⟩
  have hsub:∀ x,x∈C→x∈L':=fun x hx=>by
   rw [hL]
   cases S m3 with
   | true=>exact hC3 b k x hx
   | false=>cases S m2 with
    | true=>exact lg _ (hC2 x hx)
    | false=>cases S m1 with
     | true=>exact hC2 x hx
     | false=>exact hC x hx
  have hno:∀ j,j < l.length→S j=true→(dH.getD j []).contains i=false:=fun j hjl hj=>by
   cases hc:(dH.getD j []).contains i with
   | false=>rfl
   | true =>
    have:=hdesc j hjl (by simpa using hc)
    rw [this] at hj;cases hj
  by_cases h1:i=m1
  ·subst h1
   have hS2:S m2=false:=hdesc m2 (Eq.mp Nat.blt_eq Jo) (by simpa using h12)
   have KO:S m3=false:=hdesc m3 (Eq.mp Nat.blt_eq VX) (by simpa using fP)
   rw [KO,hS2,bK] at hL
   subst hL
   have h:=N7 o b k S a w G1 ho bK nJ hG HS fun j d hj hSj hd=>hv j d hSj hd
   have e2:fM S i m2=S m2:=ah (fun e=>ado e.symm)
   have e3:fM S i m3=S m3:=ah (fun e=>adp e.symm)
   refine sU (fun e a' w' ⟨he,hD⟩=>⟨he,fun _=>au rfl,fun h=>(by rw [e3,KO] at h;cases h),b,k,_,?_,hD⟩) h
   rw [show fM S i i=true from au rfl,e2,e3,hS2,KO]
   rfl
  ·by_cases h2:i=m2
   ·subst h2
    have hS1:S m1=true:=nJ m1 (by simpa using h12)
    have KO:S m3=false:=hdesc m3 (Eq.mp Nat.blt_eq VX) (by simpa using h23)
    rw [KO,bK,hS1] at hL
    subst hL
    have e1:fM S i m1=S m1:=ah ado
    have e3:fM S i m3=S m3:=ah (fun e=>adq e.symm)
    have h:=N8 o k S a w G1 ho bK nJ hG HS fun b' j d hj hSj hd=>by
     obtain ⟨v,hv1,hv2⟩:=hv j d hSj hd
     exact ⟨v,hv1,amn b b' k j v _ (vV hj) (hno j (zI hd) hSj) hv2⟩
    refine sU (fun e a' w' ⟨he,b',hD⟩=>⟨he,fun _=>by rw [e1];exact hS1,fun _=>au rfl,b',k,_,?_,hD⟩) h
    rw [show fM S i i=true from au rfl,e3,KO];rfl
   ·by_cases h3:i=m3
    ·subst h3
     have hS1:S m1=true:=nJ m1 (by simpa using fP)
     have hS2:S m2=true:=nJ m2 (by simpa using h23)
     rw [bK,hS2] at hL
     subst hL
     have e1:fM S i m1=S m1:=ah adp
     have e2:fM S i m2=S m2:=ah adq
     have h:=ami o b S a w G1 ho bK nJ hG HS fun k' j d hj hSj hd=>by
      obtain ⟨v,hv1,hv2⟩:=hv j d hSj hd
      exact ⟨v,hv1,amo b k k' j v _ (vV hj) (hno j (zI hd) hSj) hv2⟩
     refine sU (fun e a' w' ⟨he,k',hD⟩=>⟨he,fun _=>by rw [e1];exact hS1,fun _=>by rw [e2];exact hS2,b,k',_,?_,hD⟩) h
     rw [show fM S i i=true from au rfl];rfl
    ·have h:=MO hstep i o ho
     rw [pz] at h
     have e1:fM S i m1=S m1:=ah (fun e=>h1 e.symm)
     have e2:fM S i m2=S m2:=ah (fun e=>h2 e.symm)
     have e3:fM S i m3=S m3:=ah (fun e=>h3 e.symm)
     refine sU (fun e a' w' ⟨he,hD⟩=>⟨he,by rw [e1,e2];exact ES,by rw [e2,e3];exact amm,b,k,L',?_,hD⟩) (h b k L' S a w G1 hsub hb (vV h1) (vV h2) (vV h3) bK nJ hG HS hv)
     rw [e1,e2,e3];exact hL
 ·rintro S a w hall hnB ⟨_,_,b,k,L',hL,G1,hG,HS,hv⟩
  have hs3:S m3=true:=hall m3 (Eq.mp Nat.blt_eq VX) amg
  rw [hs3] at hL
  subst hL
  exact hend b k a w G1 hG HS fun j d hb hd=>hv j d (hall j (zI hd) hb) hd
end
theorem aqW {z:Int} (h1:0≤z) (h2:z < 256):IntKind.u8.wrap z=z:=by
 simp only [IntKind.wrap,IntKind.bits,IntKind.signed,uT,Aw,if_false]
 omega
section
variable {N:Nat} {D:List Deferred} {w0:World} {F:Nat→Prop} {G0 G:GH} {L:OL} {T:List (Nat × aj)}
variable {r:Option Nat} {P:Program} {ops:Array Oper} {Q:Exit→Act→World→Prop} {rest:List Oper} {a:Act} {w:World}
variable {d:Nat} {ty:TypeId} {pos:String} {aV:Array Edge} {g:Option (Nat × Bool)}
theorem apW {x y:Operand} {t yt:TypeId} {p q:Int} (H:St N D w0 F G0 G L T a w) (hw:Region.wanted ⟨some d,.binOp .sub t x y yt,ty,pos,aV,g⟩ (yielded ops a.tmps)=true) (hx:ev T x=some (.int .u8 p)) (hy:ev T y=some (.int .u8 q)) (h1:0≤p - q) (h2:p - q < 256) (hd:Nat.blt d N=true)
  (k:∀ a',St N D w0 F G0 G L ((d,.int .u8 (p - q)) :: T) a' w→WL r P ops Q rest a' w):WL r P ops Q (⟨some d,.binOp .sub t x y yt,ty,pos,aV,g⟩ :: rest) a w :=
 iB (v:=.int .u8 (p - q)) (w':=w) hw rfl (by simp [execOp,eqGuard,binOp,Op.intArith,H.ev hx,H.ev hy,fG,aqW h1 h2]) (k _ (H.put hd _ H.hp))
end
end
section
open Go.RowKit
theorem aiY:∀ args w,(callFunc 243 args).run prog w=.ok (.enter 243 args) w:=enters func243 rfl (by kernel_rfl)
theorem OT:Ty prog 288 1 24 [.slice none 0 0] false:=⟨by kernel_rfl,by kernel_rfl⟩
theorem ail:∀ args w,(callFunc 175 args).run prog w=.ok (.enter 175 args) w:=enters func175 rfl (by kernel_rfl)
theorem Me:prog.underlying 288=some (.slice 293):=by kernel_rfl
theorem Md:Ty prog 293 3 32 [.string ⟨#[]⟩,.int .i64 0,.bool false] true:=⟨by kernel_rfl,by kernel_rfl⟩
theorem aiZ:∀ args w,(callFunc 244 args).run prog w=.ok (.enter 244 args) w:=enters func244 rfl (by kernel_rfl)
theorem Nq:dV prog 321 2 2:=⟨by kernel_rfl⟩
theorem Nr:dV prog 321 3 4:=⟨by kernel_rfl⟩
theorem aep:uP prog 293 [(0,1),(1,1),(2,1)] [.string ⟨#[]⟩,.int .i64 0,.bool false]:=⟨by kernel_rfl,by kernel_rfl⟩
theorem TU:∀ args w,(callFunc 236 args).run prog w=.ok (.enter 236 args) w:=enters func236 rfl (by kernel_rfl)
theorem Qe:dV prog 321 4 5:=⟨by kernel_rfl⟩
structure kE where
 lit:ByteArray
 level:Int
 plain:Bool
def kE.dat (x:kE):List Dat:=[.lf (.string x.lit),li x.level,.lf (.bool x.plain)]
abbrev kE.cells (x:kE):List aj:=[.string x.lit,vi x.level,.bool x.plain]
theorem adf (G:GH) (x:kE):bH G x.dat x.cells:=by
 simp only [kE.dat,kE.cells,bH]
 exact ⟨_,_,rfl,by simp [aB,Value.oneCell'],_,_,rfl,by simp [aB,Value.oneCell'],_,_,rfl,by simp [aB,Value.oneCell'],rfl⟩
theorem ade {G:GH} {x:kE} {cs:List aj} (h:bH G x.dat cs):cs=x.cells:=by
 simp only [kE.dat,bH,aB] at h
 obtain ⟨_,_,rfl,⟨rfl,_⟩,_,_,rfl,⟨rfl,_⟩,_,_,rfl,⟨rfl,_⟩,rfl⟩:=h
 rfl
def GL (l:List kE):List aj:=(l.map kE.cells).flatten
theorem adb (l:List kE) (x:kE):GL (l++[x])=GL l++x.cells:=by simp [GL]
structure C9 (b:Nat) (lit:List UInt8) (parts:List kE) (p v q:aj) (Lp Lo:OL):Prop where
 ptr:p=.pointer none∨p=(aK b 2)
 buf:iP 5 1 v lit.length (Lib.byteCells lit) Lo
 prt:iP 293 3 q parts.length (GL parts) Lp
def wX (lit:List UInt8) (parts:List kE):List kE:=if lit=[] then parts else parts++[⟨⟨lit.toArray⟩,0,false⟩]
set_option maxHeartbeats 1000000 in
theorem UD (G:GH) (Lp Lo:OL) (w0:World) (b:Nat) (s:ByteArray) (i:Int) (p v q:aj) (pl e:Int) (lit:List UInt8) (parts:List kE) (hR:C9 b lit parts p v q Lp Lo) (hO:jQ G (iZ b s i p v q pl e :: (Lp++Lo)) w0) (hl:lit.length≤4294967296) (hp:parts.length≤4294967296) :
  Calls prog 236 #[(aK b 0)] w0 (jk w0 G (iZ b s i p v q pl e :: (Lp++Lo)) fun u G' L'=>∃ p' v' q' sV kZ,L'=iZ b s i p' v' q' pl e :: (sV++kZ)∧C9 b [] (wX lit parts) p' v' q' sV kZ):=by
 obtain ⟨aci,hbuf,QO⟩:=hR;have hml:maxLen=9223372036854775807:=rfl;obtain ⟨A,c,rfl,acB,acC⟩:=hbuf.shape;obtain ⟨B,d,rfl,acj,acn⟩:=QO.shape;obtain ⟨Lt,rH⟩:∃ x,x=Lp++Lo:=⟨_,rfl⟩;rw [← rH] at hO ⊢;refine mH (N:=25) (T:=[(0,_)]) func236 rfl ntmps236 rfl rfl hO ?_;intro a H;refine kP H (SR fun _ K1=>Rm rfl (Rk rfl (Rf Nq rfl ?_)));clear H;intro a H;refine iH aiY (Li:=[]) (L:=iZ b s i p (.slice A lit.length c) (.slice B parts.length d) pl e :: Lt) H wn rfl (aqt _ _ _ b s i p A lit.length c B parts.length d pl e (Hp.owns (Li:=[]) H.hp)) rfl ?_;clear H;rintro v5 _ L5 a w ⟨rfl,rfl,rfl⟩ QD H;dsimp only [List.nil_append] at H;refine kH H (Rc rfl (Kz K1 (Cd rfl ?_ ?_))) <;> clear H K1
 ·intro h6 a H
  try have p6:=dT h6
  have hne:lit≠[]:=fun e=>by rw [e] at p6;simp at p6
  subst rH;refine aO (fun _ K2=>?_)
  have kI:∀ (cB:Nat) (dZ:(Option Addr × Nat) × OL) (bL:Nat) (v:aj) (G G':GH),(∀ k o,G k=some o→G' k=some o)→(fun (cB:Nat) (dZ:(Option Addr × Nat) × OL) (bL:Nat) (v:aj) (G:GH)=>match bL with|0=>v=(aK b 0)|1=>v=(aK b 0)|2=>v=(aK b 0)|3=>v=(aK b 4)|4=>v=.slice B parts.length d|5=>v=(aK b 0)|6=>v=(aK b 0)|7=>v=(aK b 2)|8=>v=.string ⟨lit.toArray⟩|9=>v=.agg (kE.cells ⟨⟨lit.toArray⟩,0,false⟩).toArray|10=>v=.slice (some ⟨cB,0,none⟩) 1 1|11=>v=.slice dZ.1.1 (parts.length+1) dZ.1.2∧iP 293 3 v (parts.length+1) (GL (parts++[⟨⟨lit.toArray⟩,0,false⟩])) dZ.2|_=>True) cB dZ bL v G→(fun (cB:Nat) (dZ:(Option Addr × Nat) × OL) (bL:Nat) (v:aj) (G:GH)=>match bL with|0=>v=(aK b 0)|1=>v=(aK b 0)|2=>v=(aK b 0)|3=>v=(aK b 4)|4=>v=.slice B parts.length d|5=>v=(aK b 0)|6=>v=(aK b 0)|7=>v=(aK b 2)|8=>v=.string ⟨lit.toArray⟩|9=>v=.agg (kE.cells ⟨⟨lit.toArray⟩,0,false⟩).toArray|10=>v=.slice (some ⟨cB,0,none⟩) 1 1|11=>v=.slice dZ.1.1 (parts.length+1) dZ.1.2∧iP 293 3 v (parts.length+1) (GL (parts++[⟨⟨lit.toArray⟩,0,false⟩])) dZ.2|_=>True) cB dZ bL v G':=by
   intro cB dZ bL v G G' hm h
   match bL,h with
   | 0,h=>exact h
   | 1,h=>exact h
   | 2,h=>exact h
   | 3,h=>exact h
   | 4,h=>exact h
   | 5,h=>exact h
   | 6,h=>exact h
   | 7,h=>exact h
   | 8,h=>exact h
   | 9,h=>exact h
   | 10,h=>exact h
   | 11,h=>exact h
   | 12,h=>exact trivial
   | 13,h=>exact trivial
   | 14,h=>exact trivial
   | _+15,h=>exact trivial
  refine agp (κ:=(Option Addr × Nat) × OL) (((none,0),[])) (hmx) [[],[],[1],[1,2],[1,2,3],[],[5],[5,6],[5,6,7],(ra 5 4),(ra 5 5),(ra 1 10),(ra 0 12),(ra 0 13),(ra 0 14)] [12,13,14] (by kernel_rfl) (by kernel_rfl) 8 10 11 (by decide) (by decide) (by decide) (by decide) (by decide) (by decide) (by decide) (by decide) (by decide) [iZ b s i p (.slice A lit.length c) (.slice B parts.length d) pl e] (iZ b s i p (.slice A lit.length c) (.slice B parts.length d) pl e :: Lp) (.cells (kE.cells ⟨⟨lit.toArray⟩,0,false⟩).toArray 293 (0,0)) (fun b_ k_=>(b_,.cells (kE.cells ⟨⟨lit.toArray⟩,0,false⟩).toArray 293 (0,0)) :: iZ b s i p (.slice A lit.length c) (.slice B parts.length d) pl e :: k_.2) (fun x hx=>by rw [uo.1 hx];exact jd) (fun x hx=>by rw [uo.1 hx];exact jd) (fun _ _ x hx=>by rw [uo.1 hx];exact lg _ jd) (fun (cB:Nat) (dZ:(Option Addr × Nat) × OL) (bL:Nat) (v:aj) (G:GH)=>match bL with|0=>v=(aK b 0)|1=>v=(aK b 0)|2=>v=(aK b 0)|3=>v=(aK b 4)|4=>v=.slice B parts.length d|5=>v=(aK b 0)|6=>v=(aK b 0)|7=>v=(aK b 2)|8=>v=.string ⟨lit.toArray⟩|9=>v=.agg (kE.cells ⟨⟨lit.toArray⟩,0,false⟩).toArray|10=>v=.slice (some ⟨cB,0,none⟩) 1 1|11=>v=.slice dZ.1.1 (parts.length+1) dZ.1.2∧iP 293 3 v (parts.length+1) (GL (parts++[⟨⟨lit.toArray⟩,0,false⟩])) dZ.2|_=>True) (fun b b' k i v G hi hc h=>by match i,hi,hc,h with|0,_,_,h=>exact h|1,_,_,h=>exact h|2,_,_,h=>exact h|3,_,_,h=>exact h|4,_,_,h=>exact h|5,_,_,h=>exact h|6,_,_,h=>exact h|7,_,_,h=>exact h|8,_,_,h=>exact h|9,_,_,h=>exact h|10,hi,_,_=>exact absurd hi (by decide)|11,_,hc,_=>exact absurd hc (by decide)|12,_,hc,_=>exact absurd hc (by decide)|13,_,hc,_=>exact absurd hc (by decide)|14,_,hc,_=>exact absurd hc (by decide)|_+15,_,_,_=>exact trivial) (fun b k k' i v G hi hc h=>by match i,hi,hc,h with|0,_,_,h=>exact h|1,_,_,h=>exact h|2,_,_,h=>exact h|3,_,_,h=>exact h|4,_,_,h=>exact h|5,_,_,h=>exact h|6,_,_,h=>exact h|7,_,_,h=>exact h|8,_,_,h=>exact h|9,_,_,h=>exact h|10,_,_,h=>exact h|11,hi,_,_=>exact absurd hi (by decide)|12,_,hc,_=>exact absurd hc (by decide)|13,_,hc,_=>exact absurd hc (by decide)|14,_,hc,_=>exact absurd hc (by decide)|_+15,_,_,_=>exact trivial) H ?_ ?_ ?_ ?_ ?_ (by kernel_rfl) (by kernel_rfl)
  ·clear H;refine aG ?_ ?_ ?_ ?_ (aG ?_ ?_ ?_ ?_ (aG ?_ ?_ ?_ ?_ (bG ?_ (bG ?_ (bG ?_ dU)))))
   ·intro cB dZ kQ aQ a w G1 kM _ _ _ _ bK hc hG HT hv;have H:=HT;clear bK;have Hb:=H.full;have H:=Hb;clear hc;refine kH H (Rm rfl ?_);clear H;intro a H;refine aI ⟨rfl,?_⟩;exact iL (by kernel_rfl) (kI cB dZ) rfl rfl HT Hb hG hv (fun _ _ h=>h) (rfl) H
   ·intro cB dZ kQ aQ a w G1 kM _ _ _ _ bK hc hG HT hv;have H:=HT;clear bK;have Hb:=H.full;have H:=Hb;clear hc;refine kH H (Rm rfl ?_);clear H;intro a H;refine aI ⟨rfl,?_⟩;exact iL (by kernel_rfl) (kI cB dZ) rfl rfl HT Hb hG hv (fun _ _ h=>h) (rfl) H
   ·intro cB dZ kQ aQ a w G1 kM _ _ _ _ bK hc hG HT hv;have H:=HT;clear bK;have H:=H.aU (hv 1 8 (hc 1 (by decide)) rfl) rfl;have Hb:=H.full;have H:=Hb;clear hc;refine kH H (Rk rfl ?_);clear H;intro a H;refine aI ⟨rfl,?_⟩;exact iL (by kernel_rfl) (kI cB dZ) rfl rfl HT Hb hG hv (fun _ _ h=>h) (rfl) H
   ·intro cB dZ kQ aQ a w G1 kM _ _ _ _ bK hc hG HT hv;have H:=HT;clear bK;have H:=H.aU (hv 2 9 (hc 2 (by decide)) rfl) rfl;have Hb:=H.full;have H:=Hb;clear hc;refine kH H (Rf Nr rfl ?_);clear H;intro a H;refine aI ⟨rfl,?_⟩;exact iL (by kernel_rfl) (kI cB dZ) rfl rfl HT Hb hG hv (fun _ _ h=>h) (rfl) H
   ·intro cB dZ kQ aQ a w G1 kM _ _ _ _ bK hc hG HT hv;have H:=HT;clear bK;have H:=H.aU (hv 3 10 (hc 3 (by decide)) rfl) rfl;have Hb:=H.full;have H:=Hb;clear hc;refine Af OT H wn rfl (H.hp.adn (kM _ jd) rfl) rfl ?_;clear H;intro a H;refine aI ⟨rfl,?_⟩;exact iL (by kernel_rfl) (kI cB dZ) rfl rfl HT Hb hG hv (fun _ _ h=>h) (rfl) H
   ·intro cB dZ kQ aQ a w G1 kM _ _ _ _ bK hc hG HT hv;have H:=HT;clear bK;have Hb:=H.full;have H:=Hb;clear hc;refine kH H (Rm rfl ?_);clear H;intro a H;refine aI ⟨rfl,?_⟩;exact iL (by kernel_rfl) (kI cB dZ) rfl rfl HT Hb hG hv (fun _ _ h=>h) (rfl) H
   ·intro cB dZ kQ aQ a w G1 kM _ _ _ _ bK hc hG HT hv;have H:=HT;clear bK;have H:=H.aU (hv 5 12 (hc 5 (by decide)) rfl) rfl;have Hb:=H.full;have H:=Hb;clear hc;refine kH H (Rk rfl ?_);clear H;intro a H;refine aI ⟨rfl,?_⟩;exact iL (by kernel_rfl) (kI cB dZ) rfl rfl HT Hb hG hv (fun _ _ h=>h) (rfl) H
   ·intro cB dZ kQ aQ a w G1 kM _ _ _ _ bK hc hG HT hv;have H:=HT;clear bK;have H:=H.aU (hv 6 13 (hc 6 (by decide)) rfl) rfl;have Hb:=H.full;have H:=Hb;clear hc;refine kH H (Rf Nq rfl ?_);clear H;intro a H;refine aI ⟨rfl,?_⟩;exact iL (by kernel_rfl) (kI cB dZ) rfl rfl HT Hb hG hv (fun _ _ h=>h) (rfl) H
   ·intro _ _ _ _ _ _ _ _ _ hB;exact absurd hB (by decide)
   ·intro cB dZ kQ aQ a w G1 kM _ _ _ _ bK hc hG HT hv;have H:=HT;clear bK;have H:=H.aU (hv 8 15 (hc 8 (by decide)) rfl) rfl;have Hb:=H.full;have H:=Hb;clear hc;refine lY aep [_,_,_] H wn rfl rfl rfl rfl ?_;clear H;intro a H;refine aI ⟨rfl,?_⟩;exact iL (by kernel_rfl) (kI cB dZ) rfl rfl HT Hb hG hv (fun _ _ h=>h) (rfl) H
   ·intro _ _ _ _ _ _ _ _ _ _ hB;exact absurd hB (by decide)
   ·intro _ _ _ _ _ _ _ _ _ _ _ hB;exact absurd hB (by decide)
   ·intro _ _ _ _ _ _ _ _ hB;exact absurd hB (by decide)
   ·intro _ _ _ _ _ _ _ _ hB;exact absurd hB (by decide)
   intro _ _ _ _ _ _ _ _ hB;exact absurd hB (by decide)
  ·clear H;intro o_ cB dZ aQ a w G1 nK _ hc hG HT hv;obtain rfl:_=o_:=Option.some.inj nK;clear nK;have H:=HT;have H:=H.aU (hv 7 14 (by decide) (hc 7 (by decide)) rfl) rfl;have Hb:=H.full;have H:=Hb;clear hc;refine iH ail (Li:=[]) (L:=iZ b s i p (.slice A lit.length c) (.slice B parts.length d) pl e :: (Lp++Lo)) H wn rfl (aqF _ _ _ _ b s i p _ B parts.length d pl e lit (Hp.owns (Li:=[]) H.hp) hbuf hne) rfl ?_;clear H;rintro v15 HY L15 a w ⟨rfl,rfl⟩ I5 H;dsimp only [List.nil_append] at H;refine aI ⟨rfl,?_⟩;exact aaq (by kernel_rfl) (kI cB dZ) rfl HT Hb hG (fun j e h1 h2 h3=>hv j e h1 h2 h3) I5 (rfl) H
  ·clear H;intro o_ dZ aQ a w G1 nK _ hc hG HT hv;obtain rfl:_=o_:=Option.some.inj nK;clear nK;have H:=HT;have H:=H.aU (hv 0 9 16 (by decide) (hc 9 (by decide)) rfl) rfl;have Hb:=H.full;have H:=Hb;clear hc;refine jF Me Md [_,_,_] [_,_,_] H wn rfl rfl rfl rfl rfl (by intro i q h;match i,h with|0,h=>exact h|n+1,h=>simp at h) rfl rfl ?_;clear H;intro b17 a w alf H;refine aI ⟨rfl,b17,?_⟩;exact M7 (by kernel_rfl) rfl HT Hb hG (fun j e h1 h2 h3=>hv _ j e h1 h2 h3) (rfl) H
  ·clear H;intro o_ cB aQ a w G1 nK _ hc hG HT hv;obtain rfl:_=o_:=Option.some.inj nK;clear nK;have H:=HT;have H:=H.aU (hv (((none,0),[])) 4 11 (by decide) (hc 4 (by decide)) rfl) rfl;have H:=H.aU (hv (((none,0),[])) 10 17 (by decide) (hc 10 (by decide)) rfl) rfl;have Hb:=H.full;have H:=Hb;clear hc;refine xS (Li:=[_,_]) (Lo:=Lp) (news:=kE.cells ⟨⟨lit.toArray⟩,0,false⟩) Me Md rfl rfl H wn rfl rfl QO rfl (H.hp.eu 0 rfl rfl) rfl (by omega) (by omega) rfl ?_;clear H;intro v18 afK a w Lj H;obtain ⟨Yu,c18,rfl,-,-⟩:=Lj.shape;rw [← adb] at Lj;refine aI ⟨rfl,((Yu,c18),afK),?_⟩;exact M7 (by kernel_rfl) rfl HT Hb hG (fun j e h1 h2 h3=>hv _ j e h1 h2 h3) (⟨rfl,Lj⟩) H
  clear H;intro b17 dZ a w G qK H hv;have H:=H.aU (hv 0 7 rfl rfl) rfl;obtain ⟨u18,amQ,Lf⟩:=hv 11 18 (by decide) rfl;(try dsimp only at Lf);obtain ⟨rfl,Lj⟩:=Lf;have H:=H.mh amQ;clear hv;refine kH H (Rk rfl (Rf Nr rfl ?_));clear H;intro a H;refine bO OT 1 (vs:=[_]) _ H wn rfl rfl rfl rfl rfl rfl rfl rfl ?_;clear H;intro w H;dsimp only [List.set,setRow] at H;refine aI ⟨rfl,?_⟩;refine K2 _ _ ?_;clear K2;refine kP H (SC (Rm rfl (Rk rfl (Rf Nq rfl ?_))));clear H;intro a H;refine iH aiZ (Li:=[_]) (L:=iZ b s i p (.slice A lit.length c) (.slice dZ.1.1 (parts.length+1) dZ.1.2) pl e :: dZ.2) H wn rfl (aqE _ _ _ b s i p A lit.length c dZ.1.1 (parts.length+1) dZ.1.2 pl e (Hp.owns (Li:=[_]) H.hp)) rfl ?_;clear H;rintro v24 _ L24 a w ⟨rfl,rfl⟩ asW H;dsimp only [lca,aS] at H;refine aI ?_;refine (leave0 H results236 ?_).2
  first
   | exact H.hp.dh (L':=iZ b s i _ _ _ pl e :: dZ.2) (Eh _ _) ⟨_,_,_,dZ.2,[],by rw [pW],⟨.inl rfl,iP.nil,by rw [wX,ah hne];simpa using Lj⟩⟩
   | exact H.hp.gL ⟨_,_,_,Lp,Lo,by rw [rH],by
     have h0:lit=[]:=by
      cases lit with
      | nil=>rfl
      | cons x r=>simp at p6
     subst h0;exact ⟨aci,hbuf,by rw [wX,au rfl];exact QO⟩⟩
 intro h6 a H
 try have p6:=dF h6
 refine fI ?_;refine (leave0 H results236 ?_).2
 first
  | exact H.hp.dh (L':=iZ b s i _ _ _ pl e :: dZ.2) (Eh _ _) ⟨_,_,_,dZ.2,[],by rw [pW],⟨.inl rfl,iP.nil,by rw [wX,ah hne];simpa using Lj⟩⟩
  | exact H.hp.gL ⟨_,_,_,Lp,Lo,by rw [rH],by
    have h0:lit=[]:=by
     cases lit with
     | nil=>rfl
     | cons x r=>simp at p6
    subst h0;exact ⟨aci,hbuf,by rw [wX,au rfl];exact QO⟩⟩
theorem adM (G:GH) (Lp Lo:OL) (w0:World) (b:Nat) (s:ByteArray) (i:Int) (p v q:aj) (pl e:Int) (lit:List UInt8) (parts:List kE) (ch:Int) (plain:Bool) (hR:C9 b lit parts p v q Lp Lo) (hO:jQ G (iZ b s i p v q pl e :: (Lp++Lo)) w0) (hl:lit.length≤4294967296) (hp:parts.length≤4294967290) (hc:49≤ch∧ch≤57) (hpl:0≤pl∧pl≤4294967296) :
  Calls prog 242 #[(aK b 0),.int .u8 ch,.bool plain] w0 (jk w0 G (iZ b s i p v q pl e :: (Lp++Lo)) fun u G' L'=>∃ p' v' q' sV kZ,L'=iZ b s i p' v' q' (pl+1) e :: (sV++kZ)∧C9 b [] (wX lit parts++[⟨⟨#[]⟩,ch - 48,plain⟩]) p' v' q' sV kZ):=by
 have hml:maxLen=9223372036854775807:=rfl
 have hfl:(wX lit parts).length≤parts.length+1:=by unfold wX;split <;> simp
 obtain ⟨A,c,rfl,acB,acC⟩:=hR.buf.shape;obtain ⟨B,d,rfl,acj,acn⟩:=hR.prt.shape;obtain ⟨Lt,rH⟩:∃ x,x=Lp++Lo:=⟨_,rfl⟩;rw [← rH] at hO ⊢;refine mH (N:=29) (T:=[(0,_),(1,_),(2,_)]) func242 rfl ntmps242 rfl rfl hO ?_;intro a H;refine kP H (SR fun _ K1=>Rm rfl ?_);clear H;intro a H;refine iH TU (Li:=[]) (L:=iZ b s i p (.slice A lit.length c) (.slice B parts.length d) pl e :: Lt) H wn rfl (by subst rH;exact UD _ Lp Lo _ b s i p _ _ pl e lit parts hR (Hp.owns (Li:=[]) H.hp) hl (by omega)) rfl ?_;clear H;rintro v7 G7 L7 a w ⟨p',v',q',sV,kZ,rfl,NA⟩ uJ H;dsimp only [List.nil_append] at H;obtain ⟨A7,c7,rfl,-,-⟩:=NA.buf.shape;obtain ⟨B7,d7,rfl,-,-⟩:=NA.prt.shape;refine K1 _ _ ?_;clear K1;refine kP H (SR fun _ K2=>Rm rfl (Rm rfl (Rk rfl (aW Nr OT 0 rfl rfl (Rm rfl ?_)))));clear H;intro a H;refine apW H wn rfl rfl (by omega) (by omega) rfl ?_;clear H;intro a H;refine LX _ qz OX H wn rfl rfl rfl ?_;clear H;intro a H;rw [Ls (by omega) (by omega)] at H;refine kH H (Rm rfl ?_);clear H;intro a H;refine lY aep [_,_,_] H wn rfl rfl rfl rfl ?_;clear H;intro a H;refine jF Me Md [_,_,_] [_,_,_] H wn rfl rfl rfl rfl rfl (by intro i q h;match i,h with|0,h=>exact h|n+1,h=>simp at h) rfl rfl ?_;clear H;intro b18 a w Qv H;have H:=(St.cast H (show _=[_,_]++(sV++kZ) from rfl)).perm (List.Perm.append_left _ Da);have H:=St.un H;refine xS (Li:=[_,_]++kZ) (Lo:=sV) (news:=kE.cells ⟨⟨#[]⟩,ch - 48,plain⟩) Me Md rfl rfl H wn rfl rfl NA.prt rfl (H.hp.eu 0 rfl rfl) rfl (by omega) (by omega) rfl ?_;clear H;intro v19 Zl a w Bd H;obtain ⟨A19,c19,rfl,-,-⟩:=Bd.shape;rw [← adb] at Bd;have H:=H.assoc.perm (List.Perm.append_left _ Da);dsimp only [lca,aS] at H;refine kH H (Rk rfl (Rf Nr rfl ?_));clear H;intro a H;refine bO OT 1 (vs:=[_]) _ H wn rfl rfl rfl rfl rfl rfl rfl rfl ?_;clear H;intro w H;dsimp only [List.set,setRow] at H;refine K2 _ _ ?_;clear K2;refine kP H (SC (Rm rfl (Rk rfl (aW Qe aD 1 rfl rfl (Rd rfl (Rk rfl (Rf Qe rfl ?_)))))));clear H;intro a H;refine bO aD 1 (vs:=[_]) _ H wn rfl rfl rfl rfl rfl rfl rfl rfl ?_;clear H;intro w H;dsimp only [List.set,setRow] at H;refine aI ?_;refine (leave0 H results242 ?_).2;exact H.hp.dh (L':=iZ b s i _ _ _ (pl+1) e :: (Zl++kZ)) (Eh _ _) ⟨_,_,_,Zl,kZ,rfl,NA.ptr,NA.buf,by simpa using Bd⟩
end
section
open Go.RowKit
section
variable {N:Nat} {D:List Deferred} {w0:World} {F:Nat→Prop} {G0 G:GH} {L:OL} {T Xs:List (Nat × aj)}
variable {r:Option Nat} {P:Program} {Q:Exit→Act→World→Prop} {l:List Oper} {a a':Act} {w w':World}
abbrev Yx:Type:=Nat × aj × Nat × Bool
def Yy (ent:List Yx) (S:Nat→Bool) (a:Act):Prop:=∀ e∈ent,S e.2.2.1=e.2.2.2→a.tmps[e.1]?=some e.2.1
theorem Yy.at {ent:List Yx} {S:Nat→Bool} {a:Act} (h:Yy ent S a) (k:Nat) {t:Nat} {v:aj} {j:Nat} {b:Bool} (hk:ent[k]?=some (t,v,j,b)) (hS:S j=b):a.tmps[t]?=some v:=h _ (oM hk) hS
theorem apV {ops:Array Oper} {rest:List Oper} {d:Nat} {ty:TypeId} {pos:String} {aV:Array Edge} {g:Option (Nat × Bool)} {t:TypeId} {x y:Operand} {s:ByteArray} {ky:IntKind} {p:Int} (hi:Nat) (ht:P.underlying t=some .string) (H:St N D w0 F G0 G L T a w) (hw:Region.wanted ⟨some d,.slice t x none (some y) none,ty,pos,aV,g⟩ (yielded ops a.tmps)=true) (hx:ev T x=some (.string s)) (hy:ev T y=some (.int ky p)) (hp:p=(hi:Int)) (h1:hi≤s.size) (hd:Nat.blt d N=true)
  (k:∀ a',St N D w0 F G0 G L ((d,.string (s.extract 0 hi)) :: T) a' w→WL r P ops Q rest a' w):WL r P ops Q (⟨some d,.slice t x none (some y) none,ty,pos,aV,g⟩ :: rest) a w:=by
 subst hp
 have hr:=run_slice_string_h (P:=P) w t s ht ky (hi:Int) (by omega) (by omega)
 rw [Int.toNat_natCast] at hr
 refine iB (v:=.string (s.extract 0 hi)) (w':=w) hw rfl ?_ (k _ (H.put hd _ H.hp))
 simp only [execOp,H.ev hx,zD,Option.map_none,H.ev hy,fG,run_sliceAt_string w t _ _ _ _ ht,hr,oq,uR]
end
end
section
open Go.RowKit
theorem aja:∀ args w,(callFunc 245 args).run prog w=.ok (.enter 245 args) w:=enters func245 rfl (by kernel_rfl)
theorem zL:dV prog 321 0 0:=⟨by kernel_rfl⟩
theorem aaB:∀ args w,(callFunc 235 args).run prog w=.ok (.enter 235 args) w:=enters func235 rfl (by kernel_rfl)
theorem aaC:∀ args w,(callFunc 241 args).run prog w=.ok (.enter 241 args) w:=enters func241 rfl (by kernel_rfl)
theorem aaD:∀ args w,(callFunc 242 args).run prog w=.ok (.enter 242 args) w:=enters func242 rfl (by kernel_rfl)
theorem sD:dV prog 321 1 1:=⟨by kernel_rfl⟩
theorem TV:∀ args w,(callFunc 240 args).run prog w=.ok (.enter 240 args) w:=enters func240 rfl (by kernel_rfl)
theorem Di:dV prog 321 5 6:=⟨by kernel_rfl⟩
def uF (s p:ByteArray):Bool:=decide (p.size≤s.size) && ((s.extract 0 p.size).toList == p.toList)
theorem alc (G:GH) (w0:World) (hG:Hold G w0) (s p:ByteArray) (hs:s.size≤4611686018427387904) (hp:p.size≤4611686018427387904):Calls prog 245 #[.string s,.string p] w0 (bR w0 G fun u G'=>u=.bool (uF s p)∧G=G'):=by
 refine eN [(0,_),(1,_)] func245 rfl ntmps245 rfl rfl hG ?_;intro a H;refine kP H (SR fun _ K1=>ak K1 rfl (SR fun _ K2=>Rm rfl (Rv iO rfl (Rm rfl (Rv iO rfl (Rc rfl (Rm rfl (Sp 10 rfl ?_ ?_)))))))) <;> clear H K1
 ·intro h10 a H
  try have mX:=dT h10
  refine kH H (YM h10 rfl (YM h10 rfl ?_));clear H;intro a H;refine Cz iO H (wg H rfl rfl h10) rfl rfl ?_;clear H;intro a H;refine apV p.size iO H (wg H rfl rfl h10) rfl rfl rfl (by omega) rfl ?_;clear H;intro a H;refine kH H (YM h10 rfl ?_);clear H;intro a H;refine GY H (wg H rfl rfl h10) rfl rfl rfl ?_;clear H;intro a H;exact kH H (Pt h10 rfl (ak K2 rfl (LR results245 rfl fun H=>H.rt ⟨aL (by unfold uF;first|(simp_all;done)|(simp_all;omega)),rfl⟩)))
 intro h10 a H
 try have mX:=dF h10
 exact kH H (aT h10 rfl (aT h10 rfl (Pf h10 rfl (ak K2 rfl (LR results245 rfl fun H=>H.rt ⟨aL (by unfold uF;first|(simp_all;done)|(simp_all;omega)),rfl⟩)))))
theorem Vs (G:GH) (w0:World) (hG:Hold G w0) (s p:ByteArray) (hs:s.size≤4611686018427387904) (hp:p.size≤4611686018427387904):Calls prog 240 #[.string s,.string p] w0 (bR w0 G fun u G'=>u=.bool (uF s p)∧G=G'):=by
 refine eN [(0,_),(1,_)] func240 rfl ntmps240 rfl rfl hG ?_;intro a H;refine kP H (SR fun _ K1=>ak K1 rfl (SR fun _ K2=>Rm rfl (Rm rfl ?_)));clear H K1;intro a H;refine s_call aja H wn rfl (alc _ _ H.ro s p hs hp) rfl ?_;clear H;rintro v7 _ a w ⟨rfl,rfl⟩ - H;exact kH H (ak K2 rfl (LR results240 rfl fun H=>H.rt ⟨rfl,rfl⟩))
def wT (s:ByteArray) (k:Nat):Bool:=decide (k < s.size) && decide (49≤jB s k) && decide (jB s k≤57)
theorem aan (G:GH) (L:OL) (w0:World) (b:Nat) (s:ByteArray) (i:Int) (p v q:aj) (pl e:Int) (k:Nat) (hs:s.size≤4611686018427387904) (hO:jQ G (iZ b s i p v q pl e :: L) w0) :
  Calls prog 241 #[(aK b 0),vi k] w0 (jk w0 G (iZ b s i p v q pl e :: L) fun u G' L'=>u=.bool (wT s k)∧L'=iZ b s i p v q pl e :: L∧G'=G):=by
 refine mH (N:=30) (T:=[(0,_),(1,_)]) func241 rfl ntmps241 rfl rfl hO ?_;intro a H;refine kP H (SR fun _ K1=>ak K1 rfl (SR fun _ K2=>Rm rfl (Rm rfl (Rk rfl (aW zL gX 0 rfl rfl (Rv iO rfl (Rc rfl (Rm rfl (Sp 12 rfl ?_ ?_))))))))) <;> clear H K1
 ·intro h12 a H
  try have qM:=dT h12
  refine kH H (YM h12 rfl ?_);clear H;intro a H;refine vK H (wg H rfl rfl h12) rfl rfl ?_;clear H;intro a H;refine kH H (YF zL h12 rfl (YO gX 0 h12 rfl (YM h12 rfl ?_)));clear H;intro a H;refine qQ k iO H (wg H rfl rfl h12) rfl rfl rfl (by omega) rfl ?_;clear H;intro a H;rw [← oC] at H;refine kH H (YC h12 rfl (Pt h12 rfl (Rm rfl (Sp 21 rfl ?_ ?_)))) <;> clear H
  ·intro h21 a H
   try have oV:=dT h21
   refine kH H (YM h21 rfl ?_);clear H;intro a H;refine vK H (wg H rfl rfl h21) rfl rfl ?_;clear H;intro a H;refine kH H (YF zL h21 rfl (YO gX 0 h21 rfl (YM h21 rfl ?_)));clear H;intro a H;refine qQ k iO H (wg H rfl rfl h21) rfl rfl rfl (by omega) rfl ?_;clear H;intro a H;rw [← oC] at H;exact kH H (YC h21 rfl (Pt h21 rfl (ak K2 rfl (LR results241 rfl fun H=>H.hp.gL ⟨aL (by unfold wT;first|(simp_all;done)|(simp_all;omega)),rfl,rfl⟩))))
  intro h21 a H
  try have oV:=dF h21
  exact kH H (aT h21 rfl (aP h21 rfl (aP h21 rfl (Pf h21 rfl (ak K2 rfl (LR results241 rfl fun H=>H.hp.gL ⟨aL (by unfold wT;first|(simp_all;done)|(simp_all;omega)),rfl,rfl⟩))))))
 intro h12 a H
 try have qM:=dF h12
 exact kH H (aT h12 rfl (aP h12 rfl (aP h12 rfl (Pf h12 rfl (Rm rfl (aT rfl rfl (aP rfl rfl (aP rfl rfl (Pf rfl rfl (ak K2 rfl (LR results241 rfl fun H=>H.hp.gL ⟨aL (by unfold wT;first|(simp_all;done)|(simp_all;omega)),rfl,rfl⟩)))))))))))
structure wN where
 i:Nat
 lit:List UInt8
 parts:List kE
 pl:Nat
 e:Int
def qO (s:ByteArray) (x:wN):wN :=
 if uF (s.extract x.i s.size) ⟨#[37,37]⟩=true then ⟨x.i+2,x.lit++[37],x.parts,x.pl,x.e⟩
 else if wT s (x.i+1)=true then ⟨x.i+2,[],wX x.lit x.parts++[⟨⟨#[]⟩,jB s (x.i+1) - 48,false⟩],x.pl+1,x.e⟩
 else if uF (s.extract x.i s.size) ⟨#[37,100]⟩=true∧wT s (x.i+2)=true then ⟨x.i+3,[],wX x.lit x.parts++[⟨⟨#[]⟩,jB s (x.i+2) - 48,true⟩],x.pl+1,x.e⟩
 else ⟨x.i,x.lit,x.parts,x.pl,14⟩
abbrev za (b:Nat) (s:ByteArray) (x:wN) (p v q:aj):Nat × Obj:=iZ b s x.i p v q x.pl x.e
theorem aam {s:ByteArray} {k:Nat} (h:wT s k=true):k < s.size∧49≤jB s k∧jB s k≤57:=by
 simpa [wT,and_assoc] using h
set_option maxHeartbeats 1000000 in
theorem aoQ (G:GH) (Lp Lo:OL) (w0:World) (b:Nat) (s:ByteArray) (x:wN) (p v q:aj) (hR:C9 b x.lit x.parts p v q Lp Lo) (hO:jQ G (za b s x p v q :: (Lp++Lo)) w0) (hs:s.size≤4294967290) (hi:x.i < s.size) (hl:x.lit.length≤4294967290) (hp:x.parts.length≤4294967290) (hpl:x.pl≤4294967290) :
    Calls prog 234 #[(aK b 0)] w0 (jk w0 G (za b s x p v q :: (Lp++Lo)) fun u G' L'=>∃ p' v' q' sV kZ,L'=za b s (qO s x) p' v' q' :: (sV++kZ)∧C9 b (qO s x).lit (qO s x).parts p' v' q' sV kZ):=by
  obtain ⟨i,lit,parts,pl,e⟩:=x;dsimp only [za] at *
  have hex:(s.extract i s.size).size≤4611686018427387904:=by rw [ByteArray.size_extract];omega
  obtain ⟨A,c,rfl,acB,acC⟩:=hR.buf.shape;obtain ⟨B,d,rfl,acj,acn⟩:=hR.prt.shape;obtain ⟨Lt,rH⟩:∃ x,x=Lp++Lo:=⟨_,rfl⟩;rw [← rH] at hO ⊢;refine mH (N:=93) (T:=[(0,_)]) func234 rfl ntmps234 rfl rfl hO ?_;intro a H;refine sw ?_;refine aO (fun _ K1=>?_);refine dI hmx [[],[0],[0,1],[0,1,2],[],[4],[4,5],[4,5,6],(ra 0 8),(ra 0 9),(ra 0 10)] [] (by kernel_rfl) [_,_,_,.string s,_,_,_,vi i,.string (s.extract i s.size),.bool (uF (s.extract i s.size) ⟨#[37,37]⟩),_] H (aG (Z0 rfl (Rm rfl)) (Z1 0 6 rfl (Rk rfl)) (Z1 1 7 rfl (Rf zL rfl)) (Z1 2 8 rfl (Ro gX 0 rfl)) (aG (Z0 rfl (Rm rfl)) (Z1 4 10 rfl (Rk rfl)) (Z1 5 11 rfl (Rf sD rfl)) (Z1 6 12 rfl (Ro aD 0 rfl)) (bG ?_ (bG ?_ (bG (Z1 9 15 rfl (Ra rfl)) dU))))) ?_
  · refine fu 3 9 7 13 rfl rfl fun _ a w G1 hG HT H fin=>?_;refine XH i iO H wn rfl rfl rfl (by omega) rfl ?_;clear H;intro a H;exact fin H iJ rfl
  · refine eF 8 14 rfl rfl fun _ a w G1 hG HT H fin=>?_;refine s_call TV H wn rfl (Vs _ _ H.ro _ _ hex (by decide)) rfl ?_;clear H;rintro v15 HY a w ⟨rfl,rfl⟩ I5 H;exact fin H I5 (rfl)
  clear H;intro a w G qK H hv;have H:=H.aU (hv 10 5 rfl rfl) rfl;clear hv;refine aI ⟨rfl,?_⟩;refine K1 _ _ ?_;clear K1;refine oN H rfl ?_ ?_
  · intro h5
    try have p5:=dT h5
    refine kP H (SR fun _ K2=>Rm rfl (Rk rfl (Rf Nq rfl ?_)));clear H;intro a H;refine iH aaB (Li:=[]) (L:=iZ b s i p (.slice A lit.length c) (.slice B parts.length d) pl e :: Lt) H wn rfl (by subst rH;exact afi _ Lp Lo _ b s i p _ B parts.length d pl e lit.length _ 37 hR.ptr (Hp.owns (Li:=[]) H.hp) hR.buf (by omega)) rfl ?_;clear H;rintro v19 _ L19 a w ⟨atY,Ii,rfl,Bd,rfl⟩ Jk H;dsimp only [List.nil_append] at H;obtain ⟨A19,c19,rfl,-,-⟩:=Bd.shape;refine K2 _ _ ?_;clear K2;refine kP H (SC (Rm rfl (Rk rfl (aW sD aD 0 rfl rfl (Rd rfl (Rk rfl (Rf sD rfl ?_)))))));clear H;intro a H;refine bO aD 0 (vs:=[_]) _ H wn rfl rfl rfl rfl rfl rfl rfl rfl ?_;clear H;intro w H;dsimp only [List.set,setRow] at H;refine aI ?_;refine (leave0 H results234 ?_).2;exact H.hp.gL ⟨_,_,_,Lp,Ii,by rw [qO,au h5];rfl,by rw [qO,au h5];exact ⟨.inr rfl,by simpa [Lib.byteCells] using Bd,hR.prt⟩⟩
  intro h5
  try have p5:=dF h5
  refine kP H (SR fun _ K3=>Rm rfl (Rm rfl (Rk rfl (aW sD aD 0 rfl rfl (Rd rfl ?_)))));clear H;intro a H;rw [show ((i:Int)+1)=((i+1:Nat):Int) from rfl] at H;refine iH aaC (Li:=[]) (L:=iZ b s i p (.slice A lit.length c) (.slice B parts.length d) pl e :: Lt) H wn rfl (aan _ Lt _ b s i p _ _ pl e (i+1) (by omega) (Hp.owns (Li:=[]) H.hp)) rfl ?_;clear H;rintro v34 _ L34 a w ⟨rfl,rfl,rfl⟩ abS H;dsimp only [List.nil_append] at H;refine kH H (ak K3 rfl (Cd rfl ?_ ?_)) <;> clear H K3
  · intro h27 a H
    try have p27:=dT h27
    have hd1:=aam h27;refine aO (fun _ K4=>?_);refine dI hmx [[],[],[1],[1,2],[1,2,3],[],[5],[5,6],[5,6,7],(ra 5 4),(ra 1 9),(ra 0 11)] [11] (by kernel_rfl) [_,_,_,_,.string s,_,_,_,vi i,_,.int .u8 (jB s (i+1))] H (aG (Z0 rfl (Rm rfl)) (Z0 rfl (Rm rfl)) (Z1 1 36 rfl (Rk rfl)) (Z1 2 37 rfl (Rf zL rfl)) (aG (Z1 3 38 rfl (Ro gX 0 rfl)) (Z0 rfl (Rm rfl)) (Z1 5 40 rfl (Rk rfl)) (Z1 6 41 rfl (Rf sD rfl)) (aG (Z1 7 42 rfl (Ro aD 0 rfl)) (Z1 8 43 rfl (Rd rfl)) ?_ (cZ rfl) dU))) ?_
    · refine fu 4 39 9 44 rfl rfl fun _ a w G1 hG HT H fin=>?_;refine qQ (i+1) iO H wn rfl rfl rfl hd1.1 rfl ?_;clear H;intro a H;rw [← oC] at H;exact fin H iJ rfl
    clear H;intro a w G Gf H hv;have H:=H.aU (hv 0 35 rfl rfl) rfl;have H:=H.aU (hv 10 45 rfl rfl) rfl;clear hv;refine iH aaD (Li:=[]) (L:=iZ b s i p (.slice A lit.length c) (.slice B parts.length d) pl e :: Lt) H wn rfl (by subst rH;exact adM _ Lp Lo _ b s i p _ _ pl e lit parts (jB s (i+1)) false hR (Hp.owns (Li:=[]) H.hp) (by omega) (by omega) hd1.2 (by omega)) rfl ?_;clear H;rintro v46 Ph L46 a w ⟨p46,arq,q46,MC,MB,rfl,yO⟩ yQ H;dsimp only [List.nil_append] at H;obtain ⟨A46,c46,rfl,-,-⟩:=yO.buf.shape;obtain ⟨B46,d46,rfl,-,-⟩:=yO.prt.shape;refine aI ⟨rfl,?_⟩;refine K4 _ _ ?_;clear K4;refine kP H (SC (Rm rfl (Rk rfl (aW sD aD 0 rfl rfl (Rd rfl (Rk rfl (Rf sD rfl ?_)))))));clear H;intro a H;refine bO aD 0 (vs:=[_]) _ H wn rfl rfl rfl rfl rfl rfl rfl rfl ?_;clear H;intro w H;dsimp only [List.set,setRow] at H;refine aI ?_;refine (leave0 H results234 ?_).2;exact H.hp.gL ⟨_,_,_,MC,MB,by rw [qO,ah (by simp [h5]),au h27];rfl,by rw [qO,ah (by simp [h5]),au h27];exact yO⟩
  intro h27 a H
  try have p27:=dF h27
  refine aO (fun _ K5=>?_)
  by_cases c1:uF (s.extract i s.size) ⟨#[37,100]⟩=true
  · skip;refine dI hmx [[],[0],[0,1],[0,1,2],[],[4],[4,5],[4,5,6],(ra 0 8),(ra 0 9),(ra 0 10),(ra 0 11),(ra 0 11),(ra 0 11++[12]),(ra 0 11++[12,13]),(ra 0 11++[12,13,14]),(ra 0 11++ra 12 4),(ra 0 17),(ra 0 18),(ra 0 19)] [] (by kernel_rfl) [_,_,_,.string s,_,_,_,vi i,.string (s.extract i s.size),.bool (uF (s.extract i s.size) ⟨#[37,100]⟩),.bool (decide (uF (s.extract i s.size) ⟨#[37,100]⟩=true)),_,_,(aK b 0),_,vi i,vi ((i+2:Nat):Int),.bool (wT s (i+2)),_,_] H (aG (Z0 rfl (Rm rfl)) (Z1 0 55 rfl (Rk rfl)) (Z1 1 56 rfl (Rf zL rfl)) (Z1 2 57 rfl (Ro gX 0 rfl)) (aG (Z0 rfl (Rm rfl)) (Z1 4 59 rfl (Rk rfl)) (Z1 5 60 rfl (Rf sD rfl)) (Z1 6 61 rfl (Ro aD 0 rfl)) (aG ?_ ?_ ?_ (Z1 10 65 rfl (YM (aJ c1) rfl)) (aG (Z1 10 65 rfl (YM (aJ c1) rfl)) ?_ (Z2 13 68 10 65 rfl (YF sD (aJ c1) rfl)) (Z2 14 69 10 65 rfl (YO aD 0 (aJ c1) rfl)) (aG ?_ ?_ (Z2 10 65 17 72 rfl (Pt (aJ c1) rfl)) (Z1 18 73 rfl (Ra rfl)) dU))))) ?_
    · refine fu 3 58 7 62 rfl rfl fun _ a w G1 hG HT H fin=>?_;refine XH i iO H wn rfl rfl rfl (by omega) rfl ?_;clear H;intro a H;exact fin H iJ rfl
    · refine eF 8 63 rfl rfl fun _ a w G1 hG HT H fin=>?_;refine s_call TV H wn rfl (Vs _ _ H.ro _ _ hex (by decide)) rfl ?_;clear H;rintro v64 G64 a w ⟨rfl,rfl⟩ Vd H;exact fin H Vd (rfl)
    · refine eF 9 64 rfl rfl fun _ a w G1 hG HT H fin=>?_;refine kH H (Rm rfl ?_);clear H;intro a H;exact fin H iJ (by show _=_;simp)
    · refine fu 12 67 10 65 rfl rfl fun _ a w G1 hG HT H fin=>?_;refine vK H (wg H rfl rfl (aJ c1)) rfl rfl ?_;clear H;intro a H;exact fin H iJ rfl
    · refine fu 15 70 10 65 rfl rfl fun _ a w G1 hG HT H fin=>?_;refine RL _ H (wg H rfl rfl (aJ c1)) rfl rfl rfl (by omega) (by omega) rfl ?_;clear H;intro a H;exact fin H iJ rfl
    · refine sW 11 66 16 71 10 65 rfl rfl fun _ a w G1 hG HT H fin=>?_;refine iH aaC (Li:=[]) (L:=iZ b s i p (.slice A lit.length c) (.slice B parts.length d) pl e :: Lt) H (wg H rfl rfl (aJ c1)) rfl (aan _ Lt _ b s i p _ _ pl e (i+2) (by omega) (Hp.owns (Li:=[]) H.hp)) rfl ?_;clear H;rintro v72 G72 L72 a w ⟨rfl,rfl,rfl⟩ akO H;dsimp only [List.nil_append] at H;exact fin H akO (rfl)
    clear H;intro a w G Nw H hv;have H:=H.aU (hv 19 54 rfl rfl) rfl;clear hv;refine aI ⟨rfl,?_⟩;refine K5 _ _ ?_;clear K5;refine oN H rfl ?_ ?_
    · intro iV
      try have p54:=dT iV
      have hd2:=aam iV;refine aO (fun _ K6=>?_);refine dI hmx [[],[],[1],[1,2],[1,2,3],[],[5],[5,6],[5,6,7],(ra 5 4),(ra 1 9),(ra 0 11)] [11] (by kernel_rfl) [_,_,_,_,.string s,_,_,_,vi i,_,.int .u8 (jB s (i+2))] H (aG (Z0 rfl (Rm rfl)) (Z0 rfl (Rm rfl)) (Z1 1 75 rfl (Rk rfl)) (Z1 2 76 rfl (Rf zL rfl)) (aG (Z1 3 77 rfl (Ro gX 0 rfl)) (Z0 rfl (Rm rfl)) (Z1 5 79 rfl (Rk rfl)) (Z1 6 80 rfl (Rf sD rfl)) (aG (Z1 7 81 rfl (Ro aD 0 rfl)) (Z1 8 82 rfl (Rd rfl)) ?_ (cZ rfl) dU))) ?_
      · refine fu 4 78 9 83 rfl rfl fun _ a w G1 hG HT H fin=>?_;refine qQ (i+2) iO H wn rfl rfl rfl hd2.1 rfl ?_;clear H;intro a H;rw [← oC] at H;exact fin H iJ rfl
      clear H;intro a w G wu H hv;have H:=H.aU (hv 0 74 rfl rfl) rfl;have H:=H.aU (hv 10 84 rfl rfl) rfl;clear hv;refine iH aaD (Li:=[]) (L:=iZ b s i p (.slice A lit.length c) (.slice B parts.length d) pl e :: Lt) H wn rfl (by subst rH;exact adM _ Lp Lo _ b s i p _ _ pl e lit parts (jB s (i+2)) true hR (Hp.owns (Li:=[]) H.hp) (by omega) (by omega) hd2.2 (by omega)) rfl ?_;clear H;rintro v85 G85 L85 a w ⟨p46,arq,q46,MC,MB,rfl,yO⟩ asZ H;dsimp only [List.nil_append] at H;obtain ⟨A46,c46,rfl,-,-⟩:=yO.buf.shape;obtain ⟨B46,d46,rfl,-,-⟩:=yO.prt.shape;refine aI ⟨rfl,?_⟩;refine K6 _ _ ?_;clear K6;refine kP H (SC (Rm rfl (Rk rfl (aW sD aD 0 rfl rfl (Rd rfl (Rk rfl (Rf sD rfl ?_)))))));clear H;intro a H;refine bO aD 0 (vs:=[_]) _ H wn rfl rfl rfl rfl rfl rfl rfl rfl ?_;clear H;intro w H;dsimp only [List.set,setRow] at H;refine aI ?_;refine (leave0 H results234 ?_).2
      have vD:¬ uF (s.extract i s.size) ⟨#[37,37]⟩=true:=by simp [h5]
      have yR:¬ wT s (i+1)=true:=by simp [h27]
      first
        | exact H.hp.gL ⟨_,_,_,MC,MB,by rw [qO,ah vD,ah yR,au ⟨c1,iV⟩];rfl,by rw [qO,ah vD,ah yR,au ⟨c1,iV⟩];exact yO⟩
        | (have GA:¬ (uF (s.extract i s.size) ⟨#[37,100]⟩=true∧wT s (i+2)=true):=by simp_all
           exact H.hp.gL ⟨_,_,_,Lp,Lo,by rw [qO,ah vD,ah yR,ah GA,rH],by rw [qO,ah vD,ah yR,ah GA];exact hR⟩)
    intro iV
    try have p54:=dF iV
    refine kP H (SC (Rm rfl (Rk rfl (Rf Di rfl ?_))));clear H;intro a H;refine bO jg 0 (vs:=[_]) _ H wn rfl rfl rfl rfl rfl rfl rfl rfl ?_;clear H;intro w H;dsimp only [List.set,setRow] at H;refine aI ?_;refine (leave0 H results234 ?_).2
    have vD:¬ uF (s.extract i s.size) ⟨#[37,37]⟩=true:=by simp [h5]
    have yR:¬ wT s (i+1)=true:=by simp [h27]
    first
      | exact H.hp.gL ⟨_,_,_,MC,MB,by rw [qO,ah vD,ah yR,au ⟨c1,iV⟩];rfl,by rw [qO,ah vD,ah yR,au ⟨c1,iV⟩];exact yO⟩
      | (have GA:¬ (uF (s.extract i s.size) ⟨#[37,100]⟩=true∧wT s (i+2)=true):=by simp_all
         exact H.hp.gL ⟨_,_,_,Lp,Lo,by rw [qO,ah vD,ah yR,ah GA,rH],by rw [qO,ah vD,ah yR,ah GA];exact hR⟩)
  skip;refine dI hmx [[],[0],[0,1],[0,1,2],[],[4],[4,5],[4,5,6],(ra 0 8),(ra 0 9),(ra 0 10),(ra 0 11),(ra 0 11),(ra 0 11++[12]),(ra 0 11++[12,13]),(ra 0 11++[12,13,14]),(ra 0 11++ra 12 4),(ra 0 17),(ra 0 18),(ra 0 19)] [] (by kernel_rfl) [_,_,_,.string s,_,_,_,vi i,.string (s.extract i s.size),.bool (uF (s.extract i s.size) ⟨#[37,100]⟩),.bool (decide (uF (s.extract i s.size) ⟨#[37,100]⟩=true)),undef,undef,undef,undef,undef,undef,undef,_,_] H (aG (Z0 rfl (Rm rfl)) (Z1 0 55 rfl (Rk rfl)) (Z1 1 56 rfl (Rf zL rfl)) (Z1 2 57 rfl (Ro gX 0 rfl)) (aG (Z0 rfl (Rm rfl)) (Z1 4 59 rfl (Rk rfl)) (Z1 5 60 rfl (Rf sD rfl)) (Z1 6 61 rfl (Ro aD 0 rfl)) (aG ?_ ?_ ?_ (bg (j:=10) (by kernel_rfl) (fun _ _ _ _ _ h=>h) rfl rfl rfl rfl rfl (fun _ _ h=>bq h (aL (aR c1))) rfl (fun _=>rfl)) (aG (bg (j:=10) (by kernel_rfl) (fun _ _ _ _ _ h=>h) rfl rfl rfl rfl rfl (fun _ _ h=>bq h (aL (aR c1))) rfl (fun _=>rfl)) (bg (j:=10) (by kernel_rfl) (fun _ _ _ _ _ h=>h) rfl rfl rfl rfl rfl (fun _ _ h=>bq h (aL (aR c1))) rfl (fun _=>rfl)) (bg (j:=10) (by kernel_rfl) (fun _ _ _ _ _ h=>h) rfl rfl rfl rfl rfl (fun _ _ h=>bq h (aL (aR c1))) rfl (fun _=>rfl)) (bg (j:=10) (by kernel_rfl) (fun _ _ _ _ _ h=>h) rfl rfl rfl rfl rfl (fun _ _ h=>bq h (aL (aR c1))) rfl (fun _=>rfl)) (aG (bg (j:=10) (by kernel_rfl) (fun _ _ _ _ _ h=>h) rfl rfl rfl rfl rfl (fun _ _ h=>bq h (aL (aR c1))) rfl (fun _=>rfl)) (bg (j:=10) (by kernel_rfl) (fun _ _ _ _ _ h=>h) rfl rfl rfl rfl rfl (fun _ _ h=>bq h (aL (aR c1))) rfl (fun _=>rfl)) (Z2 10 65 17 72 rfl (Pf (aR c1) rfl)) (Z1 18 73 rfl (Ra rfl)) dU))))) ?_
  · refine fu 3 58 7 62 rfl rfl fun _ a w G1 hG HT H fin=>?_;refine XH i iO H wn rfl rfl rfl (by omega) rfl ?_;clear H;intro a H;exact fin H iJ rfl
  · refine eF 8 63 rfl rfl fun _ a w G1 hG HT H fin=>?_;refine s_call TV H wn rfl (Vs _ _ H.ro _ _ hex (by decide)) rfl ?_;clear H;rintro v64 G64 a w ⟨rfl,rfl⟩ Vd H;exact fin H Vd (rfl)
  · refine eF 9 64 rfl rfl fun _ a w G1 hG HT H fin=>?_;refine kH H (Rm rfl ?_);clear H;intro a H;exact fin H iJ (by show _=_;simp)
  clear H;intro a w G Nw H hv;have H:=H.aU (hv 19 54 rfl rfl) rfl;clear hv;refine aI ⟨rfl,?_⟩;refine K5 _ _ ?_;clear K5;refine nW H rfl rfl ?_;refine kP H (SC (Rm rfl (Rk rfl (Rf Di rfl ?_))));clear H;intro a H;refine bO jg 0 (vs:=[_]) _ H wn rfl rfl rfl rfl rfl rfl rfl rfl ?_;clear H;intro w H;dsimp only [List.set,setRow] at H;refine aI ?_;refine (leave0 H results234 ?_).2
  have vD:¬ uF (s.extract i s.size) ⟨#[37,37]⟩=true:=by simp [h5]
  have yR:¬ wT s (i+1)=true:=by simp [h27]
  first
    | exact H.hp.gL ⟨_,_,_,MC,MB,by rw [qO,ah vD,ah yR,au ⟨c1,iV⟩];rfl,by rw [qO,ah vD,ah yR,au ⟨c1,iV⟩];exact yO⟩
    | (have GA:¬ (uF (s.extract i s.size) ⟨#[37,100]⟩=true∧wT s (i+2)=true):=by simp_all
       exact H.hp.gL ⟨_,_,_,Lp,Lo,by rw [qO,ah vD,ah yR,ah GA,rH],by rw [qO,ah vD,ah yR,ah GA];exact hR⟩)
end
section
open Go.RowKit
theorem aiW:∀ args w,(callFunc 234 args).run prog w=.ok (.enter 234 args) w:=enters func234 rfl (by kernel_rfl)
def PE (s:ByteArray) (i:Nat):UInt8:=if h:i < s.size then s[i] else 0
theorem afS (s:ByteArray) (i:Nat):jB s i=((PE s i).toNat:Int):=by
 unfold jB PE;split <;> rfl
def qx (s:ByteArray) (x:wN):wN:=if jB s x.i=37 then qO s x else ⟨x.i+1,x.lit++[PE s x.i],x.parts,x.pl,x.e⟩
def Fa (s:ByteArray):Nat→wN→wN
 | 0,x=>x
 | f+1,x=>if x.i < s.size∧x.e=0 then Fa s f (qx s x) else x
def mS (s:ByteArray) (x:wN):Nat:=if x.e=0 then s.size - x.i else 0
theorem aei {s:ByteArray} {f:Nat} {x:wN} (h:¬ (x.i < s.size∧x.e=0)):Fa s f x=x:=by
 cases f with
 | zero=>rfl
 | succ f=>rw [Fa,ah h]
theorem akm (lit:List UInt8) (parts:List kE):(wX lit parts).length≤parts.length+1:=by unfold wX;split <;> simp
theorem aeu (s:ByteArray) (x:wN) (h:x.i < s.size∧x.e=0) (h1:x.lit.length≤x.i) (h2:x.parts.length≤2*x.i) (h3:x.pl≤x.i) :
  (qx s x).i≤x.i+3∧(qx s x).lit.length≤(qx s x).i∧(qx s x).parts.length≤2*(qx s x).i∧(qx s x).pl≤(qx s x).i∧mS s (qx s x) < mS s x∧mS s x≤s.size:=by
 have hf:=akm x.lit x.parts;have hm:mS s x=s.size - x.i:=au h.2
 unfold qx qO
 split
 ·split
  ·refine ⟨?_,?_,?_,?_,?_,?_⟩ <;> simp only [mS,lJ,nG,List.length_nil] at*<;> simp only [h.2,if_true] at*<;> omega
  split
  ·refine ⟨?_,?_,?_,?_,?_,?_⟩ <;> simp only [mS,lJ,nG,List.length_nil] at*<;> simp only [h.2,if_true] at*<;> omega
  split
  ·refine ⟨?_,?_,?_,?_,?_,?_⟩ <;> simp only [mS,lJ,nG,List.length_nil] at*<;> simp only [h.2,if_true] at*<;> omega
  refine ⟨?_,?_,?_,?_,?_,?_⟩ <;> simp only [mS,lJ,nG,List.length_nil] at*<;> simp only [h.2,if_true] at*<;> (try omega) <;> (simp;omega)
 refine ⟨?_,?_,?_,?_,?_,?_⟩ <;> simp only [mS,lJ,nG,List.length_nil] at*<;> simp only [h.2,if_true] at*<;> omega
def DZ:wN:=⟨0,[],[],0,0⟩
def mK (s:ByteArray):wN:=Fa s s.size DZ
def wF (x:wN):Int:=if x.e=0∧9 < (x.pl:Int) then 9 else x.e
set_option maxHeartbeats 1000000 in
theorem apZ (G:GH) (Po Pn:OL) (w0:World) (b:Nat) (s:ByteArray) (p0 v0 q0:aj) (hR:C9 b [] [] p0 v0 q0 Po Pn) (hO:jQ G (za b s DZ p0 v0 q0 :: (Po++Pn)) w0) (hs:s.size≤1073741824) :
  Calls prog 224 #[(aK b 0)] w0 (jk w0 G (za b s DZ p0 v0 q0 :: (Po++Pn)) fun u G' L'=>∃ p' v' q' sV kZ,L'=iZ b s (mK s).i p' v' q' (mK s).pl (wF (mK s)) :: (sV++kZ)∧C9 b [] (wX (mK s).lit (mK s).parts) p' v' q' sV kZ):=by
 obtain ⟨A0,c0,rfl,-,-⟩:=hR.buf.shape;obtain ⟨B0,d0,rfl,-,-⟩:=hR.prt.shape;refine mH (N:=68) (T:=[(0,_)]) func224 rfl ntmps224 rfl rfl hO ?_;intro a H;refine aO (fun _ K1=>?_);refine sw ?_;skip;refine fH (ι:=Nat × wN × aj × Option Addr × Nat × Option Addr × Nat × OL × OL × GH) (Tc:=[(0,_)]) (Lc:=[]) (fun gh=>[]) (fun gh=>[za b s gh.2.1 gh.2.2.1 (.slice gh.2.2.2.1 gh.2.1.lit.length gh.2.2.2.2.1) (.slice gh.2.2.2.2.2.1 gh.2.1.parts.length gh.2.2.2.2.2.2.1)]++(gh.2.2.2.2.2.2.2.1++gh.2.2.2.2.2.2.2.2.1)) (fun gh=>gh.2.2.2.2.2.2.2.2.2) (fun gh=>C9 b gh.2.1.lit gh.2.1.parts gh.2.2.1 (.slice gh.2.2.2.1 gh.2.1.lit.length gh.2.2.2.2.1) (.slice gh.2.2.2.2.2.1 gh.2.1.parts.length gh.2.2.2.2.2.2.1) gh.2.2.2.2.2.2.2.1 gh.2.2.2.2.2.2.2.2.1∧Fa s gh.1 gh.2.1=mK s∧mS s gh.2.1≤gh.1∧gh.1≤s.size∧gh.2.1.i≤s.size+3∧gh.2.1.lit.length≤gh.2.1.i∧gh.2.1.parts.length≤2*gh.2.1.i∧gh.2.1.pl≤gh.2.1.i) (fun gh=>gh.1) ((s.size,DZ,p0,A0,c0,B0,d0,Po,Pn,G)) (by exact (H).sub ⟨rfl,av⟩) ?_ ?_
 ·exact ⟨hR,rfl,by simp [mS,DZ],dQ _,by simp [DZ],by simp [DZ],by simp [DZ],by simp [DZ]⟩
 clear H;intro gh a w hI H;obtain ⟨k,x,p,vA,vc,qA,qc,Lp,Lo,g⟩:=gh;dsimp only at hI H;obtain ⟨hR,hsc,hmk,hks,hxi,hx1,hx2,hx3⟩:=hI;dsimp only [lca,aS] at H;refine aO (fun _ K2=>?_);refine aO (fun _ K3=>?_)
 by_cases c0:(x.i:Int) < (s.size:Int)
 ·skip
  by_cases c1:x.e=0
  ·skip;refine dI hmx [[],[0],[0,1],[0,1,2],[],[4],[4,5],[4,5,6],(ra 4 4),(ra 0 9),(ra 0 10),(ra 0 11),(ra 0 12),(ra 0 13),(ra 0 14),(ra 0 15),(ra 0 16)] [] (by kernel_rfl) [_,_,_,vi x.i,_,_,_,.string s,_,_,_,_,(aK b 0),_,vi x.e,_,_] H (aG (Z0 rfl (Rm rfl)) (Z1 0 2 rfl (Rk rfl)) (Z1 1 3 rfl (Rf sD rfl)) (Z1 2 4 rfl (Ro aD 0 rfl)) (aG (Z0 rfl (Rm rfl)) (Z1 4 6 rfl (Rk rfl)) (Z1 5 7 rfl (Rf zL rfl)) (Z1 6 8 rfl (Ro gX 0 rfl)) (aG (Z1 7 9 rfl (Rv iO rfl)) (Z2 3 5 8 10 rfl (Rc rfl)) (Z1 9 11 rfl (Rm rfl)) (Z1 10 12 rfl (YM (aJ c0) rfl)) (aG ?_ (Z2 12 14 10 12 rfl (YF Di (aJ c0) rfl)) (Z2 13 15 10 12 rfl (YO jg 0 (aJ c0) rfl)) (Z2 14 16 10 12 rfl (YC (aJ c0) rfl)) (bG (Z2 10 12 15 17 rfl (Pt (aJ c0) rfl)) dU))))) ?_
   ·refine fu 11 13 10 12 rfl rfl fun _ a w G1 hG HT H fin=>?_;refine vK H (wg H rfl rfl (aJ c0)) rfl rfl ?_;clear H;intro a H;exact fin H iJ rfl
   clear H;intro a w G abo H hv;have H:=H.aU (hv 16 18 rfl rfl) rfl;clear hv;refine aI ⟨rfl,?_⟩;refine K3 _ _ ?_;clear K3;refine BG H rfl (aJ c1) ?_;refine kP H (Kc K2 (SB (SQ fun _ K4=>SQ fun _ K5=>?_)));clear H K2;intro a H;refine dI hmx [[],[0],[0,1],[0,1,2],[],[4],[4,5],[4,5,6],(ra 0 8),(ra 0 9)] [] (by kernel_rfl) [_,_,_,.string s,_,_,_,vi x.i,.int .u8 (jB s x.i),_] H (aG (Z0 rfl (Rm rfl)) (Z1 0 19 rfl (Rk rfl)) (Z1 1 20 rfl (Rf zL rfl)) (Z1 2 21 rfl (Ro gX 0 rfl)) (aG (Z0 rfl (Rm rfl)) (Z1 4 23 rfl (Rk rfl)) (Z1 5 24 rfl (Rf sD rfl)) (Z1 6 25 rfl (Ro aD 0 rfl)) (bG ?_ (bG (Z1 8 27 rfl (Rc rfl)) dU)))) ?_
   ·refine fu 3 22 7 26 rfl rfl fun _ a w G1 hG HT H fin=>?_;refine qQ x.i iO H wn rfl rfl rfl (by omega) rfl ?_;clear H;intro a H;rw [← oC] at H;exact fin H iJ rfl
   clear H;intro a w G qK H hv;have H:=H.aU (hv 9 28 rfl rfl) rfl;clear hv;refine aI ⟨rfl,?_⟩;refine K5 _ _ ?_;clear K5;refine oN H rfl ?_ ?_
   ·intro iE
    try have p28:=dT iE
    refine kP H (SR fun _ K6=>Rm rfl ?_);clear H;intro a H;refine iH aiW (Li:=[]) (L:=za b s x p (.slice vA x.lit.length vc) (.slice qA x.parts.length qc) :: (Lp++Lo)) H wn rfl (aoQ _ Lp Lo _ b s x p _ _ hR (Hp.owns (Li:=[]) H.hp) (by omega) (by omega) (by omega) (by omega) (by omega)) rfl ?_;clear H;rintro v30 Fv L30 a w ⟨p',v',q',sV,kZ,rfl,Qs⟩ Gx H;dsimp only [List.nil_append] at H;have hst:qx s x=qO s x:=au p28;have hok:=aeu s x ⟨by omega,c1⟩ hx1 hx2 hx3
    have hkk:k=(k - 1)+1:=by omega
    have Wj:Fa s (k - 1) (qx s x)=mK s:=by rw [hkk,Fa,au ⟨by omega,c1⟩] at hsc;exact hsc
    rw [← hst] at H Qs;obtain ⟨A30,c30,rfl,-,-⟩:=Qs.buf.shape;obtain ⟨B30,d30,rfl,-,-⟩:=Qs.prt.shape;refine K6 _ _ ?_;clear K6;refine eD ?_;refine dP ((k - 1,qx s x,p',A30,c30,B30,d30,sV,kZ,Fv)) (by exact (H).sub ⟨rfl,av⟩) ?_ ?_
    ·(try dsimp only);exact ⟨Qs,Wj,by omega,by omega,by omega,by omega,by omega,by omega⟩
    first|omega|(dsimp only;omega)
   intro iE
   try have p28:=dF iE
   refine fI ?_;refine K4 _ _ ?_;clear K4;refine aO (fun _ K7=>?_);refine dI hmx [[],[0],[0,1],[],[3],[3,4],[3,4,5],[],[7],[7,8],[7,8,9],(ra 3 8),(ra 0 12)] [12] (by kernel_rfl) [_,_,_,_,_,_,.string s,_,_,_,vi x.i,.int .u8 (jB s x.i)] H (aG (Z0 rfl (Rm rfl)) (Z1 0 31 rfl (Rk rfl)) (Z1 1 32 rfl (Rf Nq rfl)) (Z0 rfl (Rm rfl)) (aG (Z1 3 34 rfl (Rk rfl)) (Z1 4 35 rfl (Rf zL rfl)) (Z1 5 36 rfl (Ro gX 0 rfl)) (Z0 rfl (Rm rfl)) (aG (Z1 7 38 rfl (Rk rfl)) (Z1 8 39 rfl (Rf sD rfl)) (Z1 9 40 rfl (Ro aD 0 rfl)) ?_ (bG (cZ rfl) dU)))) ?_
   ·refine fu 6 37 10 41 rfl rfl fun _ a w G1 hG HT H fin=>?_;refine qQ x.i iO H wn rfl rfl rfl (by omega) rfl ?_;clear H;intro a H;rw [← oC] at H;exact fin H iJ rfl
   clear H;intro a w G Qp H hv;have H:=H.aU (hv 2 33 rfl rfl) rfl;have H:=H.aU (hv 11 42 rfl rfl) rfl;clear hv;refine iH aaB (Li:=[]) (L:=za b s x p (.slice vA x.lit.length vc) (.slice qA x.parts.length qc) :: (Lp++Lo)) H wn rfl (afi _ Lp Lo _ b s x.i p _ qA x.parts.length qc x.pl x.e x.lit.length _ (jB s x.i) hR.ptr (Hp.owns (Li:=[]) H.hp) hR.buf (by omega)) rfl ?_;clear H;rintro v43 _ L43 a w ⟨aud,SV,rfl,acu,rfl⟩ oU H;dsimp only [List.nil_append] at H;obtain ⟨O5,PL,rfl,-,-⟩:=acu.shape;have hst:qx s x=⟨x.i+1,x.lit++[PE s x.i],x.parts,x.pl,x.e⟩:=ah p28;have hok:=aeu s x ⟨by omega,c1⟩ hx1 hx2 hx3
   have hkk:k=(k - 1)+1:=by omega
   have Wj:Fa s (k - 1) (qx s x)=mK s:=by rw [hkk,Fa,au ⟨by omega,c1⟩] at hsc;exact hsc
   have akU:C9 b (qx s x).lit (qx s x).parts (aK b 2) (.slice O5 (qx s x).lit.length PL) (.slice qA (qx s x).parts.length qc) Lp SV:=by
    rw [hst];exact ⟨.inr rfl,by simpa [Lib.byteCells,afS] using acu,hR.prt⟩
   refine aI ⟨rfl,?_⟩;refine K7 _ _ ?_;clear K7;refine kP H (SC (Rm rfl (Rk rfl (aW sD aD 0 rfl rfl (Rd rfl (Rk rfl (Rf sD rfl ?_)))))));clear H;intro a H;refine bO aD 0 (vs:=[_]) _ H wn rfl rfl rfl rfl rfl rfl rfl rfl ?_;clear H;intro w H;dsimp only [List.set,setRow] at H;replace H:St _ _ _ _ _ _ (za b s (qx s x) (aK b 2) (.slice O5 (qx s x).lit.length PL) (.slice qA (qx s x).parts.length qc) :: (Lp++SV)) _ _ _:=H.cast (by rw [hst];simp [za,iZ]);refine aI ?_;refine dP ((k - 1,qx s x,(aK b 2),O5,PL,qA,qc,Lp,SV,_)) (by exact (H).sub ⟨rfl,av⟩) ?_ ?_
   ·(try dsimp only);exact ⟨akU,Wj,by omega,by omega,by omega,by omega,by omega,by omega⟩
   first|omega|(dsimp only;omega)
  skip;refine dI hmx [[],[0],[0,1],[0,1,2],[],[4],[4,5],[4,5,6],(ra 4 4),(ra 0 9),(ra 0 10),(ra 0 11),(ra 0 12),(ra 0 13),(ra 0 14),(ra 0 15),(ra 0 16)] [] (by kernel_rfl) [_,_,_,vi x.i,_,_,_,.string s,_,_,_,_,(aK b 0),_,vi x.e,_,_] H (aG (Z0 rfl (Rm rfl)) (Z1 0 2 rfl (Rk rfl)) (Z1 1 3 rfl (Rf sD rfl)) (Z1 2 4 rfl (Ro aD 0 rfl)) (aG (Z0 rfl (Rm rfl)) (Z1 4 6 rfl (Rk rfl)) (Z1 5 7 rfl (Rf zL rfl)) (Z1 6 8 rfl (Ro gX 0 rfl)) (aG (Z1 7 9 rfl (Rv iO rfl)) (Z2 3 5 8 10 rfl (Rc rfl)) (Z1 9 11 rfl (Rm rfl)) (Z1 10 12 rfl (YM (aJ c0) rfl)) (aG ?_ (Z2 12 14 10 12 rfl (YF Di (aJ c0) rfl)) (Z2 13 15 10 12 rfl (YO jg 0 (aJ c0) rfl)) (Z2 14 16 10 12 rfl (YC (aJ c0) rfl)) (bG (Z2 10 12 15 17 rfl (Pt (aJ c0) rfl)) dU))))) ?_
  ·refine fu 11 13 10 12 rfl rfl fun _ a w G1 hG HT H fin=>?_;refine vK H (wg H rfl rfl (aJ c0)) rfl rfl ?_;clear H;intro a H;exact fin H iJ rfl
  clear H;intro a w G abo H hv;have H:=H.aU (hv 16 18 rfl rfl) rfl;clear hv;refine aI ⟨rfl,?_⟩;refine K3 _ _ ?_;clear K3;refine nW H rfl (aR c1) ?_;refine eD ?_;refine K1 _ _ ?_;clear K1;refine aO (fun _ K8=>?_)
  have WB:x=mK s:=by
   rw [aei (by first|exact fun h=>c0 (by omega)|exact fun h=>c1 h.2)] at hsc;exact hsc
  subst WB;refine kP H (SC (Rm rfl ?_));clear H;intro a H;refine iH TU (Li:=[]) (L:=za b s (mK s) p (.slice vA (mK s).lit.length vc) (.slice qA (mK s).parts.length qc) :: (Lp++Lo)) H wn rfl (UD _ Lp Lo _ b s (mK s).i p _ _ (mK s).pl (mK s).e (mK s).lit (mK s).parts hR (Hp.owns (Li:=[]) H.hp) (by omega) (by omega)) rfl ?_;clear H;rintro v52 Sz L52 a w ⟨p52,ars,q52,afL,afI,rfl,vC⟩ VU H;dsimp only [List.nil_append] at H;obtain ⟨A52,c52,rfl,-,-⟩:=vC.buf.shape;obtain ⟨B52,d52,rfl,-,-⟩:=vC.prt.shape;refine kH H (Kn K8 (SR fun _ K9=>Rm rfl (Rk rfl (aW Di jg 0 rfl rfl (Rc rfl (Rm rfl (Sp 58 rfl ?_ ?_))))))) <;> clear H K8
  ·intro jD a H
   try have p58:=dT jD
   refine kH H (YM jD rfl ?_);clear H;intro a H;refine vK H (wg H rfl rfl jD) rfl rfl ?_;clear H;intro a H;refine kH H (YF Qe jD rfl (YO aD 0 jD rfl (YC jD rfl (Pt jD rfl (Kz K9 (Cd rfl ?_ ?_)))))) <;> clear H K9
   ·intro h64 a H
    try have p64:=dT h64
    refine kP H (SC (Rm rfl (Rk rfl (Rf Di rfl ?_))));clear H;intro a H;refine bO jg 0 (vs:=[_]) _ H wn rfl rfl rfl rfl rfl rfl rfl rfl ?_;clear H;intro w H;dsimp only [List.set,setRow] at H;refine aI ?_;refine (leave0 H results224 ?_).2
    first
     | exact H.hp.gL ⟨_,_,_,_,_,by rw [wF,au ⟨by assumption,by assumption⟩],vC⟩
     | exact H.hp.gL ⟨_,_,_,_,_,by rw [wF,ah (by first|exact fun h=>p58 h.1|exact fun h=>p64 h.2)],vC⟩
   intro h64 a H
   try have p64:=dF h64
   refine fI ?_;refine (leave0 H results224 ?_).2
   first
    | exact H.hp.gL ⟨_,_,_,_,_,by rw [wF,au ⟨by assumption,by assumption⟩],vC⟩
    | exact H.hp.gL ⟨_,_,_,_,_,by rw [wF,ah (by first|exact fun h=>p58 h.1|exact fun h=>p64 h.2)],vC⟩
  intro jD a H
  try have p58:=dF jD
  refine kH H (aT jD rfl (aP jD rfl (Pf jD rfl (Kz K9 (Cf rfl rfl ?_)))));clear H K9;intro a H;refine fI ?_;refine (leave0 H results224 ?_).2
  first
   | exact H.hp.gL ⟨_,_,_,_,_,by rw [wF,au ⟨by assumption,by assumption⟩],vC⟩
   | exact H.hp.gL ⟨_,_,_,_,_,by rw [wF,ah (by first|exact fun h=>p58 h.1|exact fun h=>p64 h.2)],vC⟩
 skip;refine dI hmx [[],[0],[0,1],[0,1,2],[],[4],[4,5],[4,5,6],(ra 4 4),(ra 0 9),(ra 0 10),(ra 0 11),(ra 0 12),(ra 0 13),(ra 0 14),(ra 0 15),(ra 0 16)] [] (by kernel_rfl) [_,_,_,vi x.i,_,_,_,.string s,_,_,_,undef,undef,undef,undef,undef,_] H (aG (Z0 rfl (Rm rfl)) (Z1 0 2 rfl (Rk rfl)) (Z1 1 3 rfl (Rf sD rfl)) (Z1 2 4 rfl (Ro aD 0 rfl)) (aG (Z0 rfl (Rm rfl)) (Z1 4 6 rfl (Rk rfl)) (Z1 5 7 rfl (Rf zL rfl)) (Z1 6 8 rfl (Ro gX 0 rfl)) (aG (Z1 7 9 rfl (Rv iO rfl)) (Z2 3 5 8 10 rfl (Rc rfl)) (Z1 9 11 rfl (Rm rfl)) (bg (j:=10) (by kernel_rfl) (fun _ _ _ _ _ h=>h) rfl rfl rfl rfl rfl (fun _ _ h=>bq h (aL (aR c0))) rfl (fun _=>rfl)) (aG (bg (j:=10) (by kernel_rfl) (fun _ _ _ _ _ h=>h) rfl rfl rfl rfl rfl (fun _ _ h=>bq h (aL (aR c0))) rfl (fun _=>rfl)) (bg (j:=10) (by kernel_rfl) (fun _ _ _ _ _ h=>h) rfl rfl rfl rfl rfl (fun _ _ h=>bq h (aL (aR c0))) rfl (fun _=>rfl)) (bg (j:=10) (by kernel_rfl) (fun _ _ _ _ _ h=>h) rfl rfl rfl rfl rfl (fun _ _ h=>bq h (aL (aR c0))) rfl (fun _=>rfl)) (bg (j:=10) (by kernel_rfl) (fun _ _ _ _ _ h=>h) rfl rfl rfl rfl rfl (fun _ _ h=>bq h (aL (aR c0))) rfl (fun _=>rfl)) (bG (Z2 10 12 15 17 rfl (Pf (aR c0) rfl)) dU))))) ?_
 clear H;intro a w G abo H hv;have H:=H.aU (hv 16 18 rfl rfl) rfl;clear hv;refine aI ⟨rfl,?_⟩;refine K3 _ _ ?_;clear K3;refine nW H rfl rfl ?_;refine eD ?_;refine K1 _ _ ?_;clear K1;refine aO (fun _ aZ=>?_)
 have WB:x=mK s:=by
  rw [aei (by first|exact fun h=>c0 (by omega)|exact fun h=>c1 h.2)] at hsc;exact hsc
 subst WB;refine kP H (SC (Rm rfl ?_));clear H;intro a H;refine iH TU (Li:=[]) (L:=za b s (mK s) p (.slice vA (mK s).lit.length vc) (.slice qA (mK s).parts.length qc) :: (Lp++Lo)) H wn rfl (UD _ Lp Lo _ b s (mK s).i p _ _ (mK s).pl (mK s).e (mK s).lit (mK s).parts hR (Hp.owns (Li:=[]) H.hp) (by omega) (by omega)) rfl ?_;clear H;rintro v52 Sz L52 a w ⟨p52,ars,q52,afL,afI,rfl,vC⟩ VU H;dsimp only [List.nil_append] at H;obtain ⟨A52,c52,rfl,-,-⟩:=vC.buf.shape;obtain ⟨B52,d52,rfl,-,-⟩:=vC.prt.shape;refine kH H (Kn aZ (SR fun _ bN=>Rm rfl (Rk rfl (aW Di jg 0 rfl rfl (Rc rfl (Rm rfl (Sp 58 rfl ?_ ?_))))))) <;> clear H aZ
 ·intro jD a H
  try have p58:=dT jD
  refine kH H (YM jD rfl ?_);clear H;intro a H;refine vK H (wg H rfl rfl jD) rfl rfl ?_;clear H;intro a H;refine kH H (YF Qe jD rfl (YO aD 0 jD rfl (YC jD rfl (Pt jD rfl (Kz bN (Cd rfl ?_ ?_)))))) <;> clear H bN
  ·intro h64 a H
   try have p64:=dT h64
   refine kP H (SC (Rm rfl (Rk rfl (Rf Di rfl ?_))));clear H;intro a H;refine bO jg 0 (vs:=[_]) _ H wn rfl rfl rfl rfl rfl rfl rfl rfl ?_;clear H;intro w H;dsimp only [List.set,setRow] at H;refine aI ?_;refine (leave0 H results224 ?_).2
   first
    | exact H.hp.gL ⟨_,_,_,_,_,by rw [wF,au ⟨by assumption,by assumption⟩],vC⟩
    | exact H.hp.gL ⟨_,_,_,_,_,by rw [wF,ah (by first|exact fun h=>p58 h.1|exact fun h=>p64 h.2)],vC⟩
  intro h64 a H
  try have p64:=dF h64
  refine fI ?_;refine (leave0 H results224 ?_).2
  first
   | exact H.hp.gL ⟨_,_,_,_,_,by rw [wF,au ⟨by assumption,by assumption⟩],vC⟩
   | exact H.hp.gL ⟨_,_,_,_,_,by rw [wF,ah (by first|exact fun h=>p58 h.1|exact fun h=>p64 h.2)],vC⟩
 intro jD a H
 try have p58:=dF jD
 refine kH H (aT jD rfl (aP jD rfl (Pf jD rfl (Kz bN (Cf rfl rfl ?_)))));clear H bN;intro a H;refine fI ?_;refine (leave0 H results224 ?_).2
 first
  | exact H.hp.gL ⟨_,_,_,_,_,by rw [wF,au ⟨by assumption,by assumption⟩],vC⟩
  | exact H.hp.gL ⟨_,_,_,_,_,by rw [wF,ah (by first|exact fun h=>p58 h.1|exact fun h=>p64 h.2)],vC⟩
end
section
open Go.RowKit
def CO (c:Int):List Dat:=[.lf (.int .u8 c)]
theorem aeG {G:GH} {c:Int} {cs:List aj} (h:bH G (CO c) cs):cs=[.int .u8 c]:=by
 simp only [CO,bH,aB] at h
 obtain ⟨_,_,rfl,⟨rfl,_⟩,rfl⟩:=h
 rfl
def Kr (s:ByteArray):List Int:=s.data.toList.map fun b=>(b.toNat:Int)
theorem agn (G:GH) (l:List Int):ji G 1 (l.map CO) (l.map fun c=>Value.int .u8 c):=by
 refine ⟨l.map fun c=>[.int .u8 c],by induction l with|nil=>rfl|cons x r ih=>simp [ih],by simp,fun j r cs hr hc=>?_⟩
 rw [qY] at hr hc
 obtain ⟨x,hx,rfl⟩:=qC.1 hr
 rw [hx] at hc
 cases hc
 exact ⟨by simp only [CO,bH];exact ⟨_,_,rfl,by simp [aB,Value.oneCell'],rfl⟩,rfl⟩
theorem apv {G:GH} {sz b o n cap:Nat} {cur:Array aj} {e:TypeId} {fz:Nat × Nat} {rows:List (List Dat)} (hb:G b=some (.cells cur e fz)) (h:aB (fun k=>if k=b then some (.cells cur e (0,0)) else G k) (.sl sz rows) (.slice (some ⟨b,o,none⟩) n cap)) (hr:∀ r∈rows,∃ c,r=CO c):aB G (.sl sz rows) (.slice (some ⟨b,o,none⟩) n cap):=by
 simp only [aB] at h ⊢
 obtain ⟨A,c,h1,h2,h3,h4⟩:=h
 refine ⟨A,c,h1,h2,h3,fun hn=>?_⟩
 obtain ⟨b',o',e',hrr⟩:=h4 hn
 injection h1 with e1
 subst e1
 injection e' with e2
 injection e2 with e3 e4
 subst e3;subst e4
 refine ⟨_,_,rfl,nU.mk fun k r hk=>?_⟩
 obtain ⟨cs,g1,g2,g3⟩:=hrr.get hk
 refine ⟨cs,g1,fun j u hj=>?_,?_⟩
 ·have:=g2 j u hj
  unfold aH at this ⊢
  simp only [if_true] at this
  rw [hb];exact this
 ·obtain ⟨c,rfl⟩:=hr r (oM hk)
  have:=aeG g3
  subst this
  simp only [CO,bH];exact ⟨_,_,rfl,by simp [aB,Value.oneCell'],rfl⟩
section
variable {N:Nat} {D:List Deferred} {w0:World} {F:Nat→Prop} {G0 G:GH} {L:OL} {T:List (Nat × aj)}
variable {r:Option Nat} {P:Program} {ops:Array Oper} {Q:Exit→Act→World→Prop} {rest:List Oper} {a:Act} {w:World}
variable {d:Nat} {ty:TypeId} {pos:String} {aV:Array Edge} {g:Option (Nat × Bool)}
theorem ari {w:World} {b o n:Nat} {c:Array aj} {e:TypeId} {fz:Nat × Nat} (h:w.heap[b]?=some (.cells c e fz)) (hn:n≠0):∃ IX,yx b (.cells c e IX) w (w.freeze ⟨b,o,none⟩ n):=by
 unfold World.freeze
 rw [ah hn]
 refine ⟨if fz.1 == fz.2 then (o,o+n) else (min fz.1 o,max fz.2 (o+n)),rfl,rfl,rfl,by simp,?_,fun k hk=>?_⟩
 ·simp [Array.getElem?_modify,h]
 ·simp [Array.getElem?_modify,Ne.symm hk]
theorem apM {t u e:TypeId} {x:Operand} {s:ByteArray} (ht:P.underlying t=some .string) (hu:P.underlying u=some (.slice e)) (he:P.underlying e=some (.int .u8)) (H:St N D w0 F G0 G L T a w) (hw:Region.wanted ⟨some d,.convert t u x,ty,pos,aV,g⟩ (yielded ops a.tmps)=true) (hx:ev T x=some (.string s)) (hz:s.size≤4294967296) (hd:Nat.blt d N=true)
  (k:∀ v G' a' w',(∀ k o,G k=some o→G' k=some o)→aB G' (.sl 1 ((Kr s).map CO)) v→St N D w0 F G0 G' L ((d,v) :: T) a' w'→WL r P ops Q rest a' w'):WL r P ops Q (⟨some d,.convert t u x,ty,pos,aV,g⟩ :: rest) a w:=by
 have hc:=Lib.run_convert_string_bytes (P:=P) w t u e s ht hu he
 have hge:=grownCap_ge w s.size 0 e
 have hml:s.size≤maxLen:=by
  have:maxLen=9223372036854775807:=rfl
  omega
 have hgm:=grownCap_le_maxLen w s.size 0 e hml
 have H1:=H.hp.drew.alloc (.cells (Lib.bytesCells w e s) e)
 have hw1:(w.drew.alloc (.cells (Lib.bytesCells w e s) e)).heap[w.drew.heap.size]?=some (.cells (Lib.bytesCells w e s) e (0,0)):=H1.own _ jd
 obtain ⟨fz,hu2⟩:=ari (o:=(Lib.bytesCells w e s).size) (n:=1) hw1 (by decide)
 have H2:=H1.upd (i:=0) rfl hu2
 have H3:St N D w0 F G0 G ((w.heap.size,.cells (Lib.bytesCells w e s) e fz) :: L) ((d,.slice (some ⟨w.heap.size,0,none⟩) s.size (grownCap w s.size 0 e)) :: T) (a.put (some d) (.slice (some ⟨w.heap.size,0,none⟩) s.size (grownCap w s.size 0 e))) (Lib.bytesWorld w e s):=H.put hd _ H2
 obtain ⟨G',hm,hb,H4⟩:=H3.fD
 have hlen:(Kr s).length=s.size:=by rw [Kr,bZ,Az];rfl
 have hrep:aB G' (.sl 1 ((Kr s).map CO)) (.slice (some ⟨w.heap.size,0,none⟩) s.size (grownCap w s.size 0 e)):=by
  refine apv hb ?_ (fun r hr=>by obtain ⟨c,-,rfl⟩:=List.mem_map.1 hr;exact ⟨c,rfl⟩)
  refine aB.fZ (cur:=Lib.bytesCells w e s) (e:=e) (n:=s.size) (cap:=grownCap w s.size 0 e) (by simp) (by rw [bZ,hlen]) hge hgm ?_ (agn _ _)
  rw [Lib.bytesCells,Array.toList_append,Nat.mul_one,List.take_left' (by rw [Array.toList_map,bZ,Az];rfl)]
  simp [Kr]
 have k2:=k _ _ _ _ hm hrep H4
 refine iB (v:=.slice (some ⟨w.heap.size,0,none⟩) s.size (grownCap w s.size 0 e)) (w':=Lib.bytesWorld w e s) hw rfl ?_ k2
 simp only [execOp,H.ev hx,fG,hc,oq,uR]
theorem aec {t yt:TypeId} {x y:Operand} {p q:ByteArray} (H:St N D w0 F G0 G L T a w) (hw:Region.wanted ⟨some d,.binOp .lss t x y yt,ty,pos,aV,g⟩ (yielded ops a.tmps)=true) (hx:ev T x=some (.string p)) (hy:ev T y=some (.string q)) (hd:Nat.blt d N=true)
  (k:∀ a',St N D w0 F G0 G L ((d,.bool (Op.bytesLess p.toList q.toList)) :: T) a' w→WL r P ops Q rest a' w):WL r P ops Q (⟨some d,.binOp .lss t x y yt,ty,pos,aV,g⟩ :: rest) a w:=by
 refine iB (v:=.bool (Op.bytesLess p.toList q.toList)) (w':=w) hw rfl ?_ (k _ (H.put hd _ H.hp))
 simp [execOp,H.ev hx,H.ev hy,fG,eqGuard,binOp,Op.stringOp]
end
end
section
open Go.RowKit
theorem aiV:∀ args w,(callFunc 233 args).run prog w=.ok (.enter 233 args) w:=enters func233 rfl (by kernel_rfl)
theorem aiS:∀ args w,(callFunc 224 args).run prog w=.ok (.enter 224 args) w:=enters func224 rfl (by kernel_rfl)
theorem aiQ:∀ args w,(callFunc 222 args).run prog w=.ok (.enter 222 args) w:=enters func222 rfl (by kernel_rfl)
theorem aqC:uP prog 321 [(0,1),(1,1),(2,2),(4,1),(5,1),(6,1)] [.string ⟨#[]⟩,.int .i64 0,.pointer none,.slice none 0 0,.slice none 0 0,.int .i64 0,.int .i64 0]:=⟨by kernel_rfl,by kernel_rfl⟩
theorem aiT:∀ args w,(callFunc 225 args).run prog w=.ok (.enter 225 args) w:=enters func225 rfl (by kernel_rfl)
theorem akb:dV prog 293 1 1:=⟨by kernel_rfl⟩
theorem aiw:∀ args w,(callFunc 192 args).run prog w=.ok (.enter 192 args) w:=enters func192 rfl (by kernel_rfl)
theorem aix:∀ args w,(callFunc 193 args).run prog w=.ok (.enter 193 args) w:=enters func193 rfl (by kernel_rfl)
theorem aiR:∀ args w,(callFunc 223 args).run prog w=.ok (.enter 223 args) w:=enters func223 rfl (by kernel_rfl)
theorem aiy:∀ args w,(callFunc 194 args).run prog w=.ok (.enter 194 args) w:=enters func194 rfl (by kernel_rfl)
def Ta (fv:aj) (G:GH) (c:Int) (b:Bool):Prop:=∀ (G1:GH) (w1:World),(∀ b o,G b=some o→G1 b=some o)→Hold G1 w1→yg prog fv [.int .u8 c] w1 (bR w1 G1 fun u G'=>u=.bool b)
theorem anv (G:GH) (w0:World) (hG:Hold G w0) (l:List Int) (p:Int→Bool) (v fv:aj) (hv:aB G (.sl 1 (l.map CO)) v) (hf:∀ c∈l,Ta fv G c (p c)) :
  Calls prog 233 #[v,fv] w0 (bR w0 G fun u G'=>u=vi (rO (l.findIdx? p))):=by
 obtain ⟨A,c,rfl,hc1,hc2,hg⟩:=hv.slice;have hml:maxLen=9223372036854775807:=rfl;rw [bZ] at *;refine eN [(0,_),(1,_)] func233 rfl ntmps233 rfl rfl hG ?_;intro a H;refine kP H (SR fun _ K1=>ak K1 rfl (SQ fun _ K2=>SR fun _ K3=>Rm rfl (Rl J6 rfl (Rm rfl (Kz K3 (SB ?_))))));clear H K1 K3;intro a H;skip;refine fH (ι:=Nat × GH) (Tc:=[(0,_),(1,_),(7,_)]) (Lc:=[]) (fun gh=>[(8,vi gh.1)]) (fun gh=>[]) (fun gh=>gh.2) (fun gh=>gh.1≤l.length∧(l.take gh.1).findIdx? p=none∧(∀ b o,G b=some o→gh.2 b=some o)) (fun gh=>l.length - gh.1) ((0,G)) (by exact (H).sub ⟨rfl,rfl,rfl,rfl,av⟩) ?_ ?_
 ·exact ⟨by omega,rfl,fun _ _ h=>h⟩
 clear H;intro gh a w hI H;obtain ⟨k,g⟩:=gh;dsimp only at hI H;obtain ⟨hk,hno,hgm⟩:=hI;dsimp only [lca,aS] at H;refine kP H (SR fun _ K4=>Rc rfl (Kz K4 (SQ fun _ K5=>Cd rfl ?_ ?_))) <;> clear H K4
 ·intro h9 a H
  try have p9:=dT h9
  have hk2:k < l.length:=by omega
  obtain ⟨b,o,cs,rfl,hcl,hrow,hr⟩:=hg k (CO l[k]) (by simp [hk2]);obtain rfl:=aeG hr
  have hcell:aH G b (o+k*1)=some (.int .u8 l[k]):=by simpa using hrow 0 _ rfl
  refine kP H (Kc K5 (SQ fun _ K6=>SB (SR fun _ K7=>Rm rfl (ak K7 rfl (SR fun _ K8=>Rm rfl (Rm rfl (Rm rfl (Ri J6 R9 rfl rfl (Rg R9 rfl (aF hgm hcell) ?_)))))))));clear H K5 K7;intro a H;refine qP H wn rfl rfl (hf _ (jr hk2) _ _ hgm H.ro) rfl ?_;clear H;rintro v16 Aq a w rfl AY H;refine K8 _ _ ?_;clear K8;refine oN H rfl ?_ ?_
  ·intro h16
   try have p16:=dT h16
   refine kP H (SR fun _ K9=>Rm rfl (ak K9 rfl ?_));clear H K9;intro a H;refine lr H results233 rfl ?_
   first
    | exact H.rt (by rw [zW hk2 hno h16];rfl)
    | exact H.rt (by rw [show l.take k=l from kF (by omega)] at hno;rw [hno];rfl)
  intro h16
  try have p16:=dF h16
  refine kP H (Kc K6 (SC (Rd rfl (Rm rfl ?_))));clear H K6;intro a H;refine aI ?_;refine dP ((k+1,Aq)) (by exact (H).sub ⟨rfl,rfl,rfl,rfl,av⟩) ?_ ?_
  ·(try dsimp only);exact ⟨by omega,JB hk2 hno h16,fun b o h=>AY b o (hgm b o h)⟩
  first|omega|(dsimp only;omega)
 intro h9 a H
 try have p9:=dF h9
 refine eD ?_;refine K2 _ _ ?_;clear K2;refine kP H (SR fun _ aZ=>ak aZ rfl ?_);clear H aZ;intro a H;refine lr H results233 rfl ?_
 first
  | exact H.rt (by rw [zW hk2 hno h16];rfl)
  | exact H.rt (by rw [show l.take k=l from kF (by omega)] at hno;rw [hno];rfl)
theorem WQ (o:Option Nat):decide (0≤rO o)=o.isSome:=by cases o <;> simp [rO]
theorem aho (G:GH) (w0:World) (hG:Hold G w0) (l:List Int) (p:Int→Bool) (v fv:aj) (hv:aB G (.sl 1 (l.map CO)) v) (hf:∀ c∈l,Ta fv G c (p c)) :
  Calls prog 222 #[v,fv] w0 (bR w0 G fun u G'=>u=.bool (l.findIdx? p).isSome):=by
 obtain ⟨A,c,rfl,hc1,hc2,-⟩:=hv.slice;rw [bZ] at *;refine eN [(0,_),(1,_)] func222 rfl ntmps222 rfl rfl hG ?_;intro a H;refine kP H (SR fun _ K1=>ak K1 rfl (SR fun _ K2=>Rm rfl (Rm rfl ?_)));clear H K1;intro a H;refine s_call aiV H wn rfl (anv _ _ H.ro l p _ _ hv hf) rfl ?_;clear H;rintro v7 G7 a w rfl uJ H;exact kH H (Rc rfl (ak K2 rfl (LR results222 rfl fun H=>H.rt (aL (WQ _)))))
def MZ (c:Int):Bool:=decide (c < 32) || decide (c=127)
theorem ahq (G:GH) (c:Int):Ta (.func (.func 223) #[] #[]) G c (MZ c):=by
 intro G1 w0 hm hG;refine mU (caps:=[]) aiR ?_;refine eN [(0,_)] func223 rfl ntmps223 rfl rfl hG ?_;intro a H;refine kP H (SR fun _ K1=>ak K1 rfl (SR fun _ K2=>Rm rfl (Rc rfl (Rm rfl (Sp 5 rfl ?_ ?_))))) <;> clear H K1
 ·intro h5 a H
  try have p5:=dT h5
  exact kH H (aP h5 rfl (Pt h5 rfl (ak K2 rfl (LR results223 rfl fun H=>H.rt (aL (by unfold MZ;first|(simp_all;done)|(simp_all;omega)))))))
 intro h5 a H
 try have p5:=dF h5
 exact kH H (YM h5 rfl (YC h5 rfl (Pf h5 rfl (ak K2 rfl (LR results223 rfl fun H=>H.rt (aL (by unfold MZ;first|(simp_all;done)|(simp_all;omega))))))))
def Ad (t:ByteArray):Int:=if 64 < t.size then 10 else if rV t=false then 12 else if ((Kr t).findIdx? MZ).isSome=true then 5 else wF (mK t)
def Bj (t:ByteArray):List kE:=if Ad t=0 then wX (mK t).lit (mK t).parts else []
theorem anQ (G:GH) (l:List kE):ji G 3 (l.map kE.dat) (GL l):=by
 refine ⟨l.map kE.cells,rfl,by simp,fun j r cs hr hc=>?_⟩;rw [qY] at hr hc;obtain ⟨x,hx,rfl⟩:=qC.1 hr;rw [hx] at hc
 cases hc
 exact ⟨adf G x,rfl⟩
theorem aoP (G:GH) (w0:World) (hG:Hold G w0) (t:ByteArray) (ht:t.size < 4611686018427387904) :
  Calls prog 192 #[.string t] w0 (bR w0 G fun u G'=>∃ x,u=.tuple #[x,vi (Ad t)]∧aB G' (.sl 3 ((Bj t).map kE.dat)) x):=by
 refine eN [(0,_)] func192 rfl ntmps192 rfl rfl hG ?_;intro a H;refine kP H (SR fun _ K1=>Ra rfl (ak K1 rfl (SQ fun _ K2=>SB (SR fun _ K3=>Rm rfl (Rv iO rfl (Rc rfl (ak K3 rfl (Cd rfl ?_ ?_)))))))) <;> clear H K1 K3
 ·intro h5 a H
  try have p5:=dT h5
  refine aO (fun _ K4=>?_)
  have he:Ad t=10:=by rw [Ad,au (by omega)]
  refine kP H (SC (Ra rfl (aM K4 rfl ?_)));clear H K4;intro a H;refine dM ?_;refine (gN H results192 (.cons (bP H rfl) (.cons (bP H rfl) .nil)) ?_).1
  first
   | exact H.rt ⟨_,by rw [he0],by rw [Bj,au he0];exact hrep⟩
   | exact H.rt ⟨_,by rw [he],by rw [Bj,ah (by rw [he];first|decide|assumption)];exact aB.jP rfl (by decide)⟩
 intro h5 a H
 try have p5:=dF h5
 refine kP H (SR fun _ K5=>Rm rfl ?_);clear H;intro a H;refine s_call FU H wn rfl (Ho _ _ H.ro t ht) rfl ?_;clear H;rintro v11 _ a w ⟨rfl,rfl⟩ - H;refine kH H (Rn rfl (ak K5 rfl (Cd rfl ?_ ?_))) <;> clear H K5
 ·intro h9 a H
  try have p9:=dT h9
  refine aO (fun _ K6=>?_)
  have he:Ad t=12:=by rw [Ad,ah (by omega),au (by simpa using h9)]
  refine kP H (SC (Ra rfl (aM K6 rfl ?_)));clear H K6;intro a H;refine dM ?_;refine (gN H results192 (.cons (bP H rfl) (.cons (bP H rfl) .nil)) ?_).1
  first
   | exact H.rt ⟨_,by rw [he0],by rw [Bj,au he0];exact hrep⟩
   | exact H.rt ⟨_,by rw [he],by rw [Bj,ah (by rw [he];first|decide|assumption)];exact aB.jP rfl (by decide)⟩
 intro h9 a H
 try have p9:=dF h9
 refine kP H (SR fun _ K7=>Rm rfl ?_);clear H;intro a H;refine apM iO J6 OX H wn rfl (by omega) rfl ?_;clear H;intro v15 HY a w zQ acy H;obtain ⟨A15,c15,rfl,-,-,-⟩:=acy.slice;refine s_call aiQ H wn rfl (aho _ _ H.ro _ MZ _ _ acy (fun c _=>ahq _ c)) rfl ?_;clear H;rintro v16 Aq a w rfl AY H;refine kH H (ak K7 rfl (Cd rfl ?_ ?_)) <;> clear H K7
 ·intro fP a H
  try have qN:=dT fP
  refine aO (fun _ K8=>?_)
  have he:Ad t=5:=by rw [Ad,ah (by omega),ah (by simpa using h9),au fP]
  refine kP H (SC (Ra rfl (aM K8 rfl ?_)));clear H K8;intro a H;refine dM ?_;refine (gN H results192 (.cons (bP H rfl) (.cons (bP H rfl) .nil)) ?_).1
  first
   | exact H.rt ⟨_,by rw [he0],by rw [Bj,au he0];exact hrep⟩
   | exact H.rt ⟨_,by rw [he],by rw [Bj,ah (by rw [he];first|decide|assumption)];exact aB.jP rfl (by decide)⟩
 intro fP a H
 try have qN:=dF fP
 refine kP H (Kc K2 (SR fun _ K9=>Rm rfl ?_));clear H K2;intro a H;refine lY aqC [_,_,_,_,_,_,_] H wn rfl rfl rfl rfl ?_;clear H;intro a H;refine eU (cs:=[_,_,_,_,_,_,_]) H wn rfl rfl rfl ?_;clear H;intro b19 a w asy H;refine kH H (ak K9 rfl (SQ fun _ aZ=>SR fun _ bN=>Rm rfl ?_));clear H K9;intro a H;refine iH aiS (Li:=[]) (L:=[za b19 t DZ (.pointer none) (.slice none 0 0) (.slice none 0 0)]) H wn rfl (apZ _ [] [] _ b19 t _ _ _ ⟨.inl rfl,iP.nil,iP.nil⟩ (Hp.owns (Li:=[]) H.hp) (by omega)) rfl ?_;clear H;rintro v21 YD L21 a w ⟨p',v',q',sV,kZ,rfl,Vo⟩ EP H;dsimp only [List.nil_append] at H;obtain ⟨A21,c21,rfl,-,-⟩:=Vo.buf.shape;obtain ⟨B21,d21,rfl,-,-⟩:=Vo.prt.shape;refine bN _ _ ?_;clear bN;refine aO (fun _ bQ=>?_)
 have he:Ad t=wF (mK t):=by rw [Ad,ah (by omega),ah (by simpa using h9),ah (by simp [fP])]
 refine kP H (SC (Rm rfl (Rk rfl (aW Di jg 0 rfl rfl (Rc rfl (Kn bQ (Cd rfl ?_ ?_))))))) <;> clear H bQ
 ·intro fV a H
  try have p26:=dT fV
  refine aO (fun _ bT=>?_);have H:=H.sub (T':=[(4,_)]) ⟨rfl,av⟩;refine dI hmx [[],[0],[0,1],[0,1,2],[],(ra 0 5)] [] (by kernel_rfl) [_,_,_,vi (wF (mK t)),_,_] H (aG (Z0 rfl (Rm rfl)) (Z1 0 27 rfl (Rk rfl)) (Z1 1 28 rfl (Rf Di rfl)) (Z1 2 29 rfl (Ro jg 0 rfl)) (bG (Z0 rfl (Ra rfl)) (bG (Z1 3 30 rfl (Ra rfl)) dU))) ?_
  clear H;intro a w G sH H hv;have H:=H.aU (hv 4 2 rfl rfl) rfl;have H:=H.aU (hv 5 3 rfl rfl) rfl;clear hv;refine aI ⟨rfl,?_⟩;refine bT _ _ ?_;clear bT;refine dM ?_;refine (gN H results192 (.cons (bP H rfl) (.cons (bP H rfl) .nil)) ?_).1
  first
   | exact H.rt ⟨_,by rw [he0],by rw [Bj,au he0];exact hrep⟩
   | exact H.rt ⟨_,by rw [he],by rw [Bj,ah (by rw [he];first|decide|assumption)];exact aB.jP rfl (by decide)⟩
 intro fV a H
 try have p26:=dF fV
 refine fI ?_;refine aZ _ _ ?_;clear aZ;refine aO (fun _ cu=>?_)
 have he0:Ad t=0:=by rw [he];omega
 have H:=(St.cast H (show _=[_]++(sV++kZ) from rfl)).perm (List.Perm.append_left _ Da);have H:=St.un H;obtain ⟨Gr,hmr,hrep,H⟩:=St.zM (Li:=[_]++kZ) (Lo:=sV) H Vo.prt (rows:=(wX (mK t).lit (mK t).parts).map kE.dat) (by simp) (anQ _ _);dsimp only [lca,aS] at H;refine kP H (SC (Rm rfl (Rk rfl (aW Nr OT 0 rfl rfl (Ra rfl (aM cu rfl ?_))))));clear H cu;intro a H;refine dM ?_;refine (gN H results192 (.cons (bP H rfl) (.cons (bP H rfl) .nil)) ?_).1
 first
  | exact H.rt ⟨_,by rw [he0],by rw [Bj,au he0];exact hrep⟩
  | exact H.rt ⟨_,by rw [he],by rw [Bj,ah (by rw [he];first|decide|assumption)];exact aB.jP rfl (by decide)⟩
structure rY where
 fmt:Int
 start:Int
 CK:ByteArray
 restart:Int
def rY.dat (x:rY):List Dat:=[li x.fmt,li x.start,.lf (.string x.CK),li x.restart]
abbrev rY.cells (x:rY):List aj:=[vi x.fmt,vi x.start,.string x.CK,vi x.restart]
theorem anS {G:GH} {x:rY} {cs:List aj} (h:bH G x.dat cs):cs=x.cells:=by
 simp only [rY.dat,bH,aB] at h
 obtain ⟨_,_,rfl,⟨rfl,_⟩,_,_,rfl,⟨rfl,_⟩,_,_,rfl,⟨rfl,_⟩,_,_,rfl,⟨rfl,_⟩,rfl⟩:=h
 rfl
theorem anu (G:GH) (w0:World) (hG:Hold G w0) (l:List kE) (p:kE→Bool) (v fv:aj) (hv:aB G (.sl 3 (l.map kE.dat)) v) (hf:∀ x∈l,wP fv G x.dat (p x)) :
  Calls prog 225 #[v,fv] w0 (bR w0 G fun u G'=>u=vi (rO (l.findIdx? p))):=by
 obtain ⟨A,c,rfl,hc1,hc2,hg⟩:=hv.slice;have hml:maxLen=9223372036854775807:=rfl;rw [bZ] at *;refine eN [(0,_),(1,_)] func225 rfl ntmps225 rfl rfl hG ?_;intro a H;refine kP H (SR fun _ K1=>ak K1 rfl (SQ fun _ K2=>SR fun _ K3=>Rm rfl (Rl Me rfl (Rm rfl (Kz K3 (SB ?_))))));clear H K1 K3;intro a H;skip;refine fH (ι:=Nat × GH) (Tc:=[(0,_),(1,_),(7,_)]) (Lc:=[]) (fun gh=>[(8,vi gh.1)]) (fun gh=>[]) (fun gh=>gh.2) (fun gh=>gh.1≤l.length∧(l.take gh.1).findIdx? p=none∧(∀ b o,G b=some o→gh.2 b=some o)) (fun gh=>l.length - gh.1) ((0,G)) (by exact (H).sub ⟨rfl,rfl,rfl,rfl,av⟩) ?_ ?_
 ·exact ⟨by omega,rfl,fun _ _ h=>h⟩
 clear H;intro gh a w hI H;obtain ⟨k,g⟩:=gh;dsimp only at hI H;obtain ⟨hk,hno,hgm⟩:=hI;dsimp only [lca,aS] at H;refine kP H (SR fun _ K4=>Rc rfl (Kz K4 (SQ fun _ K5=>Cd rfl ?_ ?_))) <;> clear H K4
 ·intro h9 a H
  try have p9:=dT h9
  have hk2:k < l.length:=by omega
  obtain ⟨b,o,cs,rfl,hcl,hrow,hr⟩:=hg k l[k].dat (by simp [hk2]);obtain rfl:=ade hr;refine kP H (Kc K5 (SQ fun _ K6=>SB (SR fun _ K7=>Rm rfl (ak K7 rfl (SR fun _ K8=>Rm rfl (Rm rfl (Rm rfl (Ri Me Md rfl rfl ?_))))))));clear H K5 K7;intro a H;refine bD Md (cs:=l[k].cells) H wn rfl rfl (fun j v hj=>H.hp.aH (aF hgm (hrow j v hj))) rfl ?_;clear H;intro a H;refine qP H wn rfl rfl (hf _ (jr hk2) _ _ _ hgm H.ro (adf _ l[k])) rfl ?_;clear H;rintro v16 Aq a w rfl AY H;refine K8 _ _ ?_;clear K8;refine oN H rfl ?_ ?_
  ·intro h16
   try have p16:=dT h16
   refine kP H (SR fun _ K9=>Rm rfl (ak K9 rfl ?_));clear H K9;intro a H;refine lr H results225 rfl ?_
   first
    | exact H.rt (by rw [zW hk2 hno h16];rfl)
    | exact H.rt (by rw [show l.take k=l from kF (by omega)] at hno;rw [hno];rfl)
  intro h16
  try have p16:=dF h16
  refine kP H (Kc K6 (SC (Rd rfl (Rm rfl ?_))));clear H K6;intro a H;refine aI ?_;refine dP ((k+1,Aq)) (by exact (H).sub ⟨rfl,rfl,rfl,rfl,av⟩) ?_ ?_
  ·(try dsimp only);exact ⟨by omega,JB hk2 hno h16,fun b o h=>AY b o (hgm b o h)⟩
  first|omega|(dsimp only;omega)
 intro h9 a H
 try have p9:=dF h9
 refine eD ?_;refine K2 _ _ ?_;clear K2;refine kP H (SR fun _ aZ=>ak aZ rfl ?_);clear H aZ;intro a H;refine lr H results225 rfl ?_
 first
  | exact H.rt (by rw [zW hk2 hno h16];rfl)
  | exact H.rt (by rw [show l.take k=l from kF (by omega)] at hno;rw [hno];rfl)
theorem ahn (G:GH) (w0:World) (hG:Hold G w0) (l:List kE) (p:kE→Bool) (v fv:aj) (hv:aB G (.sl 3 (l.map kE.dat)) v) (hf:∀ x∈l,wP fv G x.dat (p x)) :
  Calls prog 193 #[v,fv] w0 (bR w0 G fun u G'=>u=.bool (l.findIdx? p).isSome):=by
 obtain ⟨A,c,rfl,hc1,hc2,-⟩:=hv.slice;rw [bZ] at *;refine eN [(0,_),(1,_)] func193 rfl ntmps193 rfl rfl hG ?_;intro a H;refine kP H (SR fun _ K1=>ak K1 rfl (SR fun _ K2=>Rm rfl (Rm rfl ?_)));clear H K1;intro a H;refine s_call aiT H wn rfl (anu _ _ H.ro l p _ _ hv hf) rfl ?_;clear H;rintro v7 G7 a w rfl uJ H;exact kH H (Rc rfl (ak K2 rfl (LR results193 rfl fun H=>H.rt (aL (WQ _)))))
theorem anT {G:GH} {bl:Nat} {k:Int} (hb:aH G bl 0=some (vi k)) (x:kE):wP (.func (.func 194) #[] #[(aK bl 0)]) G x.dat (decide (k < x.level)):=by
 intro G1 w0 cs hm hG hr;refine mU (caps:=[(aK bl 0)]) aiy ?_;obtain rfl:=ade hr;replace hb:=aF hm hb;refine eN [(0,_),(1,_)] func194 rfl ntmps194 rfl rfl hG ?_;intro a H;refine dz (fun _ K1=>?_);refine eU (cs:=[_,_,_]) H wn rfl rfl rfl ?_;clear H;intro b2 a w hb2 H;refine kH H (ak K1 rfl (SR fun _ K2=>aW akb aD 0 rfl rfl (Rg aD rfl (by assumption) ?_)));clear H K1;intro a H;exact kH H (Rc rfl (ak K2 rfl (LR results194 rfl fun H=>H.rt rfl)))
def DN (t:ByteArray) (k:Int):Int:=if k < 1∨9 < k then 2 else if Ad t=0∧((Bj t).findIdx? fun x=>decide (k < x.level)).isSome=true then 6 else Ad t
theorem anR (G:GH) (w0:World) (hG:Hold G w0) (t:ByteArray) (k:Int) (ht:t.size < 4611686018427387904) :
  Calls prog 131 #[.string t,vi k] w0 (bR w0 G fun u G'=>u=vi (DN t k)):=by
 refine eN [(0,_),(1,_)] func131 rfl ntmps131 rfl rfl hG ?_;intro a H;refine dz (fun _ K1=>?_);refine eU (cs:=[_]) H wn rfl rfl rfl ?_;clear H;intro b3 a w hb3 H;refine kH H (ak K1 rfl (SQ fun _ K2=>SR fun _ K3=>Ro aD 0 rfl (Rc rfl (Rm rfl (Sp 9 rfl ?_ ?_))))) <;> clear H K1
 ·intro h9 a H
  try have p9:=dT h9
  refine kH H (aP h9 rfl (Pt h9 rfl (Kz K3 (Ct rfl rfl (SR fun _ K4=>ak K4 rfl ?_)))));clear H K3 K4;intro a H;refine lr H results131 rfl ?_
  exact H.rt (aC vi (by unfold DN;(repeat' split) <;> first|rfl|(exfalso;simp_all;done)|(exfalso;simp_all;omega)|(simp_all;done)))
 intro h9 a H
 try have p9:=dF h9
 refine kH H (YO aD 0 h9 rfl (YC h9 rfl (Pf h9 rfl (Kz K3 (Cd rfl ?_ ?_))))) <;> clear H K3
 ·intro h12 a H
  try have qM:=dT h12
  refine kP H (SR fun _ K5=>ak K5 rfl ?_);clear H K5;intro a H;refine lr H results131 rfl ?_
  exact H.rt (aC vi (by unfold DN;(repeat' split) <;> first|rfl|(exfalso;simp_all;done)|(exfalso;simp_all;omega)|(simp_all;done)))
 intro h12 a H
 try have qM:=dF h12
 refine fI ?_;refine K2 _ _ ?_;clear K2;refine aO (fun _ K6=>?_);obtain ⟨Ga,hma,Ja,H⟩:=H.fD
 have hbk:aH Ga b3 0=some (vi k):=by unfold aH;rw [Ja];rfl
 refine kP H (SC (Rm rfl ?_));clear H;intro a H;refine s_call aiw H wn rfl (aoP _ _ H.ro t ht) rfl ?_;clear H;rintro v15 HY a w ⟨x15,rfl,acE⟩ zQ H;obtain ⟨A15,c15,rfl,-,-,-⟩:=acE.slice;replace hbk:=aF zQ hbk;refine kH H (Rm rfl ?_);clear H;intro a H;(iterate 2 refine lD H wn rfl rfl rfl ?_;clear H;intro a H);refine kH H (Ra rfl (aM K6 rfl (SQ fun _ K7=>SR fun _ K8=>Rm rfl (Rc rfl (Rm rfl (Sp 20 rfl ?_ ?_)))))) <;> clear H K6
 ·intro h20 a H
  try have rP:=dT h20
  refine kH H (YM h20 rfl ?_);clear H;intro a H;refine qR H (wg H rfl rfl h20) rfl rfl ?_;clear H;intro a H;refine s_call aix H (wg H rfl rfl h20) rfl (ahn _ _ H.ro _ (fun x=>decide (k < x.level)) _ _ acE (fun x _=>anT hbk x)) rfl ?_;clear H;rintro v23 G23 a w rfl alX H;refine kH H (Pt h20 rfl (Kz K8 (Cd rfl ?_ ?_))) <;> clear H K8
  ·intro eP a H
   try have nA:=dT eP
   refine kP H (SC (aM K7 rfl (SR fun _ K9=>Rm rfl (ak K9 rfl ?_))));clear H K7 K9;intro a H;refine lr H results131 rfl ?_
   exact H.rt (aC vi (by unfold DN;(repeat' split) <;> first|rfl|(exfalso;simp_all;done)|(exfalso;simp_all;omega)|(simp_all;done)))
  intro eP a H
  try have nA:=dF eP
  refine kP H (Kc K7 (SR fun _ aZ=>Rm rfl (ak aZ rfl ?_)));clear H K7 aZ;intro a H;refine lr H results131 rfl ?_
  exact H.rt (aC vi (by unfold DN;(repeat' split) <;> first|rfl|(exfalso;simp_all;done)|(exfalso;simp_all;omega)|(simp_all;done)))
 intro h20 a H
 try have rP:=dF h20
 refine kH H (aT h20 rfl (Pf h20 rfl (Kz K8 (Cf rfl rfl (Kc K7 (SR fun _ bN=>Rm rfl (ak bN rfl ?_)))))));clear H K8 K7 bN;intro a H;refine lr H results131 rfl ?_
 exact H.rt (aC vi (by unfold DN;(repeat' split) <;> first|rfl|(exfalso;simp_all;done)|(exfalso;simp_all;omega)|(simp_all;done)))
end
section
open Go.RowKit
theorem R6:Ty prog 102 4 40 [.int .i64 0,.int .i64 0,.string ⟨#[]⟩,.int .i64 0] true:=⟨by kernel_rfl,by kernel_rfl⟩
theorem OU:prog.underlying 103=some (.slice 102):=by kernel_rfl
theorem aaS:dV prog 102 0 0:=⟨by kernel_rfl⟩
theorem aaT:dV prog 102 1 1:=⟨by kernel_rfl⟩
theorem ajS:dV prog 102 2 2:=⟨by kernel_rfl⟩
theorem ahN:∀ args w,(callFunc 131 args).run prog w=.ok (.enter 131 args) w:=enters func131 rfl (by kernel_rfl)
theorem aaU:dV prog 102 3 3:=⟨by kernel_rfl⟩
def Iu:Nat→List rY→Int
 | _,[]=>0
 | i,x :: r=>if x.fmt < 1∨7 < x.fmt then 3 else if x.start < 0∨32767 < x.start then 2 else if DN x.CK ((i+1:Nat):Int)≠0 then DN x.CK ((i+1:Nat):Int) else if x.restart < 0∨(i:Int) < x.restart then 5 else Iu (i+1) r
def fC (l:List rY):Int:=if l.length=0 then 11 else if 9 < l.length then 9 else Iu 0 l
theorem kC {l:List rY} {k:Nat} (h:k < l.length):Iu k (l.drop k)=if l[k].fmt < 1∨7 < l[k].fmt then 3 else if l[k].start < 0∨32767 < l[k].start then 2 else if DN l[k].CK ((k+1:Nat):Int)≠0 then DN l[k].CK ((k+1:Nat):Int) else if l[k].restart < 0∨(k:Int) < l[k].restart then 5 else Iu (k+1) (l.drop (k+1)):=by
 rw [kR h,Iu]
theorem ZY (G:GH) (w0:World) (hG:Hold G w0) (l:List rY) (v:aj) (hv:aB G (.sl 4 (l.map rY.dat)) v) (ht:∀ x∈l,x.CK.size < 4611686018427387904) :
  Calls prog 57 #[v] w0 (bR w0 G fun u G'=>u=vi (fC l)):=by
 obtain ⟨A,c,rfl,hc1,hc2,hg⟩:=hv.slice;have hml:maxLen=9223372036854775807:=rfl;rw [bZ] at *;refine eN [(0,_)] func57 rfl ntmps57 rfl rfl hG ?_;intro a H;refine kP H (SR fun _ K1=>ak K1 rfl (SQ fun _ K2=>SB (SR fun _ K3=>Rm rfl (Rl OU rfl (Rc rfl (ak K3 rfl (Cd rfl ?_ ?_))))))) <;> clear H K1 K3
 ·intro h6 a H
  try have p6:=dT h6
  refine kP H (SR fun _ K4=>ak K4 rfl ?_);clear H K4;intro a H;refine lr H results57 rfl ?_
  first
   | exact H.rt (aC vi (by rw [fC,au (by omega)]))
   | exact H.rt (aC vi (by rw [fC,ah (by omega),au (by omega)]))
   | exact H.rt (aC vi (by rw [fC,ah (by omega),ah (by omega),← he,kC hk2,au (by omega)]))
   | exact H.rt (aC vi (by rw [fC,ah (by omega),ah (by omega),← he,kC hk2,ah (by omega),au (by omega)]))
   | exact H.rt (aC vi (by rw [fC,ah (by omega),ah (by omega),← he,kC hk2,ah (by omega),ah (by omega),au p45]))
   | exact H.rt (aC vi (by rw [fC,ah (by omega),ah (by omega),← he,kC hk2,ah (by omega),ah (by omega),ah p45,au (by omega)]))
   | exact H.rt (aC vi (by rw [fC,ah (by omega),ah (by omega),← he,gy (by omega)];rfl))
 intro h6 a H
 try have p6:=dF h6
 refine kP H (SR fun _ K5=>Rm rfl (Rl OU rfl (Rc rfl (ak K5 rfl (Cd rfl ?_ ?_))))) <;> clear H K5
 ·intro h10 a H
  try have mX:=dT h10
  refine kP H (SR fun _ K6=>ak K6 rfl ?_);clear H K6;intro a H;refine lr H results57 rfl ?_
  first
   | exact H.rt (aC vi (by rw [fC,au (by omega)]))
   | exact H.rt (aC vi (by rw [fC,ah (by omega),au (by omega)]))
   | exact H.rt (aC vi (by rw [fC,ah (by omega),ah (by omega),← he,kC hk2,au (by omega)]))
   | exact H.rt (aC vi (by rw [fC,ah (by omega),ah (by omega),← he,kC hk2,ah (by omega),au (by omega)]))
   | exact H.rt (aC vi (by rw [fC,ah (by omega),ah (by omega),← he,kC hk2,ah (by omega),ah (by omega),au p45]))
   | exact H.rt (aC vi (by rw [fC,ah (by omega),ah (by omega),← he,kC hk2,ah (by omega),ah (by omega),ah p45,au (by omega)]))
   | exact H.rt (aC vi (by rw [fC,ah (by omega),ah (by omega),← he,gy (by omega)];rfl))
 intro h10 a H
 try have mX:=dF h10
 refine kP H (Kc K2 (SQ fun _ K7=>SR fun _ K8=>Rm rfl (Rl OU rfl (Rm rfl (Kz K8 (SB ?_))))));clear H K2 K8;intro a H;skip;refine fH (ι:=Nat × GH) (Tc:=[(14,_),(15,_)]) (Lc:=[]) (fun gh=>[(16,vi gh.1)]) (fun gh=>[]) (fun gh=>gh.2) (fun gh=>gh.1≤l.length∧Iu gh.1 (l.drop gh.1)=Iu 0 l∧(∀ b o,G b=some o→gh.2 b=some o)) (fun gh=>l.length - gh.1) ((0,G)) (by exact (H).sub ⟨rfl,rfl,rfl,av⟩) ?_ ?_
 ·exact ⟨iK _,rfl,fun _ _ h=>h⟩
 clear H;intro gh a w hI H;obtain ⟨k,g⟩:=gh;dsimp only at hI H;obtain ⟨hk,he,hgm⟩:=hI;dsimp only [lca,aS] at H;refine kP H (SR fun _ K9=>Rc rfl (Kz K9 (SQ fun _ aZ=>Cd rfl ?_ ?_))) <;> clear H K9
 ·intro dS a H
  try have mJ:=dT dS
  have hk2:k < l.length:=by omega
  obtain ⟨b,o,cs,rfl,hcl,hrow,hr⟩:=hg k l[k].dat (by simp [hk2]);obtain rfl:=anS hr;refine kP H (Kc aZ (SQ fun _ bN=>SB (SR fun _ bQ=>Rm rfl (Ri OU R6 rfl rfl ?_))));clear H aZ;intro a H;refine bD R6 (cs:=l[k].cells) H wn rfl rfl (fun j v hj=>H.hp.aH (aF hgm (hrow j v hj))) rfl ?_;clear H;intro a H;refine dR R6 H wn rfl ?_;clear H;intro b4 a w hb4 H;refine kH H (Ra rfl ?_);clear H;intro a H;refine bO R6 0 (vs:=[_,_,_,_]) _ H wn rfl rfl rfl rfl rfl rfl rfl rfl ?_;clear H;intro w H;dsimp only [List.set,setRow] at H;refine bQ _ _ ?_;clear bQ;refine kP H (SQ fun _ bT=>SB (SR fun _ cu=>aW aaS aD 0 rfl rfl (Rc rfl (Rm rfl (Sp 25 rfl ?_ ?_))))) <;> clear H
  ·intro gZ a H
   try have p25:=dT gZ
   refine kH H (aT gZ rfl (Pt gZ rfl (ak cu rfl (Ct rfl rfl (SR fun _ dL=>ak dL rfl ?_)))));clear H cu dL;intro a H;refine lr H results57 rfl ?_
   first
    | exact H.rt (aC vi (by rw [fC,au (by omega)]))
    | exact H.rt (aC vi (by rw [fC,ah (by omega),au (by omega)]))
    | exact H.rt (aC vi (by rw [fC,ah (by omega),ah (by omega),← he,kC hk2,au (by omega)]))
    | exact H.rt (aC vi (by rw [fC,ah (by omega),ah (by omega),← he,kC hk2,ah (by omega),au (by omega)]))
    | exact H.rt (aC vi (by rw [fC,ah (by omega),ah (by omega),← he,kC hk2,ah (by omega),ah (by omega),au p45]))
    | exact H.rt (aC vi (by rw [fC,ah (by omega),ah (by omega),← he,kC hk2,ah (by omega),ah (by omega),ah p45,au (by omega)]))
    | exact H.rt (aC vi (by rw [fC,ah (by omega),ah (by omega),← he,gy (by omega)];rfl))
  intro gZ a H
  try have p25:=dF gZ
  refine kH H (YF aaS gZ rfl (YO aD 0 gZ rfl (YC gZ rfl (Pf gZ rfl (ak cu rfl (Cd rfl ?_ ?_)))))) <;> clear H cu
  ·intro h21 a H
   try have oV:=dT h21
   refine kP H (SR fun _ dO=>ak dO rfl ?_);clear H dO;intro a H;refine lr H results57 rfl ?_
   first
    | exact H.rt (aC vi (by rw [fC,au (by omega)]))
    | exact H.rt (aC vi (by rw [fC,ah (by omega),au (by omega)]))
    | exact H.rt (aC vi (by rw [fC,ah (by omega),ah (by omega),← he,kC hk2,au (by omega)]))
    | exact H.rt (aC vi (by rw [fC,ah (by omega),ah (by omega),← he,kC hk2,ah (by omega),au (by omega)]))
    | exact H.rt (aC vi (by rw [fC,ah (by omega),ah (by omega),← he,kC hk2,ah (by omega),ah (by omega),au p45]))
    | exact H.rt (aC vi (by rw [fC,ah (by omega),ah (by omega),← he,kC hk2,ah (by omega),ah (by omega),ah p45,au (by omega)]))
    | exact H.rt (aC vi (by rw [fC,ah (by omega),ah (by omega),← he,gy (by omega)];rfl))
  intro h21 a H
  try have oV:=dF h21
  refine kP H (SR fun _ dJ=>aW aaT aD 0 rfl rfl (Rc rfl (Rm rfl (Sp 34 rfl ?_ ?_)))) <;> clear H
  ·intro fQ a H
   try have p34:=dT fQ
   refine kH H (aT fQ rfl (Pt fQ rfl (ak dJ rfl (Ct rfl rfl (SR fun _ dW=>ak dW rfl ?_)))));clear H dJ dW;intro a H;refine lr H results57 rfl ?_
   first
    | exact H.rt (aC vi (by rw [fC,au (by omega)]))
    | exact H.rt (aC vi (by rw [fC,ah (by omega),au (by omega)]))
    | exact H.rt (aC vi (by rw [fC,ah (by omega),ah (by omega),← he,kC hk2,au (by omega)]))
    | exact H.rt (aC vi (by rw [fC,ah (by omega),ah (by omega),← he,kC hk2,ah (by omega),au (by omega)]))
    | exact H.rt (aC vi (by rw [fC,ah (by omega),ah (by omega),← he,kC hk2,ah (by omega),ah (by omega),au p45]))
    | exact H.rt (aC vi (by rw [fC,ah (by omega),ah (by omega),← he,kC hk2,ah (by omega),ah (by omega),ah p45,au (by omega)]))
    | exact H.rt (aC vi (by rw [fC,ah (by omega),ah (by omega),← he,gy (by omega)];rfl))
  intro fQ a H
  try have p34:=dF fQ
  refine kH H (YF aaT fQ rfl (YO aD 0 fQ rfl (YC fQ rfl (Pf fQ rfl (ak dJ rfl (Cd rfl ?_ ?_)))))) <;> clear H dJ
  ·intro kG a H
   try have p30:=dT kG
   refine kP H (SR fun _ eG=>ak eG rfl ?_);clear H eG;intro a H;refine lr H results57 rfl ?_
   first
    | exact H.rt (aC vi (by rw [fC,au (by omega)]))
    | exact H.rt (aC vi (by rw [fC,ah (by omega),au (by omega)]))
    | exact H.rt (aC vi (by rw [fC,ah (by omega),ah (by omega),← he,kC hk2,au (by omega)]))
    | exact H.rt (aC vi (by rw [fC,ah (by omega),ah (by omega),← he,kC hk2,ah (by omega),au (by omega)]))
    | exact H.rt (aC vi (by rw [fC,ah (by omega),ah (by omega),← he,kC hk2,ah (by omega),ah (by omega),au p45]))
    | exact H.rt (aC vi (by rw [fC,ah (by omega),ah (by omega),← he,kC hk2,ah (by omega),ah (by omega),ah p45,au (by omega)]))
    | exact H.rt (aC vi (by rw [fC,ah (by omega),ah (by omega),← he,gy (by omega)];rfl))
  intro kG a H
  try have p30:=dF kG
  refine kP H (Kc bT (SQ fun _ eB=>SR fun _ eH=>aW ajS gX 0 rfl rfl (Rm rfl (Rd rfl ?_))));clear H bT;intro a H;rw [show ((k:Int)+1)=((k+1:Nat):Int) from rfl] at H;refine s_call ahN H wn rfl (anR _ _ H.ro l[k].CK ((k+1:Nat):Int) (ht _ (jr hk2))) rfl ?_;clear H;rintro v43 CV a w rfl oU H;refine kH H (ak eH rfl (SR fun _ fO=>Rm rfl (Rc rfl (Kz fO (Cd rfl ?_ ?_))))) <;> clear H eH fO
  ·intro h45 a H
   try have p45:=dT h45
   refine kP H (SR fun _ gJ=>Rm rfl (ak gJ rfl ?_));clear H gJ;intro a H;refine lr H results57 rfl ?_
   first
    | exact H.rt (aC vi (by rw [fC,au (by omega)]))
    | exact H.rt (aC vi (by rw [fC,ah (by omega),au (by omega)]))
    | exact H.rt (aC vi (by rw [fC,ah (by omega),ah (by omega),← he,kC hk2,au (by omega)]))
    | exact H.rt (aC vi (by rw [fC,ah (by omega),ah (by omega),← he,kC hk2,ah (by omega),au (by omega)]))
    | exact H.rt (aC vi (by rw [fC,ah (by omega),ah (by omega),← he,kC hk2,ah (by omega),ah (by omega),au p45]))
    | exact H.rt (aC vi (by rw [fC,ah (by omega),ah (by omega),← he,kC hk2,ah (by omega),ah (by omega),ah p45,au (by omega)]))
    | exact H.rt (aC vi (by rw [fC,ah (by omega),ah (by omega),← he,gy (by omega)];rfl))
  intro h45 a H
  try have p45:=dF h45
  refine kP H (Kc eB (SR fun _ gT=>aW aaU aD 0 rfl rfl (Rc rfl (Rm rfl (Sp 50 rfl ?_ ?_))))) <;> clear H eB
  ·intro h50 a H
   try have p50:=dT h50
   refine kH H (aP h50 rfl (aP h50 rfl (Pt h50 rfl (Kz gT (Ct rfl rfl (SR fun _ gM=>ak gM rfl ?_))))));clear H gT gM;intro a H;refine lr H results57 rfl ?_
   first
    | exact H.rt (aC vi (by rw [fC,au (by omega)]))
    | exact H.rt (aC vi (by rw [fC,ah (by omega),au (by omega)]))
    | exact H.rt (aC vi (by rw [fC,ah (by omega),ah (by omega),← he,kC hk2,au (by omega)]))
    | exact H.rt (aC vi (by rw [fC,ah (by omega),ah (by omega),← he,kC hk2,ah (by omega),au (by omega)]))
    | exact H.rt (aC vi (by rw [fC,ah (by omega),ah (by omega),← he,kC hk2,ah (by omega),ah (by omega),au p45]))
    | exact H.rt (aC vi (by rw [fC,ah (by omega),ah (by omega),← he,kC hk2,ah (by omega),ah (by omega),ah p45,au (by omega)]))
    | exact H.rt (aC vi (by rw [fC,ah (by omega),ah (by omega),← he,gy (by omega)];rfl))
  intro h50 a H
  try have p50:=dF h50
  refine kH H (YF aaU h50 rfl (YO aD 0 h50 rfl (YM h50 rfl (YC h50 rfl (Pf h50 rfl (Kz gT (Cd rfl ?_ ?_))))))) <;> clear H gT
  ·intro nY a H
   try have p55:=dT nY
   refine kP H (SR fun _ jh=>ak jh rfl ?_);clear H jh;intro a H;refine lr H results57 rfl ?_
   first
    | exact H.rt (aC vi (by rw [fC,au (by omega)]))
    | exact H.rt (aC vi (by rw [fC,ah (by omega),au (by omega)]))
    | exact H.rt (aC vi (by rw [fC,ah (by omega),ah (by omega),← he,kC hk2,au (by omega)]))
    | exact H.rt (aC vi (by rw [fC,ah (by omega),ah (by omega),← he,kC hk2,ah (by omega),au (by omega)]))
    | exact H.rt (aC vi (by rw [fC,ah (by omega),ah (by omega),← he,kC hk2,ah (by omega),ah (by omega),au p45]))
    | exact H.rt (aC vi (by rw [fC,ah (by omega),ah (by omega),← he,kC hk2,ah (by omega),ah (by omega),ah p45,au (by omega)]))
    | exact H.rt (aC vi (by rw [fC,ah (by omega),ah (by omega),← he,gy (by omega)];rfl))
  intro nY a H
  try have p55:=dF nY
  refine kP H (Kc bN (SC (Rd rfl (Rm rfl ?_))));clear H bN;intro a H;refine aI ?_;refine dP ((k+1,CV)) (by exact (H.dK (Pl:=[_]) (dw:=[]) [] (by decide) rfl).sub ⟨rfl,rfl,rfl,av⟩) ?_ ?_
  ·(try dsimp only);exact ⟨by omega,by rw [kC hk2,ah (by omega),ah (by omega),ah p45,ah (by omega)] at he;exact he,fun b o h=>oU b o (hgm b o h)⟩
  first|omega|(dsimp only;omega)
 intro dS a H
 try have mJ:=dF dS
 refine eD ?_;refine K7 _ _ ?_;clear K7;refine kP H (SR fun _ jo=>ak jo rfl ?_);clear H jo;intro a H;refine lr H results57 rfl ?_
 first
  | exact H.rt (aC vi (by rw [fC,au (by omega)]))
  | exact H.rt (aC vi (by rw [fC,ah (by omega),au (by omega)]))
  | exact H.rt (aC vi (by rw [fC,ah (by omega),ah (by omega),← he,kC hk2,au (by omega)]))
  | exact H.rt (aC vi (by rw [fC,ah (by omega),ah (by omega),← he,kC hk2,ah (by omega),au (by omega)]))
  | exact H.rt (aC vi (by rw [fC,ah (by omega),ah (by omega),← he,kC hk2,ah (by omega),ah (by omega),au p45]))
  | exact H.rt (aC vi (by rw [fC,ah (by omega),ah (by omega),← he,kC hk2,ah (by omega),ah (by omega),ah p45,au (by omega)]))
  | exact H.rt (aC vi (by rw [fC,ah (by omega),ah (by omega),← he,gy (by omega)];rfl))
end
section
open Go.RowKit
theorem xV:Ty prog 42 1 24 [.slice none 0 0] false:=⟨by kernel_rfl,by kernel_rfl⟩
theorem xW:prog.underlying 42=some (.slice 105):=by kernel_rfl
theorem Ag:Ty prog 105 2 32 [.int .i64 0,.slice none 0 0] true:=⟨by kernel_rfl,by kernel_rfl⟩
theorem Ni:dV prog 105 0 0:=⟨by kernel_rfl⟩
theorem X9:Ty prog 103 1 24 [.slice none 0 0] false:=⟨by kernel_rfl,by kernel_rfl⟩
theorem TI:∀ args w,(callFunc 121 args).run prog w=.ok (.enter 121 args) w:=enters func121 rfl (by kernel_rfl)
theorem Uk:dV prog 105 1 1:=⟨by kernel_rfl⟩
theorem aaJ:∀ args w,(callFunc 57 args).run prog w=.ok (.enter 57 args) w:=enters func57 rfl (by kernel_rfl)
theorem Ky:∀ args w,(callFunc 119 args).run prog w=.ok (.enter 119 args) w:=enters func119 rfl (by kernel_rfl)
theorem ahH:∀ args w,(callFunc 122 args).run prog w=.ok (.enter 122 args) w:=enters func122 rfl (by kernel_rfl)
theorem ahG:∀ args w,(callFunc 120 args).run prog w=.ok (.enter 120 args) w:=enters func120 rfl (by kernel_rfl)
structure eT where
 id:Int
 levels:List rY
def eT.dat (x:eT):List Dat:=[li x.id,.sl 4 (x.levels.map rY.dat)]
structure jI where
 id:Int
 parent:Int
 author:ByteArray
 time:Int
 text:ByteArray
 done:Bool
def jI.dat (x:jI):List Dat:=[li x.id,li x.parent,.lf (.string x.author),li x.time,.lf (.string x.text),.lf (.bool x.done)]
abbrev jI.cells (x:jI):List aj:=[vi x.id,vi x.parent,.string x.author,vi x.time,.string x.text,.bool x.done]
structure oL where
 name:ByteArray
 value:ByteArray
def oL.dat (x:oL):List Dat:=[.lf (.string x.name),.lf (.string x.value)]
abbrev oL.cells (x:oL):List aj:=[.string x.name,.string x.value]
theorem aac {G:GH} {x:jI} {cs:List aj} (h:bH G x.dat cs):cs=x.cells:=by
 simp only [jI.dat,bH,aB] at h
 obtain ⟨_,_,rfl,⟨rfl,_⟩,_,_,rfl,⟨rfl,_⟩,_,_,rfl,⟨rfl,_⟩,_,_,rfl,⟨rfl,_⟩,_,_,rfl,⟨rfl,_⟩,_,_,rfl,⟨rfl,_⟩,rfl⟩:=h
 rfl
theorem arv {G:GH} {x:oL} {cs:List aj} (h:bH G x.dat cs):cs=x.cells:=by
 simp only [oL.dat,bH,aB] at h
 obtain ⟨_,_,rfl,⟨rfl,_⟩,_,_,rfl,⟨rfl,_⟩,rfl⟩:=h
 rfl
theorem JH {G:GH} {l:List eT} {A:Option Addr} {n c k:Nat} (hv:aB G (.sl 2 (l.map eT.dat)) (.slice A n c)) (hk:k < l.length):∃ b o B d,A=some ⟨b,o,none⟩∧(∀ j u,[vi l[k].id,.slice B l[k].levels.length d][j]?=some u→aH G b (o+k*2+j)=some u)∧aB G (.sl 4 (l[k].levels.map rY.dat)) (.slice B l[k].levels.length d):=by
 obtain ⟨A',c',he,_,_,hg⟩:=hv.slice
 injection he with e1 e2 e3
 subst e1;obtain ⟨b,o,cs,h1,h2,h3,h4⟩:=hg k l[k].dat (by simp [hk])
 simp only [eT.dat,bH] at h4
 obtain ⟨v1,_,rfl,⟨rfl,-⟩,v2,_,rfl,hl,rfl⟩:∃ v vs,cs=v :: vs∧aB G (li l[k].id) v∧∃ v2 vs2,vs=v2 :: vs2∧aB G (.sl 4 (l[k].levels.map rY.dat)) v2∧vs2=[]:=h4;obtain ⟨B,d,rfl,-,-,-⟩:=hl.slice;rw [bZ] at *;exact ⟨b,o,B,d,h1,h3,hl⟩
theorem anM {G:GH} {bl:Nat} {l:List eT} {A:Option Addr} {n c:Nat} (hb:aH G bl 0=some (.slice A n c)) (hv:aB G (.sl 2 (l.map eT.dat)) (.slice A n c)):vP (.func (.func 122) #[] #[(aK bl 0)]) G l.length fun k=>(l[k]?.map eT.id).getD 0:=by
 intro k hk G1 w0 hm hG;refine mU (caps:=[(aK bl 0)]) ahH ?_;replace hb:=aF hm hb
 obtain rfl:n=l.length:=by have:=hv.len;simpa using this
 obtain ⟨b,o,B,d,rfl,hrow,-⟩:=JH (hv.mono hm) hk;have hq:=hrow 0 _ rfl;refine eN [(0,_),(1,_)] func122 rfl ntmps122 rfl rfl hG ?_;intro a H;refine kP H (SR fun _ K1=>ak K1 rfl (SR fun _ K2=>Rg xV rfl (by assumption) ?_));clear H K1;intro a H;refine kH H (Rm rfl (Ri xW Ag rfl rfl (Rf Ni rfl (Rg aD rfl (by assumption) ?_))));clear H;intro a H;exact kH H (ak K2 rfl (LR results122 rfl fun H=>H.rt (by dsimp only;rw [gD hk];rfl)))
def yV (l:List eT) (i:Nat):Int:=bV [lQ (fun k=>(l[k]?.map eT.id).getD 0) i,fC ((l[i]?.map eT.levels).getD [])]
theorem anO {G:GH} {bl:Nat} {l:List eT} {A:Option Addr} {n c:Nat} (hb:aH G bl 0=some (.slice A n c)) (hv:aB G (.sl 2 (l.map eT.dat)) (.slice A n c)) (hl:l.length≤4294967296) (ht:∀ x∈l,∀ y∈x.levels,y.CK.size < 4611686018427387904):vP (.func (.func 120) #[] #[(aK bl 0)]) G l.length (yV l):=by
 intro k hk G1 w0 hm hG;refine mU (caps:=[(aK bl 0)]) ahG ?_;replace hb:=aF hm hb;replace hv:=hv.mono hm;have hcb:=anM hb hv
 obtain rfl:n=l.length:=by have:=hv.len;simpa using this
 obtain ⟨b,o,B,d,rfl,hrow,hlv⟩:=JH hv hk;have hq:=hrow 1 _ rfl
 have he:yV l k=bV [lQ (fun k=>(l[k]?.map eT.id).getD 0) k,fC l[k].levels]:=by unfold yV;rw [gD hk];rfl
 refine eN [(0,_),(1,_)] func120 rfl ntmps120 rfl rfl hG ?_;intro a H;refine kP H (SR fun _ K1=>ak K1 rfl (SQ fun _ K2=>?_));clear H K1;intro a H;have H:=H.sub (T':=[(0,_),(1,_)]) ⟨rfl,rfl,av⟩;refine dI hmx [[],[],[0,1],[],[],[3,4],[3,4,5],(ra 3 4),(ra 0 8),(ra 0 9),(ra 0 10),(ra 0 11)] [9,10,11] (by kernel_rfl) [_,.func (.func 122) #[] #[(aK bl 0)],vi (lQ (fun k=>(l[k]?.map eT.id).getD 0) k),_,_,_,_,_,vi (fC l[k].levels)] H (aG (Z0 rfl (Rm rfl)) ?_ ?_ (X0 rfl fun hG=>Rg xV rfl (aF hG hb)) (aG (Z0 rfl (Rm rfl)) (Z2 3 7 4 8 rfl (Ri xW Ag rfl rfl)) (Z1 5 9 rfl (Rf Uk rfl)) (X1 6 10 rfl fun hG=>Rg X9 rfl (aF hG hq)) (aG ?_ (cZ rfl) (cZ rfl) (cZ rfl) dU))) ?_
 ·refine Ee rfl fun _ a w G1 hG HT H fin=>?_;refine qR H wn rfl rfl ?_;clear H;intro a H;exact fin H iJ rfl
 ·refine fu 0 4 1 5 rfl rfl fun _ a w G1 hG HT H fin=>?_;refine s_call TI H wn rfl (WK _ _ H.ro k _ _ (by omega) (fun i hi=>(hcb.mono hG) i (by omega))) rfl ?_;clear H;rintro v6 G6 a w rfl lu H;exact fin H lu (rfl)
 ·refine eF 7 11 rfl rfl fun _ a w G1 hG HT H fin=>?_;refine s_call aaJ H wn rfl (ZY _ _ H.ro _ _ (hlv.mono hG) (ht _ (jr hk))) rfl ?_;clear H;rintro v12 Fu a w rfl oG H;exact fin H oG (rfl)
 clear H;intro a w G qK H hv;have H:=H.aU (hv 2 6 rfl rfl) rfl;have H:=H.aU (hv 8 12 rfl rfl) rfl;clear hv;refine jF rU jg [_,_] [_,_] H wn rfl rfl rfl rfl rfl (by intro i q h;match i,h with|0,h=>exact h|1,h=>exact h|n+2,h=>simp at h) rfl rfl ?_;clear H;intro b13 a w ND H;obtain ⟨CQ,uI,KR,H⟩:=H.fD;refine s_call tH H wn rfl (tJ _ _ H.ro _ _ (Bo KR)) rfl ?_;clear H;rintro v14 _ a w ⟨rfl,rfl⟩ - H;refine kH H (Ra rfl ?_);clear H;intro a H;refine aI ⟨rfl,?_⟩;refine K2 _ _ ?_;clear K2;refine lr H results120 rfl ?_;exact H.rt (by rw [he])
def wS (l:List eT):Int:=bV [bS (decide (64 < (l.length:Int))) 9,iQ (yV l) (min l.length 64)]
theorem vP.le {fv:aj} {G:GH} {n m:Nat} {E:Nat→Int} (h:vP fv G n E) (hm:m≤n):vP fv G m E:=fun i hi=>h i (by omega)
theorem agP (G:GH) (w0:World) (hG:Hold G w0) (l:List eT) (v:aj) (hv:aB G (.sl 2 (l.map eT.dat)) v) (hl:l.length≤4294967296) (ht:∀ x∈l,∀ y∈x.levels,y.CK.size < 4611686018427387904) :
  Calls prog 53 #[v] w0 (bR w0 G fun u G'=>u=vi (wS l)):=by
 obtain ⟨A,c,rfl,hc1,hc2,-⟩:=hv.slice;rw [bZ] at *;refine eN [(0,_)] func53 rfl ntmps53 rfl rfl hG ?_;intro a H;refine dz (fun _ K1=>?_);refine eU (cs:=[_]) H wn rfl rfl rfl ?_;clear H;intro b1 a w hb1 H;refine kH H (ak K1 rfl (SQ fun _ K2=>?_));clear H K1;intro a H;have H:=H.sub (T':=[(1,_)]) ⟨rfl,av⟩;obtain ⟨Ga,hma,hb1',H⟩:=H.fD
 have hbl:aH Ga b1 0=some (.slice A l.length c):=by unfold aH;rw [hb1'];rfl
 have hcb:=anO hbl (hv.mono hma) hl ht;refine dI hmx [[],[0],[0,1],[0,1,2],[],[4],[4,5],[],(ra 0 8),(ra 0 9),(ra 0 10),(ra 0 11)] [9,10,11] (by kernel_rfl) [_,_,_,vi (bS (decide (64 < (l.length:Int))) 9),_,_,vi ((min l.length 64:Nat):Int),.func (.func 120) #[] #[(aK b1 0)],vi (iQ (yV l) (min l.length 64))] H (aG (X0 rfl fun hG=>Rg xV rfl (aF hG hbl)) (Z1 0 3 rfl (Rl xW rfl)) (Z1 1 4 rfl (Rc rfl)) ?_ (aG (X0 rfl fun hG=>Rg xV rfl (aF hG hbl)) (Z1 4 7 rfl (Rl xW rfl)) ?_ ?_ (aG ?_ (cZ rfl) (cZ rfl) (cZ rfl) dU))) ?_
 ·refine eF 2 5 rfl rfl fun _ a w G1 hG HT H fin=>?_;refine s_call kS H wn rfl (kW _ _ H.ro _ 9) rfl ?_;clear H;rintro v6 G6 a w ⟨rfl,-⟩ lu H;exact fin H lu (rfl)
 ·refine eF 5 8 rfl rfl fun _ a w G1 hG HT H fin=>?_;refine RP H wn rfl rfl rfl ?_;clear H;intro a H;exact fin H iJ (aC vi (by omega))
 ·refine Ee rfl fun _ a w G1 hG HT H fin=>?_;refine qR H wn rfl rfl ?_;clear H;intro a H;exact fin H iJ rfl
 ·refine fu 6 9 7 10 rfl rfl fun _ a w G1 hG HT H fin=>?_;refine s_call Ky H wn rfl (MP _ _ H.ro (min l.length 64) (yV l) _ (by omega) ((hcb.mono hG).le (Nat.min_le_left _ _))) rfl ?_;clear H;rintro v11 zx a w rfl xD H;exact fin H xD (rfl)
 clear H;intro a w G qK H hv;have H:=H.aU (hv 3 6 rfl rfl) rfl;have H:=H.aU (hv 8 11 rfl rfl) rfl;clear hv;refine jF rU jg [_,_] [_,_] H wn rfl rfl rfl rfl rfl (by intro i q h;match i,h with|0,h=>exact h|1,h=>exact h|n+2,h=>simp at h) rfl rfl ?_;clear H;intro b12 a w Gp H;obtain ⟨Fu,Jj,I9,H⟩:=H.fD;refine s_call tH H wn rfl (tJ _ _ H.ro _ _ (Bo I9)) rfl ?_;clear H;rintro v13 _ a w ⟨rfl,rfl⟩ - H;refine kH H (Ra rfl ?_);clear H;intro a H;refine aI ⟨rfl,?_⟩;refine K2 _ _ ?_;clear K2;refine lr H results53 rfl ?_;exact H.rt rfl
end
section
open Go.RowKit
theorem oo:prog.underlying 41=some (.slice 100):=by kernel_rfl
theorem lU:Ty prog 100 6 72 [.int .i64 0,.int .i64 0,.string ⟨#[]⟩,.int .i64 0,.int .i64 0,.slice none 0 0] true:=⟨by kernel_rfl,by kernel_rfl⟩
theorem zK:dV prog 100 1 1:=⟨by kernel_rfl⟩
theorem KC:dV prog 100 2 2:=⟨by kernel_rfl⟩
theorem wU:dV prog 100 0 0:=⟨by kernel_rfl⟩
theorem aaz:∀ args w,(callFunc 212 args).run prog w=.ok (.enter 212 args) w:=enters func212 rfl (by kernel_rfl)
theorem aiq:∀ args w,(callFunc 180 args).run prog w=.ok (.enter 180 args) w:=enters func180 rfl (by kernel_rfl)
theorem aiI:∀ args w,(callFunc 213 args).run prog w=.ok (.enter 213 args) w:=enters func213 rfl (by kernel_rfl)
theorem aiJ:∀ args w,(callFunc 214 args).run prog w=.ok (.enter 214 args) w:=enters func214 rfl (by kernel_rfl)
structure cK where
 id:Int
 kind:Int
 name:ByteArray
 base:Int
 next:Int
 props:List jq
def cK.dat (x:cK):List Dat:=[li x.id,li x.kind,.lf (.string x.name),li x.base,li x.next,.sl 2 (x.props.map jq.dat)]
theorem XR {G:GH} {x:cK} {cs:List aj} (h:bH G x.dat cs):∃ A c,cs=[vi x.id,vi x.kind,.string x.name,vi x.base,vi x.next,.slice A x.props.length c]∧aB G (.sl 2 (x.props.map jq.dat)) (.slice A x.props.length c):=by
 simp only [cK.dat,bH] at h
 obtain ⟨v1,_,rfl,h1,v2,_,rfl,h2,v3,_,rfl,h3,v4,_,rfl,h4,v5,_,rfl,h5,v6,_,rfl,h6,rfl⟩:=h
 simp only [aB] at h1 h2 h3 h4 h5
 obtain ⟨rfl,-⟩:=h1;obtain ⟨rfl,-⟩:=h2;obtain ⟨rfl,-⟩:=h3;obtain ⟨rfl,-⟩:=h4;obtain ⟨rfl,-⟩:=h5;obtain ⟨A,c,rfl,-,-,-⟩:=h6.slice;rw [bZ] at *;exact ⟨A,c,rfl,h6⟩
theorem CF {G:GH} {l:List cK} {A:Option Addr} {n c k:Nat} (hv:aB G (.sl 6 (l.map cK.dat)) (.slice A n c)) (hk:k < l.length):∃ b o pA pc,A=some ⟨b,o,none⟩∧(∀ j u,[vi l[k].id,vi l[k].kind,.string l[k].name,vi l[k].base,vi l[k].next,.slice pA l[k].props.length pc][j]?=some u→aH G b (o+k*6+j)=some u)∧aB G (.sl 2 (l[k].props.map jq.dat)) (.slice pA l[k].props.length pc) ∧
  bH G l[k].dat [vi l[k].id,vi l[k].kind,.string l[k].name,vi l[k].base,vi l[k].next,.slice pA l[k].props.length pc]:=by
 obtain ⟨A',c',he,_,_,hg⟩:=hv.slice
 injection he with e1 e2 e3
 subst e1;obtain ⟨b,o,cs,h1,h2,h3,h4⟩:=hg k l[k].dat (by simp [hk]);obtain ⟨pA,pc,rfl,hp⟩:=XR h4;exact ⟨b,o,pA,pc,h1,h3,hp,h4⟩
def okB (x:Int):Bool:=decide (32≤x∧x≤126)
def JL (s:ByteArray) (k:Nat):Bool:=(List.range k).all fun i=>okB (jB s i)
def pO (s:ByteArray):Bool:=decide (s.size≠0∧s.size≤40∧jB s 0≠32∧jB s (s.size - 1)≠32) && JL s s.size
theorem aoj (s:ByteArray) (k:Nat):JL s (k+1)=(JL s k && okB (jB s k)):=by simp [JL,List.range_succ]
theorem JM {s:ByteArray} {k:Nat} (hk:k < s.size) (h:okB (jB s k)=false):JL s s.size=false:=by
 rw [JL,List.all_eq_false];exact ⟨k,by simpa using hk,by simp [h]⟩
theorem QX (G:GH) (w0:World) (hG:Hold G w0) (s:ByteArray) (hs:s.size≤4611686018427387904):Calls prog 177 #[.string s] w0 (bR w0 G fun u G'=>u=.bool (pO s)):=by
 refine eN [(0,_)] func177 rfl ntmps177 rfl rfl hG ?_;intro a H;refine kP H (SR fun _ K1=>ak K1 rfl (SQ fun _ K2=>SR fun _ K3=>Rm rfl (Rv iO rfl (Rc rfl (Rm rfl (Sp 7 rfl ?_ ?_)))))) <;> clear H K1
 ·intro h7 a H
  try have p7:=dT h7
  refine kH H (aT h7 rfl (Pt h7 rfl (Rm rfl (aT rfl rfl (Pt rfl rfl (Rm rfl (aT rfl rfl (aT rfl rfl (Pt rfl rfl (Kz K3 (Ct rfl rfl (SR fun _ K4=>ak K4 rfl ?_))))))))))));clear H K3 K4;intro a H;refine lr H results177 rfl ?_
  first
   | exact H.rt (aL (by rw [pO,iC (by omega),uT]))
   | exact H.rt (aL (by rw [pO,gq (by omega),show s.size=k by omega,hno];rfl))
   | exact H.rt (aL (by rw [pO,JM (k:=k) (by omega) (iC (by omega)),Bool.and_false]))
 intro h7 a H
 try have p7:=dF h7
 refine kH H (YM h7 rfl ?_);clear H;intro a H;refine Cz iO H (wg H rfl rfl h7) rfl rfl ?_;clear H;intro a H;refine kH H (YC h7 rfl (Pf h7 rfl (Rm rfl (Sp 12 rfl ?_ ?_)))) <;> clear H
 ·intro h12 a H
  try have qM:=dT h12
  refine kH H (aT h12 rfl (Pt h12 rfl (Rm rfl (aT rfl rfl (aT rfl rfl (Pt rfl rfl (Kz K3 (Ct rfl rfl (SR fun _ K5=>ak K5 rfl ?_)))))))));clear H K3 K5;intro a H;refine lr H results177 rfl ?_
  first
   | exact H.rt (aL (by rw [pO,iC (by omega),uT]))
   | exact H.rt (aL (by rw [pO,gq (by omega),show s.size=k by omega,hno];rfl))
   | exact H.rt (aL (by rw [pO,JM (k:=k) (by omega) (iC (by omega)),Bool.and_false]))
 intro h12 a H
 try have qM:=dF h12
 refine kH H (YM h12 rfl ?_);clear H;intro a H;refine qQ 0 iO H (wg H rfl rfl h12) rfl rfl rfl (by omega) rfl ?_;clear H;intro a H;rw [← oC] at H;refine kH H (YC h12 rfl (Pf h12 rfl (Rm rfl (Sp 17 rfl ?_ ?_)))) <;> clear H
 ·intro dS a H
  try have mJ:=dT dS
  refine kH H (aT dS rfl (aT dS rfl (Pt dS rfl (Kz K3 (Ct rfl rfl (SR fun _ K6=>ak K6 rfl ?_))))));clear H K3 K6;intro a H;refine lr H results177 rfl ?_
  first
   | exact H.rt (aL (by rw [pO,iC (by omega),uT]))
   | exact H.rt (aL (by rw [pO,gq (by omega),show s.size=k by omega,hno];rfl))
   | exact H.rt (aL (by rw [pO,JM (k:=k) (by omega) (iC (by omega)),Bool.and_false]))
 intro dS a H
 try have mJ:=dF dS
 refine kH H (YM dS rfl (YM dS rfl ?_));clear H;intro a H;refine Cz iO H (wg H rfl rfl dS) rfl rfl ?_;clear H;intro a H;refine og _ H (wg H rfl rfl dS) rfl rfl rfl (by omega) (by omega) rfl ?_;clear H;intro a H;refine qQ (s.size - 1) iO H (wg H rfl rfl dS) rfl rfl (by omega) (by omega) rfl ?_;clear H;intro a H;rw [← oC] at H;refine kH H (YC dS rfl (Pf dS rfl (Kz K3 (Cd rfl ?_ ?_)))) <;> clear H K3
 ·intro eP a H
  try have nA:=dT eP
  refine kP H (SR fun _ K7=>ak K7 rfl ?_);clear H K7;intro a H;refine lr H results177 rfl ?_
  first
   | exact H.rt (aL (by rw [pO,iC (by omega),uT]))
   | exact H.rt (aL (by rw [pO,gq (by omega),show s.size=k by omega,hno];rfl))
   | exact H.rt (aL (by rw [pO,JM (k:=k) (by omega) (iC (by omega)),Bool.and_false]))
 intro eP a H
 try have nA:=dF eP
 refine kP H (Kc K2 (SQ fun _ K8=>SR fun _ K9=>Rm rfl (Rv iO rfl (Rm rfl (Kz K9 (SB ?_))))));clear H K2 K9;intro a H;skip;refine fH (ι:=Nat) (Tc:=[(0,_),(26,_)]) (Lc:=[]) (fun gh=>[(27,vi gh)]) (fun gh=>[]) (fun gh=>G) (fun gh=>gh≤s.size∧JL s gh=true) (fun gh=>s.size - gh) (0) (by exact (H).sub ⟨rfl,rfl,rfl,av⟩) ?_ ?_
 ·exact ⟨iK _,rfl⟩
 clear H;intro gh a w hI H;obtain ⟨k,hgh⟩:∃ x,x=gh:=⟨_,rfl⟩;subst hgh;obtain ⟨hk,hno⟩:=hI;dsimp only [lca,aS] at H;refine kP H (SR fun _ aZ=>Rc rfl (Kz aZ (SQ fun _ bN=>Cd rfl ?_ ?_))) <;> clear H aZ
 ·intro iE a H
  try have p28:=dT iE
  refine kP H (Kc bN (SQ fun _ bQ=>SB (SR fun _ bT=>Rm rfl (ak bT rfl (SR fun _ cu=>Rm rfl (Rm rfl ?_))))));clear H bN bT;intro a H;refine qQ k iO H wn rfl rfl rfl (by omega) rfl ?_;clear H;intro a H;rw [← oC] at H;refine kH H (Rc rfl (Rm rfl (Sp 34 rfl ?_ ?_))) <;> clear H
  ·intro fQ a H
   try have p34:=dT fQ
   refine kH H (aP fQ rfl (aP fQ rfl (Pt fQ rfl (Kz cu (Ct rfl rfl (SR fun _ dL=>ak dL rfl ?_))))));clear H cu dL;intro a H;refine lr H results177 rfl ?_
   first
    | exact H.rt (aL (by rw [pO,iC (by omega),uT]))
    | exact H.rt (aL (by rw [pO,gq (by omega),show s.size=k by omega,hno];rfl))
    | exact H.rt (aL (by rw [pO,JM (k:=k) (by omega) (iC (by omega)),Bool.and_false]))
  intro fQ a H
  try have p34:=dF fQ
  refine kH H (YM fQ rfl (YM fQ rfl ?_));clear H;intro a H;refine qQ k iO H (wg H rfl rfl fQ) rfl rfl rfl (by omega) rfl ?_;clear H;intro a H;rw [← oC] at H;refine kH H (YC fQ rfl (Pf fQ rfl (Kz cu (Cd rfl ?_ ?_)))) <;> clear H cu
  ·intro kT a H
   try have p39:=dT kT
   refine kP H (SR fun _ dO=>ak dO rfl ?_);clear H dO;intro a H;refine lr H results177 rfl ?_
   first
    | exact H.rt (aL (by rw [pO,iC (by omega),uT]))
    | exact H.rt (aL (by rw [pO,gq (by omega),show s.size=k by omega,hno];rfl))
    | exact H.rt (aL (by rw [pO,JM (k:=k) (by omega) (iC (by omega)),Bool.and_false]))
  intro kT a H
  try have p39:=dF kT
  refine kP H (Kc bQ (SC (Rd rfl (Rm rfl ?_))));clear H bQ;intro a H;refine aI ?_;refine dP ((k+1)) (by exact (H).sub ⟨rfl,rfl,rfl,av⟩) ?_ ?_
  ·exact ⟨by omega,by rw [aoj,hno];simp [okB];omega⟩
  first|omega|(dsimp only;omega)
 intro iE a H
 try have p28:=dF iE
 refine eD ?_;refine K8 _ _ ?_;clear K8;refine kP H (SR fun _ dJ=>ak dJ rfl ?_);clear H dJ;intro a H;refine lr H results177 rfl ?_
 first
  | exact H.rt (aL (by rw [pO,iC (by omega),uT]))
  | exact H.rt (aL (by rw [pO,gq (by omega),show s.size=k by omega,hno];rfl))
  | exact H.rt (aL (by rw [pO,JM (k:=k) (by omega) (iC (by omega)),Bool.and_false]))
theorem acP (G:GH) (w0:World) (hG:Hold G w0) (l:List cK) (p:cK→Bool) (v fv:aj) (hv:aB G (.sl 6 (l.map cK.dat)) v) (hf:∀ x∈l,wP fv G x.dat (p x)) :
  Calls prog 212 #[v,fv] w0 (bR w0 G fun u G'=>u=vi (rO (l.findIdx? p))):=by
 obtain ⟨A,c,rfl,hc1,hc2,-⟩:=hv.slice;have hml:maxLen=9223372036854775807:=rfl;rw [bZ] at *;refine eN [(0,_),(1,_)] func212 rfl ntmps212 rfl rfl hG ?_;intro a H;refine kP H (SR fun _ K1=>ak K1 rfl (SQ fun _ K2=>SR fun _ K3=>Rm rfl (Rl oo rfl (Rm rfl (Kz K3 (SB ?_))))));clear H K1 K3;intro a H;skip;refine fH (ι:=Nat × GH) (Tc:=[(0,_),(1,_),(7,_)]) (Lc:=[]) (fun gh=>[(8,vi gh.1)]) (fun gh=>[]) (fun gh=>gh.2) (fun gh=>gh.1≤l.length∧(l.take gh.1).findIdx? p=none∧(∀ b o,G b=some o→gh.2 b=some o)) (fun gh=>l.length - gh.1) ((0,G)) (by exact (H).sub ⟨rfl,rfl,rfl,rfl,av⟩) ?_ ?_
 ·exact ⟨by omega,rfl,fun _ _ h=>h⟩
 clear H;intro gh a w hI H;obtain ⟨k,g⟩:=gh;dsimp only at hI H;obtain ⟨hk,hno,hgm⟩:=hI;dsimp only [lca,aS] at H;refine kP H (SR fun _ K4=>Rc rfl (Kz K4 (SQ fun _ K5=>Cd rfl ?_ ?_))) <;> clear H K4
 ·intro h9 a H
  try have p9:=dT h9
  have hk2:k < l.length:=by omega
  obtain ⟨b,o,pA,pc,rfl,hrow,hp,hrep⟩:=CF (hv.mono hgm) hk2;refine kP H (Kc K5 (SQ fun _ K6=>SB (SR fun _ K7=>Rm rfl (ak K7 rfl (SR fun _ K8=>Rm rfl (Rm rfl (Rm rfl (Ri oo lU rfl rfl ?_))))))));clear H K5 K7;intro a H;refine bD lU (cs:=[_,_,_,_,_,_]) H wn rfl rfl (fun j v hj=>H.hp.aH (hrow j v hj)) rfl ?_;clear H;intro a H;refine qP H wn rfl rfl (hf _ (jr hk2) _ _ _ hgm H.ro hrep) rfl ?_;clear H;rintro v16 Aq a w rfl AY H;refine K8 _ _ ?_;clear K8;refine oN H rfl ?_ ?_
  ·intro h16
   try have p16:=dT h16
   refine kP H (SR fun _ K9=>Rm rfl (ak K9 rfl ?_));clear H K9;intro a H;refine lr H results212 rfl ?_
   first
    | exact H.rt (by rw [zW hk2 hno h16];rfl)
    | exact H.rt (by rw [show l.take k=l from kF (by omega)] at hno;rw [hno];rfl)
  intro h16
  try have p16:=dF h16
  refine kP H (Kc K6 (SC (Rd rfl (Rm rfl ?_))));clear H K6;intro a H;refine aI ?_;refine dP ((k+1,Aq)) (by exact (H).sub ⟨rfl,rfl,rfl,rfl,av⟩) ?_ ?_
  ·(try dsimp only);exact ⟨by omega,JB hk2 hno h16,fun b o h=>AY b o (hgm b o h)⟩
  first|omega|(dsimp only;omega)
 intro h9 a H
 try have p9:=dF h9
 refine eD ?_;refine K2 _ _ ?_;clear K2;refine kP H (SR fun _ aZ=>ak aZ rfl ?_);clear H aZ;intro a H;refine lr H results212 rfl ?_
 first
  | exact H.rt (by rw [zW hk2 hno h16];rfl)
  | exact H.rt (by rw [show l.take k=l from kF (by omega)] at hno;rw [hno];rfl)
def Oy (p q:ByteArray):Bool:=p.toList == q.toList
theorem akg {G:GH} {bk bn:Nat} {kind:Int} {name:ByteArray} (hk:aH G bk 0=some (vi kind)) (hn:aH G bn 0=some (.string name)) (x:cK):wP (.func (.func 213) #[] #[(aK bk 0),(aK bn 0)]) G x.dat (decide (x.kind=kind) && Oy x.name name):=by
 intro G1 w0 cs hm hG hr;refine mU (caps:=[(aK bk 0),(aK bn 0)]) aiI ?_;obtain ⟨pA,pc,rfl,-⟩:=XR hr;replace hk:=aF hm hk;replace hn:=aF hm hn;refine eN [(0,_),(1,_),(2,_)] func213 rfl ntmps213 rfl rfl hG ?_;intro a H;refine dz (fun _ K1=>?_);refine eU (cs:=[_,_,_,_,_,_]) H wn rfl rfl rfl ?_;clear H;intro b3 a w hb3 H;refine kH H (ak K1 rfl (SR fun _ K2=>aW zK aD 0 rfl rfl (Rg aD rfl (by assumption) ?_)));clear H K1;intro a H;refine kH H (Rc rfl (Rm rfl (Sp 9 rfl ?_ ?_))) <;> clear H
 ·intro h9 a H
  try have p9:=dT h9
  refine kH H (YF KC h9 rfl (YO gX 0 h9 rfl (YR gX h9 rfl (by assumption) ?_)));clear H;intro a H;refine GY H (wg H rfl rfl h9) rfl rfl rfl ?_;clear H;intro a H;exact kH H (Pt h9 rfl (ak K2 rfl (LR results213 rfl fun H=>H.rt (by unfold Oy;simp_all))))
 intro h9 a H
 try have p9:=dF h9
 exact kH H (aP h9 rfl (aP h9 rfl (Pf h9 rfl (ak K2 rfl (LR results213 rfl fun H=>H.rt (by unfold Oy;simp_all))))))
theorem akf {G:GH} {bi:Nat} {id:Int} (hb:aH G bi 0=some (vi id)) (x:cK):wP (.func (.func 214) #[] #[(aK bi 0)]) G x.dat (decide (x.id=id)):=by
 intro G1 w0 cs hm hG hr;refine mU (caps:=[(aK bi 0)]) aiJ ?_;obtain ⟨pA,pc,rfl,-⟩:=XR hr;replace hb:=aF hm hb;refine eN [(0,_),(1,_)] func214 rfl ntmps214 rfl rfl hG ?_;intro a H;refine dz (fun _ K1=>?_);refine eU (cs:=[_,_,_,_,_,_]) H wn rfl rfl rfl ?_;clear H;intro b2 a w hb2 H;refine kH H (ak K1 rfl (SR fun _ K2=>aW wU aD 0 rfl rfl (Rg aD rfl (by assumption) ?_)));clear H K1;intro a H;exact kH H (Rc rfl (ak K2 rfl (LR results214 rfl fun H=>H.rt rfl)))
def FZ (l:List cK) (kind:Int) (name:ByteArray):Option Nat:=l.findIdx? fun x=>decide (x.kind=kind) && Oy x.name name
def Qf (l:List cK) (id:Int):Option Nat:=l.findIdx? fun x=>decide (x.id=id)
theorem acU (o:Option Nat):decide (0≤rO o)=o.isSome:=by cases o <;> simp [rO]
theorem akh (G:GH) (w0:World) (hG:Hold G w0) (l:List cK) (kind:Int) (name:ByteArray) (v:aj) (hv:aB G (.sl 6 (l.map cK.dat)) v) :
  Calls prog 178 #[v,vi kind,.string name] w0 (bR w0 G fun u G'=>u=.tuple #[vi (max (rO (FZ l kind name)) 0),.bool (FZ l kind name).isSome]):=by
 obtain ⟨A,c,rfl,hc1,hc2,-⟩:=hv.slice;rw [bZ] at *;refine eN [(0,_),(1,_),(2,_)] func178 rfl ntmps178 rfl rfl hG ?_;intro a H;refine dz (fun _ K1=>?_);refine eU (cs:=[_]) H wn rfl rfl rfl ?_;clear H;intro b4 a w hb4 H;refine eU (cs:=[_]) H wn rfl rfl rfl ?_;clear H;intro b5 a w hb5 H;refine kH H (Ra rfl (ak K1 rfl (SQ fun _ K2=>?_)));clear H K1;intro a H;obtain ⟨Ga,hma,zP,H⟩:=H.fD;obtain ⟨Gb,hmb,Cc,H⟩:=H.fD
 have q4:aH Gb b4 0=some (vi kind):=by unfold aH;rw [Cc];rfl
 have q5:aH Gb b5 0=some (.string name):=by unfold aH;rw [hmb _ _ zP];rfl
 refine kP H (SC (Rm rfl ?_));clear H;intro a H;refine qR H wn rfl rfl ?_;clear H;intro a H;refine s_call aaz H wn rfl (acP _ _ H.ro l (fun x=>decide (x.kind=kind) && Oy x.name name) _ _ ((hv.mono hma).mono hmb) (fun x _=>akg q4 q5 x)) rfl ?_;clear H;rintro v11 zx a w rfl Ji H;refine kH H (aM K2 rfl (SR fun _ K3=>Rm rfl ?_));clear H K2;intro a H;refine He H wn rfl rfl rfl ?_;clear H;intro a H;refine kH H (Rm rfl (Rc rfl (Ra rfl (ak K3 rfl ?_))));clear H K3;intro a H;refine dM ?_;refine (gN H results178 (.cons (bP H rfl) (.cons (bP H rfl) .nil)) ?_).1;exact H.rt (by rw [← acU];rfl)
theorem akj (G:GH) (w0:World) (hG:Hold G w0) (l:List cK) (id:Int) (v:aj) (hv:aB G (.sl 6 (l.map cK.dat)) v) :
  Calls prog 180 #[v,vi id] w0 (bR w0 G fun u G'=>u=.tuple #[vi (max (rO (Qf l id)) 0),.bool (Qf l id).isSome]):=by
 obtain ⟨A,c,rfl,hc1,hc2,-⟩:=hv.slice;rw [bZ] at *;refine eN [(0,_),(1,_)] func180 rfl ntmps180 rfl rfl hG ?_;intro a H;refine dz (fun _ K1=>?_);refine eU (cs:=[_]) H wn rfl rfl rfl ?_;clear H;intro b3 a w hb3 H;refine kH H (Ra rfl (ak K1 rfl (SQ fun _ K2=>?_)));clear H K1;intro a H;obtain ⟨Ga,hma,Ja,H⟩:=H.fD
 have q3:aH Ga b3 0=some (vi id):=by unfold aH;rw [Ja];rfl
 refine kP H (SC (Rm rfl ?_));clear H;intro a H;refine qR H wn rfl rfl ?_;clear H;intro a H;refine s_call aaz H wn rfl (acP _ _ H.ro l (fun x=>decide (x.id=id)) _ _ (hv.mono hma) (fun x _=>akf q3 x)) rfl ?_;clear H;rintro v9 G9 a w rfl Ba H;refine kH H (aM K2 rfl (SR fun _ K3=>Rm rfl ?_));clear H K2;intro a H;refine He H wn rfl rfl rfl ?_;clear H;intro a H;refine kH H (Rm rfl (Rc rfl (Ra rfl (ak K3 rfl ?_))));clear H K3;intro a H;refine dM ?_;refine (gN H results180 (.cons (bP H rfl) (.cons (bP H rfl) .nil)) ?_).1;exact H.rt (by rw [← acU];rfl)
def JE (l:List cK) (kind id:Int):Bool:=match Qf l id with|some i=>decide ((l[i]?.map cK.kind)=some kind)|none=>false
theorem WO (G:GH) (w0:World) (hG:Hold G w0) (l:List cK) (kind id:Int) (v:aj) (hv:aB G (.sl 6 (l.map cK.dat)) v) :
  Calls prog 104 #[v,vi kind,vi id] w0 (bR w0 G fun u G'=>u=.bool (JE l kind id)):=by
 obtain ⟨A,c,rfl,hc1,hc2,-⟩:=hv.slice;rw [bZ] at *;refine eN [(0,_),(1,_),(2,_)] func104 rfl ntmps104 rfl rfl hG ?_;intro a H;refine kP H (SR fun _ K1=>ak K1 rfl (SR fun _ K2=>Rm rfl (Rm rfl ?_)));clear H K1;intro a H;refine s_call aiq H wn rfl (akj _ _ H.ro l id _ hv) rfl ?_;clear H;rintro v12 Fu a w rfl Jj H;obtain ⟨o,ho⟩:∃ o,o=Qf l id:=⟨_,rfl⟩;rw [← ho] at H;refine kH H (Rm rfl ?_);clear H;intro a H;(iterate 2 refine lD H wn rfl rfl rfl ?_;clear H;intro a H);refine kH H (Ra rfl (ak K2 rfl (SR fun _ K3=>Rm rfl (Rm rfl (Sp 16 rfl ?_ ?_))))) <;> clear H K2
 ·intro h16 a H
  try have p16:=dT h16
  obtain ⟨i,rfl⟩:=Option.isSome_iff_exists.1 h16
  have hil:i < l.length:=by
   obtain ⟨hi,-⟩:=List.findIdx?_eq_some_iff_getElem.1 ho.symm;exact hi
  rw [show max (rO (some i)) 0=(i:Int) by simp [rO]] at H;obtain ⟨b,o',pA,pc,rfl,hrow,hp,hrep⟩:=CF (hv.mono Jj) hil;have r1:aH Fu b (o'+i*6+1)=some (vi l[i].kind):=hrow 1 _ rfl;refine kH H (YM h16 rfl (YM h16 rfl (YI oo lU h16 rfl rfl (YF zK h16 rfl (YR aD h16 rfl (by assumption) ?_)))));clear H;intro a H;refine kH H (YM h16 rfl (YC h16 rfl (Pt h16 rfl (ak K3 rfl ?_))));clear H K3;intro a H;refine lr H results104 rfl ?_
  first
   | exact H.rt (aL (by rw [JE,← ho];dsimp only;rw [gD hil];simp))
   | exact H.rt (aL (by rw [JE,← ho];cases o <;> simp_all))
 intro h16 a H
 try have p16:=dF h16
 refine kH H (aT h16 rfl (aP h16 rfl (aP h16 rfl (Pf h16 rfl (ak K3 rfl ?_)))));clear H K3;intro a H;refine lr H results104 rfl ?_
 first
  | exact H.rt (aL (by rw [JE,← ho];dsimp only;rw [gD hil];simp))
  | exact H.rt (aL (by rw [JE,← ho];cases o <;> simp_all))
end
section
open Go.RowKit
section
variable {N:Nat} {D:List Deferred} {w0:World} {F:Nat→Prop} {G0 G:GH} {L Li Lo:OL} {T:List (Nat × aj)}
variable {r:Option Nat} {P:Program} {ops:Array Oper} {Q:Exit→Act→World→Prop} {rest:List Oper} {a:Act} {w:World}
variable {d:Nat} {ty:TypeId} {pos:String} {aV:Array Edge} {g:Option (Nat × Bool)}
theorem aeh {t e:TypeId} {sz bytes:Nat} {zero:List aj} {agg:Bool} (hs:P.underlying t=some (.slice e)) (ht:Ty P e sz bytes zero agg) {x z:Operand} {A:Option Addr} {n c:Nat} (hi:Nat) {q:Int} (H:St N D w0 F G0 G L T a w)
  (hw:Region.wanted ⟨some d,.slice t x none (some z) none,ty,pos,aV,g⟩ (yielded ops a.tmps)=true) (hx:ev T x=some (.slice A n c)) (hz:ev T z=some (.int .i64 q)) (hq:q=(hi:Int)) (h2:hi≤c) (hd:Nat.blt d N=true)
  (k:∀ a',St N D w0 F G0 G L ((d,.slice A hi c) :: T) a' w→WL r P ops Q rest a' w):WL r P ops Q (⟨some d,.slice t x none (some z) none,ty,pos,aV,g⟩ :: rest) a w:=by
 subst hq
 refine iB (v:=.slice A hi c) (w':=w) hw rfl ?_ (k _ (H.put hd _ H.hp))
 simp [execOp,H.ev hx,H.ev hz,Instr.sliceAt,Instr.slice,Instr.sliceBounds,Instr.sliceBound,fG,rQ hs,ht.EZ,asIntOf,h2]
 intro _
 cases A with
 | none=>rfl
 | some p=>simp [Addr.add]
end
end
section
open Go.RowKit
theorem PY:∀ args w,(callFunc 177 args).run prog w=.ok (.enter 177 args) w:=enters func177 rfl (by kernel_rfl)
theorem ain:∀ args w,(callFunc 178 args).run prog w=.ok (.enter 178 args) w:=enters func178 rfl (by kernel_rfl)
theorem Uj:dV prog 100 5 5:=⟨by kernel_rfl⟩
theorem aio:∀ args w,(callFunc 179 args).run prog w=.ok (.enter 179 args) w:=enters func179 rfl (by kernel_rfl)
theorem TW:∀ args w,(callFunc 44 args).run prog w=.ok (.enter 44 args) w:=enters func44 rfl (by kernel_rfl)
theorem aB.pre {G:GH} {sz:Nat} {rows:List (List Dat)} {A:Option Addr} {n c:Nat} (h:aB G (.sl sz rows) (.slice A n c)) (k:Nat) (hk:k≤rows.length):aB G (.sl sz (rows.take k)) (.slice A k c):=by
 have h:=h.part 0 k (iK _) hk
 have e:(if c=0 then A else A.map (·.add (0*sz)))=A:=by
  split
  ·rfl
  cases A <;> simp [Addr.add]
 rw [e] at h
 simpa using h
theorem ahz (G:GH) (w0:World) (hG:Hold G w0) (kind:Int):Calls prog 179 #[vi kind] w0 (bR w0 G fun u G'=>u=vi (if kind=1 then 2 else 1)):=by
 refine eN [(0,_)] func179 rfl ntmps179 rfl rfl hG ?_;intro a H;refine kP H (SR fun _ K1=>ak K1 rfl (SQ fun _ K2=>SR fun _ K3=>Rm rfl (Rc rfl (Kz K3 (Cd rfl ?_ ?_))))) <;> clear H K1 K3
 ·intro h4 a H
  try have p4:=dT h4
  exact kP H (SR fun _ K4=>ak K4 rfl (LR results179 rfl fun H=>H.rt (by first|(rw [au (by omega)];done)|rw [ah (by omega)])))
 intro h4 a H
 try have p4:=dF h4
 exact kP H (Kc K2 (SR fun _ K5=>ak K5 rfl (LR results179 rfl fun H=>H.rt (by first|(rw [au (by omega)];done)|rw [ah (by omega)]))))
def Bh (l:List cK) (k:Nat):Option Int:=if k=0 then none else l[k - 1]?.map cK.id
theorem RB {l:List cK} {k:Nat} (h:k=0):Bh l k=none:=au h
def Ko (k:Int):Bool:=decide (k=20) || decide (k=1)
def nT (q:Option Int) (dup:Bool) (s:cK):Int :=
 if s.id < 1∨1073741824 < s.id then 18 else if q=some s.id then 7 else if LH q s.id=true then 6 else if s.kind≠1∧s.kind≠2 then 3 else if pO s.name=false then 13 else if dup=true then 7
 else if s.props.any (fun p=>Ko p.key)=true then 4 else jf (if s.kind=1 then 2 else 1) s.props
def ko (l:List cK) (k:Nat) (s:cK):Int:=nT (Bh l k) (FZ (l.take k) s.kind s.name).isSome s
set_option maxHeartbeats 1000000 in
theorem aoy (G:GH) (w0:World) (hG:Hold G w0) (l:List cK) (k:Nat) (v:aj) (hv:aB G (.sl 6 (l.map cK.dat)) v) (hk:k < l.length) (hs:l[k].name.size≤4611686018427387904) :
  Calls prog 103 #[v,vi k] w0 (bR w0 G fun u G'=>u=vi (ko l k l[k])):=by
 obtain ⟨A,c,rfl,hc1,hc2,-⟩:=hv.slice;have hml:maxLen=9223372036854775807:=rfl;rw [bZ] at *;obtain ⟨b,o,pA,pc,rfl,hrow,hp,hrep⟩:=CF hv hk;obtain ⟨x,hx⟩:∃ x,x=l[k]:=⟨_,rfl⟩;rw [← hx] at hs hrow hp hrep ⊢;have hdp:∀ j v,[vi x.id,vi x.kind,.string x.name,vi x.base,vi x.next,.slice pA x.props.length pc][j]?=some v→aH G b (o+k*6+j)=some v:=hrow;obtain ⟨_,_,he0,atb,atc,-⟩:=hp.slice
 injection he0 with _ he1 he2
 rw [bZ] at *;subst he2
 obtain ⟨pk,hpk⟩:∃ pk,0 < k→aH G b (o+(k - 1)*6+0)=some (vi pk)∧Bh l k=some pk:=by
  by_cases h0:0 < k
  ·obtain ⟨b',o',_,_,he,hr',-,-⟩:=CF hv (show k - 1 < l.length by omega)
   injection he with he
   injection he with e1 e2 e3
   subst e1;subst e2;exact ⟨_,fun _=>⟨hr' 0 _ rfl,by rw [Bh,ah (by omega),gD (by omega)];rfl⟩⟩
  exact ⟨0,fun h=>absurd h h0⟩
 refine eN [(0,_),(1,_)] func103 rfl ntmps103 rfl rfl hG ?_;intro a H;refine kP H (SR fun _ K1=>ak K1 rfl (SR fun _ K2=>Rm rfl (Rm rfl (Ri oo lU rfl rfl ?_))));clear H K1;intro a H;refine bD lU (cs:=[_,_,_,_,_,_]) H wn rfl rfl (fun j v hj=>H.hp.aH (hrow j v hj)) rfl ?_;clear H;intro a H;refine dR lU H wn rfl ?_;clear H;intro b5 a w hb5 H;refine bO lU 0 (vs:=[_,_,_,_,_,_]) _ H wn rfl rfl rfl rfl rfl rfl rfl rfl ?_;clear H;intro w H;dsimp only [List.set,setRow] at H;refine K2 _ _ ?_;clear K2;refine oO (ι:=GH) (Tc:=[(0,_),(1,_),(5,_)]) (Lc:=[(_,_)]) (fun gh=>[]) (fun gh=>[]) (fun gh=>gh) (fun gh=>¬ (x.id < 1∨1073741824 < x.id)∧¬ Bh l k=some x.id∧¬ LH (Bh l k) x.id=true∧¬ (x.kind≠1∧x.kind≠2)∧¬ pO x.name=false∧(∀ b o,G b=some o→gh b=some o)) (by exact (H).sub ⟨rfl,rfl,rfl,av⟩) ?_ ?_
 ·skip;refine kP H (SB (SR fun _ K3=>aW wU aD 0 rfl rfl (Rc rfl (Rm rfl (Sp 18 rfl ?_ ?_))))) <;> clear H
  ·intro h18 a H
   try have sO:=dT h18
   refine kH H (aT h18 rfl (Pt h18 rfl (ak K3 rfl (Ct rfl rfl (SR fun _ K4=>ak K4 rfl ?_)))));clear H K3 K4;intro a H;refine lr H results103 rfl ?_
   first
    | exact H.rt (aC vi e0.symm)
    | exact H.rt (aC vi e4.symm)
    | exact H.rt (aC vi e7.symm)
    | exact H.rt (aC vi e13.symm)
    | exact H.rt (aC vi e3.symm)
    | exact H.rt (aC vi e6.symm)
    | exact H.rt (aC vi (by rw [ko,nT,au (by omega)]))
  intro h18 a H
  try have sO:=dF h18
  refine kH H (YF wU h18 rfl (YO aD 0 h18 rfl (YC h18 rfl (Pf h18 rfl (ak K3 rfl (Cd rfl ?_ ?_)))))) <;> clear H K3
  ·intro eO a H
   try have ny:=dT eO
   refine kP H (SR fun _ K5=>ak K5 rfl ?_);clear H K5;intro a H;refine lr H results103 rfl ?_
   first
    | exact H.rt (aC vi e0.symm)
    | exact H.rt (aC vi e4.symm)
    | exact H.rt (aC vi e7.symm)
    | exact H.rt (aC vi e13.symm)
    | exact H.rt (aC vi e3.symm)
    | exact H.rt (aC vi e6.symm)
    | exact H.rt (aC vi (by rw [ko,nT,au (by omega)]))
  intro eO a H
  try have ny:=dF eO
  refine aO (fun _ K6=>?_)
  by_cases c0:0 < (k:Int)
  ·skip
   by_cases c1:x.id=pk
   ·skip;refine dI hmx [[],[0],[0,1],[0,1,2],(ra 0 4),[0,1,2],[0,1,2],[0,1,2,6],[0,1,2,5,6,7],[0,1,2,5,6,7,8],[0,1,2,5,6,7,8,9],(ra 0 11),(ra 0 12),(ra 0 13)] [13] (by kernel_rfl) [_,_,_,_,vi x.id,_,_,vi ((k - 1:Nat):Int),_,_,_,_,_] H (aG (Z0 rfl (Rm rfl)) (Z1 0 24 rfl (Rc rfl)) (Z1 1 25 rfl (Rm rfl)) (Z1 2 26 rfl (YF wU (aJ c0) rfl)) (aG (Z2 3 27 2 26 rfl (YO aD 0 (aJ c0) rfl)) (Z1 2 26 rfl (YM (aJ c0) rfl)) (Z1 2 26 rfl (YM (aJ c0) rfl)) ?_ (aG (Z3 5 29 7 31 2 26 rfl (YI oo lU (aJ c0) rfl rfl)) (Z2 8 32 2 26 rfl (YF wU (aJ c0) rfl)) (X2 9 33 2 26 rfl fun hG=>YR aD (aJ c0) rfl (aF hG (hpk (by omega)).1)) (Z3 4 28 10 34 2 26 rfl (YC (aJ c0) rfl)) (bG (Z2 2 26 11 35 rfl (Pt (aJ c0) rfl)) (bG (cZ rfl) dU))))) ?_
    ·refine fu 6 30 2 26 rfl rfl fun _ a w G1 hG HT H fin=>?_;refine og _ H (wg H rfl rfl (aJ c0)) rfl rfl rfl (by omega) (by omega) rfl ?_;clear H;intro a H;exact fin H iJ (by show _=_;first|rfl|exact aC vi (by omega))
    clear H;intro a w G uE H hv;have H:=H.aU (hv 12 36 rfl rfl) rfl;clear hv;refine kH H (Ra rfl ?_);clear H;intro a H;refine aI ⟨rfl,?_⟩;refine K6 _ _ ?_;clear K6;refine BG H rfl (aJ c1) ?_;refine aO (fun _ K7=>?_)
    have e7:ko l k x=7:=by rw [ko,nT,ah (by omega),au (by rw [(hpk (by omega)).2,c1])]
    refine kP H (SC (aM K7 rfl ?_));clear H K7;intro a H;refine lr H results103 rfl ?_
    first
     | exact H.rt (aC vi e0.symm)
     | exact H.rt (aC vi e4.symm)
     | exact H.rt (aC vi e7.symm)
     | exact H.rt (aC vi e13.symm)
     | exact H.rt (aC vi e3.symm)
     | exact H.rt (aC vi e6.symm)
     | exact H.rt (aC vi (by rw [ko,nT,au (by omega)]))
   skip;refine dI hmx [[],[0],[0,1],[0,1,2],(ra 0 4),[0,1,2],[0,1,2],[0,1,2,6],[0,1,2,5,6,7],[0,1,2,5,6,7,8],[0,1,2,5,6,7,8,9],(ra 0 11),(ra 0 12),(ra 0 13)] [13] (by kernel_rfl) [_,_,_,_,vi x.id,_,_,vi ((k - 1:Nat):Int),_,_,_,_,_] H (aG (Z0 rfl (Rm rfl)) (Z1 0 24 rfl (Rc rfl)) (Z1 1 25 rfl (Rm rfl)) (Z1 2 26 rfl (YF wU (aJ c0) rfl)) (aG (Z2 3 27 2 26 rfl (YO aD 0 (aJ c0) rfl)) (Z1 2 26 rfl (YM (aJ c0) rfl)) (Z1 2 26 rfl (YM (aJ c0) rfl)) ?_ (aG (Z3 5 29 7 31 2 26 rfl (YI oo lU (aJ c0) rfl rfl)) (Z2 8 32 2 26 rfl (YF wU (aJ c0) rfl)) (X2 9 33 2 26 rfl fun hG=>YR aD (aJ c0) rfl (aF hG (hpk (by omega)).1)) (Z3 4 28 10 34 2 26 rfl (YC (aJ c0) rfl)) (bG (Z2 2 26 11 35 rfl (Pt (aJ c0) rfl)) (bG (cZ rfl) dU))))) ?_
   ·refine fu 6 30 2 26 rfl rfl fun _ a w G1 hG HT H fin=>?_;refine og _ H (wg H rfl rfl (aJ c0)) rfl rfl rfl (by omega) (by omega) rfl ?_;clear H;intro a H;exact fin H iJ (by show _=_;first|rfl|exact aC vi (by omega))
   clear H;intro a w G uE H hv;have H:=H.aU (hv 12 36 rfl rfl) rfl;clear hv;refine kH H (Ra rfl ?_);clear H;intro a H;refine aI ⟨rfl,?_⟩;refine K6 _ _ ?_;clear K6;refine nW H rfl (aR c1) ?_;refine aO (fun _ K8=>?_)
   have q1:¬ (0 < (k:Int)∧x.id=pk):=by first|exact fun h=>c1 h.2|exact fun h=>c0 h.1
   have q1':¬ Bh l k=some x.id:=fun h=>q1 (by
    by_cases h0:0 < k
    ·rw [(hpk h0).2] at h
     injection h with h
     exact ⟨by omega,h.symm⟩
    rw [RB (by omega)] at h
    cases h)
   by_cases c3:x.id < pk
   ·skip;refine dI hmx [[],[0],[0,1],[0,1,2],(ra 0 4),[0,1,2],[0,1,2],[0,1,2,6],[0,1,2,5,6,7],[0,1,2,5,6,7,8],[0,1,2,5,6,7,8,9],(ra 0 11),(ra 0 12),(ra 0 13)] [13] (by kernel_rfl) [_,_,_,_,vi x.id,_,_,vi ((k - 1:Nat):Int),_,_,_,_,_] H (aG (Z0 rfl (Rm rfl)) (Z1 0 38 rfl (Rc rfl)) (Z1 1 39 rfl (Rm rfl)) (Z1 2 40 rfl (YF wU (aJ c0) rfl)) (aG (Z2 3 41 2 40 rfl (YO aD 0 (aJ c0) rfl)) (Z1 2 40 rfl (YM (aJ c0) rfl)) (Z1 2 40 rfl (YM (aJ c0) rfl)) ?_ (aG (Z3 5 43 7 45 2 40 rfl (YI oo lU (aJ c0) rfl rfl)) (Z2 8 46 2 40 rfl (YF wU (aJ c0) rfl)) (X2 9 47 2 40 rfl fun hG=>YR aD (aJ c0) rfl (aF hG (aF uE (hpk (by omega)).1))) (Z3 4 42 10 48 2 40 rfl (YC (aJ c0) rfl)) (bG (Z2 2 40 11 49 rfl (Pt (aJ c0) rfl)) (bG (cZ rfl) dU))))) ?_
    ·refine fu 6 44 2 40 rfl rfl fun _ a w G1 hG HT H fin=>?_;refine og _ H (wg H rfl rfl (aJ c0)) rfl rfl rfl (by omega) (by omega) rfl ?_;clear H;intro a H;exact fin H iJ (by show _=_;first|rfl|exact aC vi (by omega))
    clear H;intro a w G lu H hv;have H:=H.aU (hv 12 50 rfl rfl) rfl;clear hv;refine kH H (Ra rfl ?_);clear H;intro a H;refine aI ⟨rfl,?_⟩;refine K8 _ _ ?_;clear K8;refine BG H rfl (aJ c3) ?_;refine aO (fun _ K9=>?_)
    have e6:ko l k x=6:=by rw [ko,nT,ah (by omega),ah q1',au (by rw [(hpk (by omega)).2];exact aJ c3)]
    refine kP H (SC (aM K9 rfl ?_));clear H K9;intro a H;refine lr H results103 rfl ?_
    first
     | exact H.rt (aC vi e0.symm)
     | exact H.rt (aC vi e4.symm)
     | exact H.rt (aC vi e7.symm)
     | exact H.rt (aC vi e13.symm)
     | exact H.rt (aC vi e3.symm)
     | exact H.rt (aC vi e6.symm)
     | exact H.rt (aC vi (by rw [ko,nT,au (by omega)]))
   skip;refine dI hmx [[],[0],[0,1],[0,1,2],(ra 0 4),[0,1,2],[0,1,2],[0,1,2,6],[0,1,2,5,6,7],[0,1,2,5,6,7,8],[0,1,2,5,6,7,8,9],(ra 0 11),(ra 0 12),(ra 0 13)] [13] (by kernel_rfl) [_,_,_,_,vi x.id,_,_,vi ((k - 1:Nat):Int),_,_,_,_,_] H (aG (Z0 rfl (Rm rfl)) (Z1 0 38 rfl (Rc rfl)) (Z1 1 39 rfl (Rm rfl)) (Z1 2 40 rfl (YF wU (aJ c0) rfl)) (aG (Z2 3 41 2 40 rfl (YO aD 0 (aJ c0) rfl)) (Z1 2 40 rfl (YM (aJ c0) rfl)) (Z1 2 40 rfl (YM (aJ c0) rfl)) ?_ (aG (Z3 5 43 7 45 2 40 rfl (YI oo lU (aJ c0) rfl rfl)) (Z2 8 46 2 40 rfl (YF wU (aJ c0) rfl)) (X2 9 47 2 40 rfl fun hG=>YR aD (aJ c0) rfl (aF hG (aF uE (hpk (by omega)).1))) (Z3 4 42 10 48 2 40 rfl (YC (aJ c0) rfl)) (bG (Z2 2 40 11 49 rfl (Pt (aJ c0) rfl)) (bG (cZ rfl) dU))))) ?_
   ·refine fu 6 44 2 40 rfl rfl fun _ a w G1 hG HT H fin=>?_;refine og _ H (wg H rfl rfl (aJ c0)) rfl rfl rfl (by omega) (by omega) rfl ?_;clear H;intro a H;exact fin H iJ (by show _=_;first|rfl|exact aC vi (by omega))
   clear H;intro a w G lu H hv;have H:=H.aU (hv 12 50 rfl rfl) rfl;clear hv;refine kH H (Ra rfl ?_);clear H;intro a H;refine aI ⟨rfl,?_⟩;refine K8 _ _ ?_;clear K8;refine nW H rfl (aR c3) ?_;refine aO (fun _ aZ=>?_)
   have q2:¬ (0 < (k:Int)∧x.id < pk):=by first|exact fun h=>c3 h.2|exact fun h=>c0 h.1
   have q2':¬ LH (Bh l k) x.id=true:=fun h=>q2 (by
    by_cases h0:0 < k
    ·rw [(hpk h0).2] at h;exact ⟨by omega,pE h⟩
    rw [RB (by omega)] at h
    cases h)
   refine kP H (SC (aW zK aD 0 rfl rfl (Rc rfl (Rm rfl (Sp 55 rfl ?_ ?_))))) <;> clear H
   ·intro nY a H
    try have p55:=dT nY
    refine kH H (YF zK nY rfl (YO aD 0 nY rfl (YC nY rfl (Pt nY rfl (aM aZ rfl (Cd rfl ?_ ?_)))))) <;> clear H aZ
    ·intro mI a H
     try have p51:=dT mI
     refine aO (fun _ bN=>?_)
     have e3:ko l k x=3:=by rw [ko,nT,ah (by omega),ah q1',ah q2',au (by omega)]
     refine kP H (SC (aM bN rfl ?_));clear H bN;intro a H;refine lr H results103 rfl ?_
     first
      | exact H.rt (aC vi e0.symm)
      | exact H.rt (aC vi e4.symm)
      | exact H.rt (aC vi e7.symm)
      | exact H.rt (aC vi e13.symm)
      | exact H.rt (aC vi e3.symm)
      | exact H.rt (aC vi e6.symm)
      | exact H.rt (aC vi (by rw [ko,nT,au (by omega)]))
    intro mI a H
    try have p51:=dF mI
    refine kP H (SR fun _ bQ=>aW KC gX 0 rfl rfl ?_);clear H;intro a H;refine s_call PY H wn rfl (QX _ _ H.ro x.name hs) rfl ?_;clear H;rintro v63 HZ a w rfl hm63 H;refine kH H (Rn rfl (ak bQ rfl (Cd rfl ?_ ?_))) <;> clear H bQ
    ·intro fU a H
     try have p60:=dT fU
     refine aO (fun _ bT=>?_)
     have e13:ko l k x=13:=by rw [ko,nT,ah (by omega),ah q1',ah q2',ah (by omega),au (by simpa using fU)]
     refine kP H (SC (aM bT rfl ?_));clear H bT;intro a H;refine lr H results103 rfl ?_
     first
      | exact H.rt (aC vi e0.symm)
      | exact H.rt (aC vi e4.symm)
      | exact H.rt (aC vi e7.symm)
      | exact H.rt (aC vi e13.symm)
      | exact H.rt (aC vi e3.symm)
      | exact H.rt (aC vi e6.symm)
      | exact H.rt (aC vi (by rw [ko,nT,au (by omega)]))
    intro fU a H
    try have p60:=dF fU
    refine fI ?_;refine ⟨HZ,by exact (H).sub ⟨rfl,rfl,rfl,av⟩,?_⟩;exact ⟨by omega,q1',q2',by omega,by simpa using fU,fun b o h=>hm63 b o (lu b o (uE b o h))⟩
   intro nY a H
   try have p55:=dF nY
   refine kH H (aT nY rfl (Pf nY rfl (aM aZ rfl (Cf rfl rfl (SR fun _ cu=>aW KC gX 0 rfl rfl ?_)))));clear H aZ;intro a H;refine s_call PY H wn rfl (QX _ _ H.ro x.name hs) rfl ?_;clear H;rintro v63 HZ a w rfl hm63 H;refine kH H (Rn rfl (ak cu rfl (Cd rfl ?_ ?_))) <;> clear H cu
   ·intro fU a H
    try have p60:=dT fU
    refine aO (fun _ dL=>?_)
    have e13:ko l k x=13:=by rw [ko,nT,ah (by omega),ah q1',ah q2',ah (by omega),au (by simpa using fU)]
    refine kP H (SC (aM dL rfl ?_));clear H dL;intro a H;refine lr H results103 rfl ?_
    first
     | exact H.rt (aC vi e0.symm)
     | exact H.rt (aC vi e4.symm)
     | exact H.rt (aC vi e7.symm)
     | exact H.rt (aC vi e13.symm)
     | exact H.rt (aC vi e3.symm)
     | exact H.rt (aC vi e6.symm)
     | exact H.rt (aC vi (by rw [ko,nT,au (by omega)]))
   intro fU a H
   try have p60:=dF fU
   refine fI ?_;refine ⟨HZ,by exact (H).sub ⟨rfl,rfl,rfl,av⟩,?_⟩;exact ⟨by omega,q1',q2',by omega,by simpa using fU,fun b o h=>hm63 b o (lu b o (uE b o h))⟩
  skip;refine dI hmx [[],[0],[0,1],[0,1,2],(ra 0 4),[0,1,2],[0,1,2],[0,1,2,6],[0,1,2,5,6,7],[0,1,2,5,6,7,8],[0,1,2,5,6,7,8,9],(ra 0 11),(ra 0 12),(ra 0 13)] [13] (by kernel_rfl) [_,_,_,undef,undef,undef,undef,undef,undef,undef,undef,undef,_] H (aG (Z0 rfl (Rm rfl)) (Z1 0 24 rfl (Rc rfl)) (Z1 1 25 rfl (Rm rfl)) (bg (j:=2) (by kernel_rfl) (fun _ _ _ _ _ h=>h) rfl rfl rfl rfl rfl (fun _ _ h=>bq h (aL (aR c0))) rfl (fun _=>rfl)) (aG (bg (j:=2) (by kernel_rfl) (fun _ _ _ _ _ h=>h) rfl rfl rfl rfl rfl (fun _ _ h=>bq h (aL (aR c0))) rfl (fun _=>rfl)) (bg (j:=2) (by kernel_rfl) (fun _ _ _ _ _ h=>h) rfl rfl rfl rfl rfl (fun _ _ h=>bq h (aL (aR c0))) rfl (fun _=>rfl)) (bg (j:=2) (by kernel_rfl) (fun _ _ _ _ _ h=>h) rfl rfl rfl rfl rfl (fun _ _ h=>bq h (aL (aR c0))) rfl (fun _=>rfl)) (bg (j:=2) (by kernel_rfl) (fun _ _ _ _ _ h=>h) rfl rfl rfl rfl rfl (fun _ _ h=>bq h (aL (aR c0))) rfl (fun _=>rfl)) (aG (bg (j:=2) (by kernel_rfl) (fun _ _ _ _ _ h=>h) rfl rfl rfl rfl rfl (fun _ _ h=>bq h (aL (aR c0))) rfl (fun _=>rfl)) (bg (j:=2) (by kernel_rfl) (fun _ _ _ _ _ h=>h) rfl rfl rfl rfl rfl (fun _ _ h=>bq h (aL (aR c0))) rfl (fun _=>rfl)) (bg (j:=2) (by kernel_rfl) (fun _ _ _ _ _ h=>h) rfl rfl rfl rfl rfl (fun _ _ h=>bq h (aL (aR c0))) rfl (fun _=>rfl)) (bg (j:=2) (by kernel_rfl) (fun _ _ _ _ _ h=>h) rfl rfl rfl rfl rfl (fun _ _ h=>bq h (aL (aR c0))) rfl (fun _=>rfl)) (bG (Z2 2 26 11 35 rfl (Pf (aR c0) rfl)) (bG (cZ rfl) dU))))) ?_
  clear H;intro a w G uE H hv;have H:=H.aU (hv 12 36 rfl rfl) rfl;clear hv;refine kH H (Ra rfl ?_);clear H;intro a H;refine aI ⟨rfl,?_⟩;refine K6 _ _ ?_;clear K6;refine nW H rfl rfl ?_;refine aO (fun _ dO=>?_)
  have q1:¬ (0 < (k:Int)∧x.id=pk):=by first|exact fun h=>c1 h.2|exact fun h=>c0 h.1
  have q1':¬ Bh l k=some x.id:=fun h=>q1 (by
   by_cases h0:0 < k
   ·rw [(hpk h0).2] at h
    injection h with h
    exact ⟨by omega,h.symm⟩
   rw [RB (by omega)] at h
   cases h)
  refine dI hmx [[],[0],[0,1],[0,1,2],(ra 0 4),[0,1,2],[0,1,2],[0,1,2,6],[0,1,2,5,6,7],[0,1,2,5,6,7,8],[0,1,2,5,6,7,8,9],(ra 0 11),(ra 0 12),(ra 0 13)] [13] (by kernel_rfl) [_,_,_,undef,undef,undef,undef,undef,undef,undef,undef,undef,_] H (aG (Z0 rfl (Rm rfl)) (Z1 0 38 rfl (Rc rfl)) (Z1 1 39 rfl (Rm rfl)) (bg (j:=2) (by kernel_rfl) (fun _ _ _ _ _ h=>h) rfl rfl rfl rfl rfl (fun _ _ h=>bq h (aL (aR c0))) rfl (fun _=>rfl)) (aG (bg (j:=2) (by kernel_rfl) (fun _ _ _ _ _ h=>h) rfl rfl rfl rfl rfl (fun _ _ h=>bq h (aL (aR c0))) rfl (fun _=>rfl)) (bg (j:=2) (by kernel_rfl) (fun _ _ _ _ _ h=>h) rfl rfl rfl rfl rfl (fun _ _ h=>bq h (aL (aR c0))) rfl (fun _=>rfl)) (bg (j:=2) (by kernel_rfl) (fun _ _ _ _ _ h=>h) rfl rfl rfl rfl rfl (fun _ _ h=>bq h (aL (aR c0))) rfl (fun _=>rfl)) (bg (j:=2) (by kernel_rfl) (fun _ _ _ _ _ h=>h) rfl rfl rfl rfl rfl (fun _ _ h=>bq h (aL (aR c0))) rfl (fun _=>rfl)) (aG (bg (j:=2) (by kernel_rfl) (fun _ _ _ _ _ h=>h) rfl rfl rfl rfl rfl (fun _ _ h=>bq h (aL (aR c0))) rfl (fun _=>rfl)) (bg (j:=2) (by kernel_rfl) (fun _ _ _ _ _ h=>h) rfl rfl rfl rfl rfl (fun _ _ h=>bq h (aL (aR c0))) rfl (fun _=>rfl)) (bg (j:=2) (by kernel_rfl) (fun _ _ _ _ _ h=>h) rfl rfl rfl rfl rfl (fun _ _ h=>bq h (aL (aR c0))) rfl (fun _=>rfl)) (bg (j:=2) (by kernel_rfl) (fun _ _ _ _ _ h=>h) rfl rfl rfl rfl rfl (fun _ _ h=>bq h (aL (aR c0))) rfl (fun _=>rfl)) (bG (Z2 2 40 11 49 rfl (Pf (aR c0) rfl)) (bG (cZ rfl) dU))))) ?_
  clear H;intro a w G lu H hv;have H:=H.aU (hv 12 50 rfl rfl) rfl;clear hv;refine kH H (Ra rfl ?_);clear H;intro a H;refine aI ⟨rfl,?_⟩;refine dO _ _ ?_;clear dO;refine nW H rfl rfl ?_;refine aO (fun _ dJ=>?_)
  have q2:¬ (0 < (k:Int)∧x.id < pk):=by first|exact fun h=>c3 h.2|exact fun h=>c0 h.1
  have q2':¬ LH (Bh l k) x.id=true:=fun h=>q2 (by
   by_cases h0:0 < k
   ·rw [(hpk h0).2] at h;exact ⟨by omega,pE h⟩
   rw [RB (by omega)] at h
   cases h)
  refine kP H (SC (aW zK aD 0 rfl rfl (Rc rfl (Rm rfl (Sp 55 rfl ?_ ?_))))) <;> clear H
  ·intro nY a H
   try have p55:=dT nY
   refine kH H (YF zK nY rfl (YO aD 0 nY rfl (YC nY rfl (Pt nY rfl (aM dJ rfl (Cd rfl ?_ ?_)))))) <;> clear H dJ
   ·intro mI a H
    try have p51:=dT mI
    refine aO (fun _ dW=>?_)
    have e3:ko l k x=3:=by rw [ko,nT,ah (by omega),ah q1',ah q2',au (by omega)]
    refine kP H (SC (aM dW rfl ?_));clear H dW;intro a H;refine lr H results103 rfl ?_
    first
     | exact H.rt (aC vi e0.symm)
     | exact H.rt (aC vi e4.symm)
     | exact H.rt (aC vi e7.symm)
     | exact H.rt (aC vi e13.symm)
     | exact H.rt (aC vi e3.symm)
     | exact H.rt (aC vi e6.symm)
     | exact H.rt (aC vi (by rw [ko,nT,au (by omega)]))
   intro mI a H
   try have p51:=dF mI
   refine kP H (SR fun _ eG=>aW KC gX 0 rfl rfl ?_);clear H;intro a H;refine s_call PY H wn rfl (QX _ _ H.ro x.name hs) rfl ?_;clear H;rintro v63 HZ a w rfl hm63 H;refine kH H (Rn rfl (ak eG rfl (Cd rfl ?_ ?_))) <;> clear H eG
   ·intro fU a H
    try have p60:=dT fU
    refine aO (fun _ eB=>?_)
    have e13:ko l k x=13:=by rw [ko,nT,ah (by omega),ah q1',ah q2',ah (by omega),au (by simpa using fU)]
    refine kP H (SC (aM eB rfl ?_));clear H eB;intro a H;refine lr H results103 rfl ?_
    first
     | exact H.rt (aC vi e0.symm)
     | exact H.rt (aC vi e4.symm)
     | exact H.rt (aC vi e7.symm)
     | exact H.rt (aC vi e13.symm)
     | exact H.rt (aC vi e3.symm)
     | exact H.rt (aC vi e6.symm)
     | exact H.rt (aC vi (by rw [ko,nT,au (by omega)]))
   intro fU a H
   try have p60:=dF fU
   refine fI ?_;refine ⟨HZ,by exact (H).sub ⟨rfl,rfl,rfl,av⟩,?_⟩;exact ⟨by omega,q1',q2',by omega,by simpa using fU,fun b o h=>hm63 b o (lu b o (uE b o h))⟩
  intro nY a H
  try have p55:=dF nY
  refine kH H (aT nY rfl (Pf nY rfl (aM dJ rfl (Cf rfl rfl (SR fun _ eH=>aW KC gX 0 rfl rfl ?_)))));clear H dJ;intro a H;refine s_call PY H wn rfl (QX _ _ H.ro x.name hs) rfl ?_;clear H;rintro v63 HZ a w rfl hm63 H;refine kH H (Rn rfl (ak eH rfl (Cd rfl ?_ ?_))) <;> clear H eH
  ·intro fU a H
   try have p60:=dT fU
   refine aO (fun _ fO=>?_)
   have e13:ko l k x=13:=by rw [ko,nT,ah (by omega),ah q1',ah q2',ah (by omega),au (by simpa using fU)]
   refine kP H (SC (aM fO rfl ?_));clear H fO;intro a H;refine lr H results103 rfl ?_
   first
    | exact H.rt (aC vi e0.symm)
    | exact H.rt (aC vi e4.symm)
    | exact H.rt (aC vi e7.symm)
    | exact H.rt (aC vi e13.symm)
    | exact H.rt (aC vi e3.symm)
    | exact H.rt (aC vi e6.symm)
    | exact H.rt (aC vi (by rw [ko,nT,au (by omega)]))
  intro fU a H
  try have p60:=dF fU
  refine fI ?_;refine ⟨HZ,by exact (H).sub ⟨rfl,rfl,rfl,av⟩,?_⟩;exact ⟨by omega,q1',q2',by omega,by simpa using fU,fun b o h=>hm63 b o (lu b o (uE b o h))⟩
 clear H;intro gh a w hI H;obtain ⟨g,hgh⟩:∃ x,x=gh:=⟨_,rfl⟩;subst hgh;obtain ⟨q0,q1',q2',q3,q4,hgm⟩:=hI;dsimp only [lca,aS] at H;refine aO (fun _ gJ=>?_);refine aO (fun _ gT=>?_);have acw:=(hv.mono hgm).pre k (by rw [bZ];omega);rw [← List.map_take] at acw;have Jq:=hp.mono hgm;refine dI hmx [[],[],[0,1],[],[3],[],[5],(ra 0 7),(ra 0 8),(ra 0 9),(ra 0 9),(ra 0 10),(ra 0 12)] [12] (by kernel_rfl) [_,_,.slice (some ⟨b,o,none⟩) k c,_,vi x.kind,_,.string x.name,.tuple #[vi (max (rO (FZ (l.take k) x.kind x.name)) 0),.bool (FZ (l.take k) x.kind x.name).isSome],_,vi (max (rO (FZ (l.take k) x.kind x.name)) 0),.bool (FZ (l.take k) x.kind x.name).isSome,_] H (aG (Z0 rfl (Rm rfl)) (Z0 rfl (Rm rfl)) ?_ (Z0 rfl (Rf zK rfl)) (aG (Z1 3 69 rfl (Ro aD 0 rfl)) (Z0 rfl (Rf KC rfl)) (Z1 5 71 rfl (Ro gX 0 rfl)) ?_ (aG (Z1 7 73 rfl (Rm rfl)) ?_ ?_ (Z1 9 74 rfl (Ra rfl)) (bG (cZ rfl) dU)))) ?_
 ·refine fu 0 66 1 67 rfl rfl fun _ a w G1 hG HT H fin=>?_;refine aeh oo lU k H wn rfl rfl rfl (by omega) rfl ?_;clear H;intro a H;exact fin H iJ rfl
 ·refine sW 2 68 4 70 6 72 rfl rfl fun _ a w G1 hG HT H fin=>?_;refine s_call ain H wn rfl (akh _ _ H.ro (l.take k) x.kind x.name _ (acw.mono hG)) rfl ?_;clear H;rintro v73 G73 a w rfl akP H;exact fin H akP (rfl)
 ·refine eF 8 65 rfl rfl fun _ a w G1 hG HT H fin=>?_;refine lD H wn rfl rfl rfl ?_;clear H;intro a H;exact fin H iJ rfl
 ·refine eF 8 65 rfl rfl fun _ a w G1 hG HT H fin=>?_;refine lD H wn rfl rfl rfl ?_;clear H;intro a H;exact fin H iJ rfl
 clear H;intro a w G oG H hv;have H:=H.aU (hv 10 75 rfl rfl) rfl;clear hv;refine kH H (Ra rfl ?_);clear H;intro a H;refine aI ⟨rfl,?_⟩;refine gT _ _ ?_;clear gT;refine kP H (SR fun _ gM=>Rm rfl (Kz gM (Cd rfl ?_ ?_))) <;> clear H gM
 ·intro tO a H
  try have Xm:=dT tO
  refine aO (fun _ jh=>?_)
  have e7:ko l k x=7:=by rw [ko,nT,ah (by omega),ah q1',ah q2',ah q3,ah q4,au tO]
  refine kP H (SC (aM jh rfl ?_));clear H jh;intro a H;refine lr H results103 rfl ?_
  first
   | exact H.rt (aC vi e0.symm)
   | exact H.rt (aC vi e4.symm)
   | exact H.rt (aC vi e7.symm)
   | exact H.rt (aC vi e13.symm)
   | exact H.rt (aC vi e3.symm)
   | exact H.rt (aC vi e6.symm)
   | exact H.rt (aC vi (by rw [ko,nT,au (by omega)]))
 intro tO a H
 try have Xm:=dF tO
 refine kP H (Kc gJ (SQ fun _ jo=>SQ fun _ iU=>?_));clear H gJ;intro a H
 have q5:¬ (FZ (l.take k) x.kind x.name).isSome=true:=by simpa using tO
 have GI:=Jq.mono oG;refine kP H (SC (aW Uj vN 0 rfl rfl (Rl oh rfl (Rm rfl (Kn iU (SB ?_))))));clear H iU;intro a H;skip;refine fH (ι:=Nat) (Tc:=[(5,_),(78,_),(79,_)]) (Lc:=[(_,_)]) (fun gh=>[(80,vi gh)]) (fun gh=>[]) (fun gh=>G) (fun gh=>gh≤x.props.length∧(x.props.take gh).any (fun p=>Ko p.key)=false) (fun gh=>x.props.length - gh) (0) (by exact (H).sub ⟨rfl,rfl,rfl,rfl,av⟩) ?_ ?_
 ·exact ⟨iK _,rfl⟩
 clear H;intro gh a w hI H;obtain ⟨n,hgh⟩:∃ x,x=gh:=⟨_,rfl⟩;subst hgh;obtain ⟨hn,hno⟩:=hI;dsimp only [lca,aS] at H;refine kP H (SR fun _ kX=>Rc rfl (Kz kX (SQ fun _ kY=>Cd rfl ?_ ?_))) <;> clear H kX
 ·intro tQ a H
  try have Bg:=dT tQ
  have hn2:n < x.props.length:=by omega
  obtain ⟨pb,po,rfl,hrow2⟩:=OI GI hn2;have hrow:=hrow2;refine kP H (Kc kY (SQ fun _ jT=>SB (SR fun _ lG=>Ri oh oZ rfl rfl ?_)));clear H kY;intro a H;refine bD oZ (cs:=[_,_]) H wn rfl rfl (fun j v hj=>H.hp.aH (hrow j v hj)) rfl ?_;clear H;intro a H;refine dR oZ H wn rfl ?_;clear H;intro b9 a w uG H;refine bO oZ 0 (vs:=[_,_]) _ H wn rfl rfl rfl rfl rfl rfl rfl rfl ?_;clear H;intro w H;dsimp only [List.set,setRow] at H;refine lG _ _ ?_;clear lG;refine kP H (SR fun _ lH=>aW yJ aD 0 rfl rfl (Rc rfl (Rm rfl (Sp 87 rfl ?_ ?_)))) <;> clear H
  ·intro h87 a H
   try have Xq:=dT h87
   refine kH H (aT h87 rfl (Pt h87 rfl (Kz lH (Ct rfl rfl (SQ fun _ kL=>?_)))));clear H lH;intro a H
   have e4:ko l k x=4:=by
    rw [ko,nT,ah (by omega),ah q1',ah q2',ah q3,ah q4,ah q5,au];rw [List.any_eq_true];exact ⟨x.props[n],jr hn2,by simp [Ko];omega⟩
   refine kP H (SC (aM kL rfl ?_));clear H kL;intro a H;refine lr H results103 rfl ?_
   first
    | exact H.rt (aC vi e0.symm)
    | exact H.rt (aC vi e4.symm)
    | exact H.rt (aC vi e7.symm)
    | exact H.rt (aC vi e13.symm)
    | exact H.rt (aC vi e3.symm)
    | exact H.rt (aC vi e6.symm)
    | exact H.rt (aC vi (by rw [ko,nT,au (by omega)]))
  intro h87 a H
  try have Xq:=dF h87
  refine kH H (YF yJ h87 rfl (YO aD 0 h87 rfl (YC h87 rfl (Pf h87 rfl (Kz lH (Cd rfl ?_ ?_)))))) <;> clear H lH
  ·intro AV a H
   try have Ac:=dT AV
   refine aO (fun _ mQ=>?_)
   have e4:ko l k x=4:=by
    rw [ko,nT,ah (by omega),ah q1',ah q2',ah q3,ah q4,ah q5,au];rw [List.any_eq_true];exact ⟨x.props[n],jr hn2,by simp [Ko];omega⟩
   refine kP H (SC (aM mQ rfl ?_));clear H mQ;intro a H;refine lr H results103 rfl ?_
   first
    | exact H.rt (aC vi e0.symm)
    | exact H.rt (aC vi e4.symm)
    | exact H.rt (aC vi e7.symm)
    | exact H.rt (aC vi e13.symm)
    | exact H.rt (aC vi e3.symm)
    | exact H.rt (aC vi e6.symm)
    | exact H.rt (aC vi (by rw [ko,nT,au (by omega)]))
  intro AV a H
  try have Ac:=dF AV
  refine kP H (Kc jT (SC (Rd rfl (Rm rfl ?_))));clear H jT;intro a H;refine aI ?_;refine dP ((n+1)) (by exact (H.dK (Pl:=[_,_]) (dw:=[_]) [1] (by decide) rfl).sub ⟨rfl,rfl,rfl,rfl,av⟩) ?_ ?_
  ·exact ⟨by omega,by rw [jZ hn2,List.any_append,hno];simp [Ko];omega⟩
  first|omega|(dsimp only;omega)
 intro tQ a H
 try have Bg:=dF tQ
 refine eD ?_;refine jo _ _ ?_;clear jo;refine aO (fun _ mR=>?_)
 have q6:¬ x.props.any (fun p=>Ko p.key)=true:=by
  rw [show x.props.take n=x.props from kF (by omega)] at hno;rw [hno];decide
 have e0:ko l k x=jf (if x.kind=1 then 2 else 1) x.props:=by rw [ko,nT,ah (by omega),ah q1',ah q2',ah q3,ah q4,ah q5,ah q6]
 refine dI hmx [[],[0],[0,1],[],[3],(ra 0 5),(ra 0 6)] [5,6] (by kernel_rfl) [_,vi x.kind,vi (if x.kind=1 then 2 else 1),_,.slice pA x.props.length pc] H (aG (Z0 rfl (Rf zK rfl)) (Z1 0 93 rfl (Ro aD 0 rfl)) ?_ (Z0 rfl (Rf Uj rfl)) (bG (Z1 3 96 rfl (Ro vN 0 rfl)) (bG (cZ rfl) (bG (cZ rfl) dU)))) ?_
 ·refine eF 1 94 rfl rfl fun _ a w G1 hG HT H fin=>?_;refine s_call aio H wn rfl (ahz _ _ H.ro x.kind) rfl ?_;clear H;rintro v95 G95 a w rfl akT H;exact fin H akT (rfl)
 clear H;intro a w G KN H hv;have H:=H.aU (hv 2 95 rfl rfl) rfl;have H:=H.aU (hv 4 97 rfl rfl) rfl;clear hv;refine s_call TW H wn rfl (Xw _ _ H.ro _ x.props _ (GI.mono KN)) rfl ?_;clear H;rintro v98 YS a w rfl KZ H;refine kH H (Ra rfl ?_);clear H;intro a H;refine aI ⟨rfl,?_⟩;refine mR _ _ ?_;clear mR;refine lr H results103 rfl ?_
 first
  | exact H.rt (aC vi e0.symm)
  | exact H.rt (aC vi e4.symm)
  | exact H.rt (aC vi e7.symm)
  | exact H.rt (aC vi e13.symm)
  | exact H.rt (aC vi e3.symm)
  | exact H.rt (aC vi e6.symm)
  | exact H.rt (aC vi (by rw [ko,nT,au (by omega)]))
end
section
open Go.RowKit
theorem Br:Ty prog 43 1 24 [.slice none 0 0] false:=⟨by kernel_rfl,by kernel_rfl⟩
theorem Ai:prog.underlying 43=some (.slice 107):=by kernel_rfl
theorem ze:Ty prog 107 6 64 [.int .i64 0,.int .i64 0,.string ⟨#[]⟩,.int .i64 0,.string ⟨#[]⟩,.bool false] true:=⟨by kernel_rfl,by kernel_rfl⟩
theorem Nj:dV prog 107 0 0:=⟨by kernel_rfl⟩
theorem Qd:dV prog 107 1 1:=⟨by kernel_rfl⟩
theorem aiv:∀ args w,(callFunc 191 args).run prog w=.ok (.enter 191 args) w:=enters func191 rfl (by kernel_rfl)
theorem ahJ:∀ args w,(callFunc 124 args).run prog w=.ok (.enter 124 args) w:=enters func124 rfl (by kernel_rfl)
theorem aaV:dV prog 107 2 2:=⟨by kernel_rfl⟩
theorem aas:∀ args w,(callFunc 127 args).run prog w=.ok (.enter 127 args) w:=enters func127 rfl (by kernel_rfl)
theorem Ul:dV prog 107 3 3:=⟨by kernel_rfl⟩
theorem aaW:dV prog 107 4 4:=⟨by kernel_rfl⟩
theorem TJ:∀ args w,(callFunc 129 args).run prog w=.ok (.enter 129 args) w:=enters func129 rfl (by kernel_rfl)
theorem ahL:∀ args w,(callFunc 126 args).run prog w=.ok (.enter 126 args) w:=enters func126 rfl (by kernel_rfl)
theorem ahK:∀ args w,(callFunc 125 args).run prog w=.ok (.enter 125 args) w:=enters func125 rfl (by kernel_rfl)
theorem ahI:∀ args w,(callFunc 123 args).run prog w=.ok (.enter 123 args) w:=enters func123 rfl (by kernel_rfl)
theorem JD {G:GH} {b:Nat} (l:List Int) (h:G b=some (.cells (l.map vi).toArray 22 (0,0))) (hl:l.length≤maxLen):aB G (.sl 1 (l.map fun k=>[li k])) (.slice (some ⟨b,0,none⟩) l.length l.length) :=
 aB.fZ h (by simp) (dQ _) hl (kF (by simp)) (gH G l)
theorem Kv {G:GH} {l:List jI} {A:Option Addr} {n c k:Nat} (hv:aB G (.sl 6 (l.map jI.dat)) (.slice A n c)) (hk:k < l.length):∃ b o,A=some ⟨b,o,none⟩∧(∀ j u,l[k].cells[j]?=some u→aH G b (o+k*6+j)=some u)∧bH G l[k].dat l[k].cells:=by
 obtain ⟨A',c',he,_,_,hg⟩:=hv.slice
 injection he with e1 e2 e3
 subst e1;obtain ⟨b,o,cs,h1,h2,h3,h4⟩:=hg k l[k].dat (by simp [hk]);have:=aac h4;subst this;exact ⟨b,o,h1,h3,h4⟩
theorem ahf {G:GH} {bl:Nat} {l:List jI} {A:Option Addr} {n c:Nat} (hb:aH G bl 0=some (.slice A n c)) (hv:aB G (.sl 6 (l.map jI.dat)) (.slice A n c)):vP (.func (.func 126) #[] #[(aK bl 0)]) G l.length fun k=>(l[k]?.map jI.id).getD 0:=by
 intro k hk G1 w0 hm hG;refine mU (caps:=[(aK bl 0)]) ahL ?_;replace hb:=aF hm hb
 obtain rfl:n=l.length:=by have:=hv.len;simpa using this
 obtain ⟨b,o,rfl,hrow,-⟩:=Kv (hv.mono hm) hk;have hq:=hrow 0 _ rfl;refine eN [(0,_),(1,_)] func126 rfl ntmps126 rfl rfl hG ?_;intro a H;refine kP H (SR fun _ K1=>ak K1 rfl (SR fun _ K2=>Rg Br rfl (by assumption) ?_));clear H K1;intro a H;refine kH H (Rm rfl (Ri Ai ze rfl rfl (Rf Nj rfl (Rg aD rfl (by assumption) ?_))));clear H;intro a H;exact kH H (ak K2 rfl (LR results126 rfl fun H=>H.rt (by dsimp only;rw [gD hk];rfl)))
theorem ahh {G:GH} {bc:Nat} {x:jI} (hb:aH G bc 1=some (vi x.parent)) (y:jI):wP (.func (.func 125) #[] #[(aK bc 0)]) G y.dat (decide (y.id=x.parent)):=by
 intro G1 w0 cs hm hG hr;refine mU (caps:=[(aK bc 0)]) ahK ?_;obtain rfl:=aac hr;replace hb:=aF hm hb;refine eN [(0,_),(1,_)] func125 rfl ntmps125 rfl rfl hG ?_;intro a H;refine dz (fun _ K1=>?_);refine eU (cs:=[_,_,_,_,_,_]) H wn rfl rfl rfl ?_;clear H;intro b2 a w hb2 H;refine kH H (ak K1 rfl (SR fun _ K2=>aW Nj aD 0 rfl rfl (Rf Qd rfl (Rg aD rfl (by assumption) ?_))));clear H K1;intro a H;exact kH H (Rc rfl (ak K2 rfl (LR results125 rfl fun H=>H.rt rfl)))
theorem anp (G:GH) (w0:World) (hG:Hold G w0) (l:List jI) (p:jI→Bool) (v fv:aj) (hv:aB G (.sl 6 (l.map jI.dat)) v) (hf:∀ x∈l,wP fv G x.dat (p x)) :
  Calls prog 191 #[v,fv] w0 (bR w0 G fun u G'=>u=vi (rO (l.findIdx? p))):=by
 obtain ⟨A,c,rfl,hc1,hc2,hg⟩:=hv.slice;have hml:maxLen=9223372036854775807:=rfl;rw [bZ] at *;refine eN [(0,_),(1,_)] func191 rfl ntmps191 rfl rfl hG ?_;intro a H;refine kP H (SR fun _ K1=>ak K1 rfl (SQ fun _ K2=>SR fun _ K3=>Rm rfl (Rl Ai rfl (Rm rfl (Kz K3 (SB ?_))))));clear H K1 K3;intro a H;skip;refine fH (ι:=Nat × GH) (Tc:=[(0,_),(1,_),(7,_)]) (Lc:=[]) (fun gh=>[(8,vi gh.1)]) (fun gh=>[]) (fun gh=>gh.2) (fun gh=>gh.1≤l.length∧(l.take gh.1).findIdx? p=none∧(∀ b o,G b=some o→gh.2 b=some o)) (fun gh=>l.length - gh.1) ((0,G)) (by exact (H).sub ⟨rfl,rfl,rfl,rfl,av⟩) ?_ ?_
 ·exact ⟨by omega,rfl,fun _ _ h=>h⟩
 clear H;intro gh a w hI H;obtain ⟨k,g⟩:=gh;dsimp only at hI H;obtain ⟨hk,hno,hgm⟩:=hI;dsimp only [lca,aS] at H;refine kP H (SR fun _ K4=>Rc rfl (Kz K4 (SQ fun _ K5=>Cd rfl ?_ ?_))) <;> clear H K4
 ·intro h9 a H
  try have p9:=dT h9
  have hk2:k < l.length:=by omega
  obtain ⟨b,o,rfl,hrow,hrep⟩:=Kv hv hk2;refine kP H (Kc K5 (SQ fun _ K6=>SB (SR fun _ K7=>Rm rfl (ak K7 rfl (SR fun _ K8=>Rm rfl (Rm rfl (Rm rfl (Ri Ai ze rfl rfl ?_))))))));clear H K5 K7;intro a H;refine bD ze (cs:=l[k].cells) H wn rfl rfl (fun j v hj=>H.hp.aH (aF hgm (hrow j v hj))) rfl ?_;clear H;intro a H;refine qP H wn rfl rfl (hf _ (jr hk2) _ _ _ hgm H.ro (hrep.mono hgm)) rfl ?_;clear H;rintro v16 Aq a w rfl AY H;refine K8 _ _ ?_;clear K8;refine oN H rfl ?_ ?_
  ·intro h16
   try have p16:=dT h16
   refine kP H (SR fun _ K9=>Rm rfl (ak K9 rfl ?_));clear H K9;intro a H;refine lr H results191 rfl ?_
   first
    | exact H.rt (by rw [zW hk2 hno h16];rfl)
    | exact H.rt (by rw [show l.take k=l from kF (by omega)] at hno;rw [hno];rfl)
  intro h16
  try have p16:=dF h16
  refine kP H (Kc K6 (SC (Rd rfl (Rm rfl ?_))));clear H K6;intro a H;refine aI ?_;refine dP ((k+1,Aq)) (by exact (H).sub ⟨rfl,rfl,rfl,rfl,av⟩) ?_ ?_
  ·(try dsimp only);exact ⟨by omega,JB hk2 hno h16,fun b o h=>AY b o (hgm b o h)⟩
  first|omega|(dsimp only;omega)
 intro h9 a H
 try have p9:=dF h9
 refine eD ?_;refine K2 _ _ ?_;clear K2;refine kP H (SR fun _ aZ=>ak aZ rfl ?_);clear H aZ;intro a H;refine lr H results191 rfl ?_
 first
  | exact H.rt (by rw [zW hk2 hno h16];rfl)
  | exact H.rt (by rw [show l.take k=l from kF (by omega)] at hno;rw [hno];rfl)
theorem ahj (G:GH) (w0:World) (hG:Hold G w0) (l:List jI) (p:jI→Bool) (v fv:aj) (hv:aB G (.sl 6 (l.map jI.dat)) v) (hf:∀ x∈l,wP fv G x.dat (p x)) :
  Calls prog 124 #[v,fv] w0 (bR w0 G fun u G'=>u=.bool (l.findIdx? p).isSome):=by
 obtain ⟨A,c,rfl,hc1,hc2,-⟩:=hv.slice;rw [bZ] at *;refine eN [(0,_),(1,_)] func124 rfl ntmps124 rfl rfl hG ?_;intro a H;refine kP H (SR fun _ K1=>ak K1 rfl (SR fun _ K2=>Rm rfl (Rm rfl ?_)));clear H K1;intro a H;refine s_call aiv H wn rfl (anp _ _ H.ro l p _ _ hv hf) rfl ?_;clear H;rintro v7 G7 a w rfl uJ H;exact kH H (Rc rfl (ak K2 rfl (LR results124 rfl fun H=>H.rt (aL (WQ _)))))
def FQ (l:List jI) (i:Nat) (x:jI):Bool:=decide (x.parent=0) || ((l.take i).findIdx? fun y=>decide (y.id=x.parent)).isSome
def BI (l:List jI) (i:Nat) (x:jI):Int:=bV [lQ (fun k=>(l[k]?.map jI.id).getD 0) i,bS (!FQ l i x) 8,bS (!qE x.author) 39,bS (!decide (0≤x.time∧x.time≤1099511627776)) 40,uj x.text]
def uW (l:List jI) (i:Nat):Int:=match l[i]? with|some x=>BI l i x|none=>0
theorem ahe {G:GH} {bl:Nat} {l:List jI} {A:Option Addr} {n c:Nat} (hb:aH G bl 0=some (.slice A n c)) (hv:aB G (.sl 6 (l.map jI.dat)) (.slice A n c)) (hl:l.length≤4294967296) (ht:∀ x∈l,x.author.size < 4611686018427387904∧x.text.size < 4611686018427387904):vP (.func (.func 123) #[] #[(aK bl 0)]) G l.length (uW l):=by
 intro k hk G1 w0 hm hG;refine mU (caps:=[(aK bl 0)]) ahI ?_;replace hb:=aF hm hb;replace hv:=hv.mono hm;have hcb:=ahf hb hv;obtain ⟨_,_,hee,hvc,-,-⟩:=hv.slice
 injection hee with _ _ hcc
 subst hcc;rw [bZ] at hvc
 obtain rfl:n=l.length:=by have:=hv.len;simpa using this
 obtain ⟨b,o,rfl,hrow,hrep⟩:=Kv hv hk;have hte:=ht _ (jr hk);obtain ⟨x,hx⟩:∃ x,x=l[k]:=⟨_,rfl⟩;rw [← hx] at hrow hte
 have he:uW l k=BI l k x:=by unfold uW;rw [gD hk,hx]
 refine eN [(0,_),(1,_)] func123 rfl ntmps123 rfl rfl hG ?_;intro a H;refine kP H (SR fun _ K1=>ak K1 rfl (SR fun _ K2=>Rg Br rfl (by assumption) ?_));clear H K1;intro a H;refine kH H (Rm rfl (Ri Ai ze rfl rfl ?_));clear H;intro a H;refine bD ze (cs:=x.cells) H wn rfl rfl (fun j v hj=>H.hp.aH (hrow j v hj)) rfl ?_;clear H;intro a H;refine dR ze H wn rfl ?_;clear H;intro b4 a w hb4 H;refine bO ze 0 (vs:=[_,_,_,_,_,_]) _ H wn rfl rfl rfl rfl rfl rfl rfl rfl ?_;clear H;intro w H;dsimp only [List.set,setRow] at H;obtain ⟨Ga,hma,Cc,H⟩:=H.fD
 have hcell:∀ (j:Nat) (u:aj),x.cells[j]?=some u→aH Ga b4 j=some u:=fun j u hj=>by unfold aH;rw [Cc];simpa using hj
 have q1:=hcell 1 _ rfl;have hbA:=aF hma hb;have acz:=(hv.mono hma).pre k (by rw [bZ];omega);rw [← List.map_take] at acz;refine K2 _ _ ?_;clear K2;refine oO (ι:=Bool × GH) (Tc:=[(0,_),(1,_),(4,_)]) (Lc:=[]) (fun gh=>[(5,.bool gh.1)]) (fun gh=>[]) (fun gh=>gh.2) (fun gh=>gh.1=FQ l k x∧(∀ b o,Ga b=some o→gh.2 b=some o)) (by exact (H).sub ⟨rfl,rfl,rfl,av⟩) ?_ ?_
 ·skip;refine kP H (SC (Rf Qd rfl (Rg aD rfl (by assumption) ?_)));clear H;intro a H;refine kH H (Rc rfl (Rm rfl (Sp 13 rfl ?_ ?_))) <;> clear H
  ·intro fP a H
   try have qN:=dT fP
   refine kH H (aT fP rfl (aP fP rfl (Pt fP rfl (Ra rfl ?_))));clear H;intro a H;refine aI ?_;refine ⟨(_,_),by exact (H).sub ⟨rfl,rfl,rfl,rfl,av⟩,?_⟩;(try dsimp only)
   first
   | exact ⟨by unfold FQ;rw [gq (by assumption)];rfl,fun _ _ h=>h⟩
   | exact ⟨by unfold FQ;rw [iC (by assumption)];rfl,hm18⟩
  intro fP a H
  try have qN:=dF fP
  refine kH H (YR Br fP rfl (by assumption) ?_);clear H;intro a H;refine kH H (YM fP rfl ?_);clear H;intro a H;refine aeh Ai ze k H (wg H rfl rfl fP) rfl rfl rfl (by omega) rfl ?_;clear H;intro a H;refine qR H (wg H rfl rfl fP) rfl rfl ?_;clear H;intro a H;refine s_call ahJ H (wg H rfl rfl fP) rfl (ahj _ _ H.ro (l.take k) (fun y=>decide (y.id=x.parent)) _ _ acz (fun y _=>ahh q1 y)) rfl ?_;clear H;rintro v18 YA a w rfl hm18 H;refine kH H (Pf fP rfl (Ra rfl ?_));clear H;intro a H;refine aI ?_;refine ⟨(_,_),by exact (H).sub ⟨rfl,rfl,rfl,rfl,av⟩,?_⟩;(try dsimp only)
  first
  | exact ⟨by unfold FQ;rw [gq (by assumption)];rfl,fun _ _ h=>h⟩
  | exact ⟨by unfold FQ;rw [iC (by assumption)];rfl,hm18⟩
 clear H;intro gh a w hI H;obtain ⟨bf,g⟩:=gh;dsimp only at hI H;obtain ⟨hbf,hgm⟩:=hI;replace hcell:=fun j u hj=>aF hgm (hcell j u hj);replace hcb:=(hcb.mono hma).mono hgm;dsimp only [lca,aS] at H;refine aO (fun _ K3=>?_);have H:=H.sub (T':=[(0,_),(1,_),(4,_),(5,_)]) ⟨rfl,rfl,rfl,rfl,av⟩;refine dI hmx [[],[],[0,1],[],[3],(ra 0 5),[],[6],(ra 0 8),(ra 0 9),(ra 0 10),[],[11],(ra 0 13),(ra 0 14),(ra 0 15),[],[16],(ra 0 18),(ra 0 19),(ra 0 20),(ra 0 21)] [19,20,21] (by kernel_rfl) [_,.func (.func 126) #[] #[(aK bl 0)],vi (lQ (fun k=>(l[k]?.map jI.id).getD 0) k),_,_,vi (bS (!bf) 8),_,_,.bool (qE x.author),_,vi (bS (!qE x.author) 39),_,_,.bool (decide (0≤x.time∧x.time≤1099511627776)),_,vi (bS (!decide (0≤x.time∧x.time≤1099511627776)) 40),_,_,vi (uj x.text)] H (aG (Z0 rfl (Rm rfl)) ?_ ?_ (Z0 rfl (Rm rfl)) (aG (Z1 3 23 rfl (Rn rfl)) ?_ (Z0 rfl (Rf aaV rfl)) (X1 6 26 rfl fun hG=>Rg gX rfl (aF hG (hcell 2 _ rfl))) (aG ?_ (Z1 8 28 rfl (Rn rfl)) ?_ (Z0 rfl (Rf Ul rfl)) (aG (X1 11 31 rfl fun hG=>Rg aD rfl (aF hG (hcell 3 _ rfl))) ?_ (Z1 13 33 rfl (Rn rfl)) ?_ (aG (Z0 rfl (Rf aaW rfl)) (X1 16 36 rfl fun hG=>Rg gX rfl (aF hG (hcell 4 _ rfl))) ?_ (cZ rfl) (bG (cZ rfl) (bG (cZ rfl) dU))))))) ?_
 ·refine Ee rfl fun _ a w G1 hG HT H fin=>?_;refine qR H wn rfl rfl ?_;clear H;intro a H;exact fin H iJ rfl
 ·refine fu 0 20 1 21 rfl rfl fun _ a w G1 hG HT H fin=>?_;refine s_call TI H wn rfl (WK _ _ H.ro k _ _ (by omega) (fun i hi=>(hcb.mono hG) i (by omega))) rfl ?_;clear H;rintro v22 G22 a w rfl yN H;exact fin H yN (rfl)
 ·refine eF 4 24 rfl rfl fun _ a w G1 hG HT H fin=>?_;refine s_call kS H wn rfl (kW _ _ H.ro _ 8) rfl ?_;clear H;rintro v25 G25 a w ⟨rfl,-⟩ Dr H;exact fin H Dr (rfl)
 ·refine eF 7 27 rfl rfl fun _ a w G1 hG HT H fin=>?_;refine s_call aas H wn rfl (Zz _ _ H.ro x.author hte.1) rfl ?_;clear H;rintro v28 G28 a w ⟨rfl,-⟩ akG H;exact fin H akG (rfl)
 ·refine eF 9 29 rfl rfl fun _ a w G1 hG HT H fin=>?_;refine s_call kS H wn rfl (kW _ _ H.ro _ 39) rfl ?_;clear H;rintro v30 Fv a w ⟨rfl,-⟩ U6 H;exact fin H U6 (rfl)
 ·refine eF 12 32 rfl rfl fun _ a w G1 hG HT H fin=>?_;refine s_call zJ H wn rfl (zX _ _ H.ro x.time 0 1099511627776) rfl ?_;clear H;rintro v33 G33 a w ⟨rfl,-⟩ akH H;exact fin H akH (rfl)
 ·refine eF 14 34 rfl rfl fun _ a w G1 hG HT H fin=>?_;refine s_call kS H wn rfl (kW _ _ H.ro _ 40) rfl ?_;clear H;rintro v35 YE a w ⟨rfl,-⟩ U7 H;exact fin H U7 (rfl)
 ·refine eF 17 37 rfl rfl fun _ a w G1 hG HT H fin=>?_;refine s_call TJ H wn rfl (X7 _ _ H.ro x.text hte.2) rfl ?_;clear H;rintro v38 YG a w rfl akI H;exact fin H akI (rfl)
 clear H;intro a w G Qp H hv;have H:=H.aU (hv 2 22 rfl rfl) rfl;have H:=H.aU (hv 5 25 rfl rfl) rfl;have H:=H.aU (hv 10 30 rfl rfl) rfl;have H:=H.aU (hv 15 35 rfl rfl) rfl;have H:=H.aU (hv 18 38 rfl rfl) rfl;clear hv;refine jF rU jg [_,_,_,_,_] [_,_,_,_,_] H wn rfl rfl rfl rfl rfl (by intro i q h;match i,h with|0,h=>exact h|1,h=>exact h|2,h=>exact h|3,h=>exact h|4,h=>exact h|n+5,h=>simp at h) rfl rfl ?_;clear H;intro b39 a w asG H;obtain ⟨YH,abV,alj,H⟩:=H.fD;refine s_call tH H wn rfl (tJ _ _ H.ro _ _ (JD [lQ (fun k=>(l[k]?.map jI.id).getD 0) k,bS (!bf) 8,bS (!qE x.author) 39,bS (!decide (0≤x.time∧x.time≤1099511627776)) 40,uj x.text] alj (show 5≤maxLen by decide))) rfl ?_;clear H;rintro v40 _ a w ⟨rfl,rfl⟩ - H;refine kH H (Ra rfl ?_);clear H;intro a H;refine aI ⟨rfl,?_⟩;refine K3 _ _ ?_;clear K3;refine lr H results123 rfl ?_;exact H.rt (by rw [he,BI,← hbf])
def uV (l:List jI):Int:=bV [bS (decide (1024 < (l.length:Int))) 9,iQ (uW l) (min l.length 1024)]
theorem agO (G:GH) (w0:World) (hG:Hold G w0) (l:List jI) (v:aj) (hv:aB G (.sl 6 (l.map jI.dat)) v) (hl:l.length≤4294967296) (ht:∀ x∈l,x.author.size < 4611686018427387904∧x.text.size < 4611686018427387904) :
  Calls prog 54 #[v] w0 (bR w0 G fun u G'=>u=vi (uV l)):=by
 obtain ⟨A,c,rfl,hc1,hc2,-⟩:=hv.slice;rw [bZ] at *;refine eN [(0,_)] func54 rfl ntmps54 rfl rfl hG ?_;intro a H;refine dz (fun _ K1=>?_);refine eU (cs:=[_]) H wn rfl rfl rfl ?_;clear H;intro b1 a w hb1 H;refine kH H (ak K1 rfl (SQ fun _ K2=>?_));clear H K1;intro a H;have H:=H.sub (T':=[(1,_)]) ⟨rfl,av⟩;obtain ⟨Ga,hma,hb1',H⟩:=H.fD
 have hbl:aH Ga b1 0=some (.slice A l.length c):=by unfold aH;rw [hb1'];rfl
 have hcb:=ahe hbl (hv.mono hma) hl ht;refine dI hmx [[],[0],[0,1],[0,1,2],[],[4],[4,5],[],(ra 0 8),(ra 0 9),(ra 0 10),(ra 0 11)] [9,10,11] (by kernel_rfl) [_,_,_,vi (bS (decide (1024 < (l.length:Int))) 9),_,_,vi ((min l.length 1024:Nat):Int),.func (.func 123) #[] #[(aK b1 0)],vi (iQ (uW l) (min l.length 1024))] H (aG (X0 rfl fun hG=>Rg Br rfl (aF hG hbl)) (Z1 0 3 rfl (Rl Ai rfl)) (Z1 1 4 rfl (Rc rfl)) ?_ (aG (X0 rfl fun hG=>Rg Br rfl (aF hG hbl)) (Z1 4 7 rfl (Rl Ai rfl)) ?_ ?_ (aG ?_ (cZ rfl) (cZ rfl) (cZ rfl) dU))) ?_
 ·refine eF 2 5 rfl rfl fun _ a w G1 hG HT H fin=>?_;refine s_call kS H wn rfl (kW _ _ H.ro _ 9) rfl ?_;clear H;rintro v6 G6 a w ⟨rfl,-⟩ lu H;exact fin H lu (rfl)
 ·refine eF 5 8 rfl rfl fun _ a w G1 hG HT H fin=>?_;refine RP H wn rfl rfl rfl ?_;clear H;intro a H;exact fin H iJ (aC vi (by omega))
 ·refine Ee rfl fun _ a w G1 hG HT H fin=>?_;refine qR H wn rfl rfl ?_;clear H;intro a H;exact fin H iJ rfl
 ·refine fu 6 9 7 10 rfl rfl fun _ a w G1 hG HT H fin=>?_;refine s_call Ky H wn rfl (MP _ _ H.ro (min l.length 1024) (uW l) _ (by omega) ((hcb.mono hG).le (Nat.min_le_left _ _))) rfl ?_;clear H;rintro v11 zx a w rfl xD H;exact fin H xD (rfl)
 clear H;intro a w G qK H hv;have H:=H.aU (hv 3 6 rfl rfl) rfl;have H:=H.aU (hv 8 11 rfl rfl) rfl;clear hv;refine jF rU jg [_,_] [_,_] H wn rfl rfl rfl rfl rfl (by intro i q h;match i,h with|0,h=>exact h|1,h=>exact h|n+2,h=>simp at h) rfl rfl ?_;clear H;intro b12 a w Gp H;obtain ⟨Fu,Jj,I9,H⟩:=H.fD;refine s_call tH H wn rfl (tJ _ _ H.ro _ _ (Bo I9)) rfl ?_;clear H;rintro v13 _ a w ⟨rfl,rfl⟩ - H;refine kH H (Ra rfl ?_);clear H;intro a H;refine aI ⟨rfl,?_⟩;refine K2 _ _ ?_;clear K2;refine lr H results54 rfl ?_;exact H.rt rfl
end
section
open Go.RowKit
def zY:Nat→List Int→List MapEntry
 | _,[]=>[]
 | i,k :: r=>⟨.int .i64 k,.int .i64 (i:Int),i⟩ :: zY (i+1) r
theorem adk (x:Int):∀ (i:Nat) (l:List Int),zY i (l++[x])=zY i l++[⟨.int .i64 x,.int .i64 ((i+l.length:Nat):Int),i+l.length⟩]
 | _,[]=>rfl
 | i,k :: r=>by
  rw [nV,zY,adk x (i+1) r,zY,nV,nG,show i+1+r.length=i+(r.length+1) by omega]
def xJ (x:Int):Nat→List Int→Option Nat
 | _,[]=>none
 | i,k :: r=>if k=x then some i else xJ x (i+1) r
theorem acI {x:Int}:∀ {l:List Int} {i n:Nat},xJ x i l=some n→i≤n
 | [],_,_,h=>by cases h
 | k :: r,i,n,h=>by
  rw [xJ] at h;split at h
  ·cases h;exact dQ _
  ·have:=acI h;omega
theorem acK {x:Int}:∀ {l:List Int} {i:Nat},x∉l→xJ x i l=none
 | [],_,_=>rfl
 | k :: r,i,h=>by
  rw [xJ,ah (fun e=>h (by simp [e])),acK (fun hm=>h (lg _ hm))]
theorem Uu (x:Int):∀ (i j:Nat) (l:List Int),Instr.findNow (.int .i64) (.int .i64 x) (zY i l) j=some ((xJ x i l).map fun n=>(j+(n - i),.int .i64 (n:Int)))
 | _,_,[]=>rfl
 | i,j,k :: r=>by
  have ih:=Uu x (i+1) (j+1) r
  by_cases e:k=x
  ·subst e
   simp only [zY,Instr.findNow,Instr.sameNow,au,xJ,beq_self_eq_true]
   simp
  ·have hb:(x == k)=false:=by simp;exact fun h=>e h.symm
   simp only [zY,Instr.findNow,Instr.sameNow,au,hb,xJ,ah e,ih]
   cases h:xJ x (i+1) r with
   | none=>rfl
   | some n =>
    have:=acI h
    simp only [zD,pU,jc,and_true]
    omega
abbrev afW (b:Nat) (l:List Int):Nat × Obj:=(b,.map (zY 0 l).toArray l.length)
theorem aoe (l:List Int) (x:Int):(zY 0 l).toArray.push ⟨.int .i64 x,.int .i64 (l.length:Int),l.length⟩=(zY 0 (l++[x])).toArray:=by
 rw [adk,List.push_toArray,pz]
end
section
open Go.RowKit
section
variable {P:Program} {N:Nat} {D:List Deferred} {w0 w w':World} {F:Nat→Prop} {G0 G G':GH} {L L' Li Lo:OL} {T:List (Nat × aj)} {a a':Act} {Q:Exit→Act→World→Prop}
variable {r:Option Nat} {ops:Array Oper} {rest:List Oper}
def SG (P:Program) (Gi:GH) (B:OL) (gv:aj) (xs:List AP):Prop :=
 ∀ (J:Nat→GH→OL→Prop) (Jx:GH→OL→Prop) (fv:aj) (G:GH) (L:OL) (w:World),fv.cells=#[fv]→(∀ b o,Gi b=some o→G b=some o)→H7 J→Ip Jx→J 0 G L→jQ G (B++L) w→Fq P fv G xs J Jx →
  yg P gv [fv] w (jk w G (B++L) fun _ G' L'=>J xs.length G' L'∨Jx G' L')
theorem SG.mono {Gi Fw:GH} {B:OL} {gv:aj} {xs:List AP} (h:SG P Gi B gv xs) (hm:∀ b o,Gi b=some o→Fw b=some o):SG P Fw B gv xs :=
 fun J Jx fv G L w h0 h1=>h J Jx fv G L w h0 fun b o hb=>h1 b o (hm b o hb)
end
end
section
open Go.RowKit
section
variable {P:Program} {N:Nat} {D:List Deferred} {w0 w w':World} {F:Nat→Prop} {G0 G G':GH} {L L' Li Lo:OL} {T:List (Nat × aj)} {a a':Act} {Q:Exit→Act→World→Prop}
variable {r:Option Nat} {ops:Array Oper} {rest:List Oper}
def Kg (P:Program) (Gi:GH) (B:OL) (gv:aj) (xs:List AP) (fin:Bool):Prop :=
 ∀ (J:Nat→GH→OL→Prop) (Jx:GH→OL→Prop) (fv:aj) (G:GH) (L:OL) (w:World),fv.cells=#[fv]→(∀ b o,Gi b=some o→G b=some o)→H7 J→Ip Jx→J 0 G L→jQ G (B++L) w→Fq P fv G xs J Jx→(fin=false→∀ g l,¬ J xs.length g l) →
  yg P gv [fv] w (jk w G (B++L) fun _ G' L'=>J xs.length G' L'∨Jx G' L')
theorem Kg.mono {Gi Fw:GH} {B:OL} {gv:aj} {xs:List AP} {fin:Bool} (h:Kg P Gi B gv xs fin) (hm:∀ b o,Gi b=some o→Fw b=some o):Kg P Fw B gv xs fin :=
 fun J Jx fv G L w h0 h1=>h J Jx fv G L w h0 fun b o hb=>h1 b o (hm b o hb)
theorem agt {fin:Bool} {B:OL} {BR:Operand} {ps:List Nat} {assign body:Code} {gf:FuncId} {caps:List aj} {xs:List AP} {Gi:GH}
  (H:St N D w0 F G0 G (B++L) T a w) (hg:ev T BR=some (.func (.func gf) #[] caps.toArray)) (en:∀ args w,(callFunc gf args).run P w=.ok (.enter gf args) w) (hit:Kg P Gi B (.func (.func gf) #[] caps.toArray) xs fin) (hGi:∀ b o,Gi b=some o→G b=some o)
  (hps:ps.all (Nat.blt · N)=true) (hlen:∀ k args g,zu xs k args g→args.length=ps.length)
  (J:Nat→GH→OL→Prop) (Jx:Code→GH→OL→Prop) (hno:fin=false→∀ g l,¬ J xs.length g l) (nk:H7 J) (hJx:∀ c,Ip (Jx c)) (h0:J 0 G L) (Wi:SX P N ps assign body T G J Jx xs)
  (hdone:∀ Dk G1 L1 a1 w1,(∀ b o,G b=some o→G1 b=some o)→J xs.length G1 L1→St N ({ target:=.collected Dk,args:=#[] } :: D) w0 F G0 G1 ((Dk,.deferred (some [])) :: L1) T a1 w1→Q .normal a1 w1)
  (hstop:∀ Dk c G1 L1 a1 w1,(∀ b o,G b=some o→G1 b=some o)→Jx c G1 L1→St N ({ target:=.collected Dk,args:=#[] } :: D) w0 F G0 G1 ((Dk,.deferred (some [])) :: L1) T a1 w1→WP none P c Q a1 w1) :
  WP none P (.rangeFunc BR ps.toArray assign body) Q a w:=by
 refine wpIn_rangeFunc ?_
 intro fn _
 have hev:=H.ev hg
 let q:Rec:=⟨fn,a.tmps,ps.toArray,assign,body,w.heap.size⟩
 obtain ⟨W1,hW1⟩:∃ W1,W1=(w.alloc (.deferred (some []))).alloc (q.at .ready none):=⟨_,rfl⟩
 have H1:Hp w0 F G0 G (B++((w.heap.size+1,q.at .ready none) :: (w.heap.size,.deferred (some [])) :: L)) W1:=by
  have:=(H.hp.alloc (.deferred (some []))).alloc (q.at .ready none)
  rw [World.size_alloc] at this
  rw [hW1]
  refine this.perm ?_
  have e:=Da (l₁:=[(w.heap.size+1,q.at .ready none),(w.heap.size,Obj.deferred (some []))]) (l₂:=B)
  have e2:=List.Perm.append_right L e
  rw [mG,mG] at e2
  exact e2
 refine ⟨w.heap.size+1,[{ target:=.collected w.heap.size,args:=#[] }],W1,{ target:=.fn (.func gf) caps.toArray,args:=#[.func (.yield (w.heap.size+1)) #[] #[]] },W1,gf,
  #[.func (.yield (w.heap.size+1)) #[] #[]]++caps.toArray,W1,by rw [hW1];exact run_enterLoop_outer fn a.tmps ps.toArray assign body,?_,fun _ _=>trivial,?_,O7 none,?_⟩
 ·simp only [resolve,rangeCall,hev]
  simp [Deferred.ofValue,Act.eval]
 ·simp [invoke,en]
 ·have hcv:=hit (fun k=>Jr (w.heap.size+1) q [(w.heap.size,.deferred (some []))] (J k)) (Pj (w.heap.size+1) q [(w.heap.size,.deferred (some []))] Jx) (.func (.yield (w.heap.size+1)) #[] #[]) G
   ((w.heap.size+1,q.at .ready none) :: (w.heap.size,.deferred (some [])) :: L) W1 rfl hGi (fun k G G' L hm ⟨Lu,e,h⟩=>⟨Lu,e,nk k G G' Lu hm h⟩) (fun G G' L hm ⟨c,Lu,e,h⟩=>⟨c,Lu,e,hJx c G G' Lu hm h⟩) ⟨L,rfl,h0⟩ (Hp.owns (Li:=[]) H1) (ZV H.oz H.get hps hlen Wi) (fun e g l ⟨Lu,_,h⟩=>hno e g Lu h)
  replace hcv:=hcv.go
  have e:(do let d ← Deferred.ofValue (.func (.func gf) #[] caps.toArray) [Value.func (.yield (w.heap.size+1)) #[] #[]].toArray;invoke d.target d.args:Sem Next).run P W1=.ok (.enter gf (#[.func (.yield (w.heap.size+1)) #[] #[]]++caps.toArray)) W1:=by
   simp [Deferred.ofValue,invoke,en]
  rw [e] at hcv
  refine (Tm hcv).mono ?_
  rintro e w2 ⟨v,G2,L2,rfl,hch,hJ⟩
  have H2:=Hp.change (Li:=[]) H1 hch
  rcases hJ with ⟨Lu,rfl,hJ⟩|⟨c,Lu,rfl,hJ⟩
  ·have hl:=H2.own _ (jd)
   have H3:=(H2.upd (i:=0) rfl (Hg (q.at .exhausted none) hl)).drop (Eh _ _)
   exact ⟨none,_,run_endLoop hl (by simp),hdone _ G2 Lu _ _ hch.gm hJ ⟨H.oz,H.get,by simp [H.uY],H3⟩⟩
  ·have hl:=H2.own _ (jd)
   have H3:=(H2.upd (i:=0) rfl (Hg (q.at .exhausted (some c)) hl)).drop (Eh _ _)
   exact ⟨some c,_,run_endLoop hl (by simp),hstop _ c G2 Lu _ _ hch.gm hJ ⟨H.oz,H.get,by simp [H.uY],H3⟩⟩
theorem agu {fin:Bool} {B:OL} {ι κ:Type} {Lc:OL} {BR:Operand} {ps:List Nat} {assign body:Code} {gf:FuncId} {caps:List aj} {xs:List AP} {Gi:GH}
  (Lv:Nat→ι→OL) (Lt:Nat→ι→OL) (inv:Nat→ι→GH→Prop) (cx:κ→Code) (Lx Im:κ→OL) (Cr:κ→GH→Prop) (i0:ι)
  (H:St N D w0 F G0 G (B++(Lc++Lv 0 i0++Lt 0 i0)) T a w) (hg:ev T BR=some (.func (.func gf) #[] caps.toArray)) (en:∀ args w,(callFunc gf args).run P w=.ok (.enter gf args) w) (hit:Kg P Gi B (.func (.func gf) #[] caps.toArray) xs fin) (hGi:∀ b o,Gi b=some o→G b=some o)
  (hno:fin=false→∀ i g,¬ inv xs.length i g) (hps:ps.all (Nat.blt · N)=true) (hlen:∀ k args g,zu xs k args g→args.length=ps.length) (hinv:∀ k i (G G':GH),(∀ b o,G b=some o→G' b=some o)→inv k i G→inv k i G') (VL:∀ x (G G':GH),(∀ b o,G b=some o→G' b=some o)→Cr x G→Cr x G') (h0:inv 0 i0 G)
  (round:∀ (l:Nat) (uL sj:Obj) (bk:OL) (k:Nat) (args:List aj) (i:ι) (G1:GH) (w1:World) (F1:Nat→Prop) (B1:Code→Exit→Act→World→Prop) (a1:Act),zu xs k args G1→(∀ b o,G b=some o→G1 b=some o)→inv k i G1 →
   (∀ T' G2 L2 a2 w2 c,St N [] w1 F1 G1 G2 ((l,uL) :: L2) T' a2 w2→(∀ w3,St N [] w1 F1 G1 G2 ((l,sj) :: L2) T' a2 w3→WP (some l) P c (B1 c) a2 w3)→Exit.then (fun a2 w2=>∃ w3,(Instr.beginRound l).run P w2=.ok () w3∧c.wpIn (FW (some l)) 0 P (B1 c) a2 w3) (fun _ _ _=>False) .normal a2 w2) →
   (∀ i' T' G2 a2 w2 c,St N [] w1 F1 G1 G2 ((l,sj) :: (Lc++Lv (k+1) i'++(bk++Lt (k+1) i'))) T' a2 w2→inv (k+1) i' G2→B1 c .normal a2 w2) →
   (∀ x T' G2 a2 w2 c,St N [] w1 F1 G1 G2 ((l,sj) :: (Lc++Lx x++(bk++Im x))) T' a2 w2→Cr x G2→(cx x=.ret→B1 c .ret a2 w2)∧∀ n,cx x=.exit n→B1 c (.exit n) a2 w2) →
   St N [] w1 F1 G1 G1 ((l,uL) :: (Lc++Lv k i++(bk++Lt k i))) (ru ps args T) a1 w1 →
   WP (some l) P assign (Exit.then (fun a2 w2=>∃ w3,(Instr.beginRound l).run P w2=.ok () w3∧body.wpIn (FW (some l)) 0 P (B1 body) a2 w3) (fun _ _ _=>False)) a1 w1)
  (hdone:∀ Dk i G1 a1 w1,(∀ b o,G b=some o→G1 b=some o)→inv xs.length i G1→St N ({ target:=.collected Dk,args:=#[] } :: D) w0 F G0 G1 ((Dk,.deferred (some [])) :: (Lc++Lv xs.length i++Lt xs.length i)) T a1 w1→Q .normal a1 w1)
  (hstop:∀ Dk x G1 a1 w1,(∀ b o,G b=some o→G1 b=some o)→Cr x G1→St N ({ target:=.collected Dk,args:=#[] } :: D) w0 F G0 G1 ((Dk,.deferred (some [])) :: (Lc++Lx x++Im x)) T a1 w1→WP none P (cx x) Q a1 w1) :
  WP none P (.rangeFunc BR ps.toArray assign body) Q a w:=by
 refine agt (J:=fun k g L=>∃ i,L=Lc++Lv k i++Lt k i∧inv k i g) (Jx:=fun c g L=>∃ x,c=cx x∧L=Lc++Lx x++Im x∧Cr x g) H hg en hit hGi hps hlen (hno:=fun e g l ⟨i,_,h⟩=>hno e i g h) (fun k G G' L hm ⟨i,e,h⟩=>⟨i,e,hinv k i G G' hm h⟩) (fun c G G' L hm ⟨x,e1,e2,h⟩=>⟨x,e1,e2,VL x G G' hm h⟩) ⟨i0,rfl,h0⟩ ?_ ?_ ?_
 ·rintro l q bk k args G1 L1 w1 a1 hk hm ⟨i,rfl,hi⟩ H1
  have pm:∀ A B:OL,(bk++(A++B)).Perm (A++(bk++B)):=fun A B=>by
   rw [← mG,← mG]
   exact List.Perm.append_right B Da
  refine round l (q.at .ready none) (q.at .busy none) bk k args i G1 w1 _ (fun _=>roundPost P l _) a1 hk hm hi ?_ ?_ ?_ (H1.perm (List.Perm.cons _ (pm _ _)))
  ·intro T' G2 L2 a2 w2 c H2 h
   exact ZQ H2 h
  ·intro i' T' G2 a2 w2 c H2 h2
   exact LU none (H2.perm (List.Perm.cons _ (pm _ _).symm)) ⟨_,rfl,i',rfl,h2⟩
  ·intro x T' G2 a2 w2 c H2 h2
   have H3:=H2.perm (List.Perm.cons _ (pm _ _).symm)
   refine ⟨fun e=>?_,fun n e=>?_⟩
   ·exact LU (some .ret) H3 ⟨_,_,rfl,x,e.symm,rfl,h2⟩
   ·exact LU (some (.exit n)) H3 ⟨_,_,rfl,x,e.symm,rfl,h2⟩
 ·rintro Dk G1 L1 a1 w1 hm ⟨i,rfl,hi⟩ H1
  exact hdone Dk i G1 a1 w1 hm hi H1
 ·rintro Dk c G1 L1 a1 w1 hm ⟨x,rfl,rfl,hx⟩ H1
  exact hstop Dk x G1 a1 w1 hm hx H1
end
end
end Go.Proofs.YtlnhhlighgaapaaGreat
