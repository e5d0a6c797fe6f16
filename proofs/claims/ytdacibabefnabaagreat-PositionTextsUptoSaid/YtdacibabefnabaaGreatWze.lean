/-
  What the claim stands on, part 5: Pth Ubf Mp15 Rws Itm Its Rvs Chd Frs Ml15 Kt Kn Vc Chs Cu Bln Rtx Utf Utf2 Cy Slw Sls Fok Upo Cl Rc Gco Ptx Pt15 Brd Brs.
-/
import Derived.Test.YtdacibabefnabaaGreatWzd
import Derived.Lib.MapLaws
import Derived.Lib.ValidLaws
import Derived.Lib.RuneBytes
import Derived.Lib.TrimUEq
import Derived.Lib.BufferWrite
import Derived.ProofKit
import Derived.Deep.Slices
import Derived.Laws.StructEq
namespace Go.Proofs.YtdacibabefnabaaGreat
open Go.Proofs.Tryz
section
open Go.RowKit
theorem CY:prog.underlying 105=some (.slice 64):=by kernel_rfl
theorem aaY:∀ args w,(callFunc 20 args).run prog w=.ok (.enter 20 args) w:=enters func20 rfl (by kernel_rfl)
theorem ZO:∀ args w,(callFunc 109 args).run prog w=.ok (.enter 109 args) w:=enters func109 rfl (by kernel_rfl)
theorem Sc:∀ args w,(callFunc 48 args).run prog w=.ok (.enter 48 args) w:=enters func48 rfl (by kernel_rfl)
def zB (l:List aB):Nat→Int→Option (Option (List (Int × Int)))
 | 0,_=>none
 | n+1,f=>if f=0 then some (some []) else match oQ l f with
  | none=>some none
  | some p=>match zB l n p.1 with
   | none=>none
   | some r=>some (r.map (p :: ·))
def Bh (p:Int × Int):List Dat:=[li p.1,li p.2]
theorem agc (G:GH) (w0:World) (hG:Hold G w0) (A:Option Addr) (n c:Nat) (hn:n≤1) :
  Calls prog 109 #[.slice A n c] w0 (aZ w0 G fun _ G'=>G=G'):=by
 refine eN [(0,_)] func109 rfl ntmps109 rfl rfl hG ?_;intro a H;refine kP H (SR fun _ K1=>Rm rfl (Rl CY rfl (Rs rfl (Ra rfl (ak K1 rfl (SB ?_))))));clear H K1;intro a H;skip;refine gq (ι:=Unit) (Tc:=[(0,_)]) (Lc:=[]) (fun gh=>[(2,vi 0),(3,vi ((n:Int) - 1))]) (fun gh=>[]) (fun gh=>G) (fun gh=>True) (fun gh=>0) (()) (by exact (H).sub ⟨rfl,rfl,rfl,aD⟩) ?_ ?_
 ·trivial
 clear H;intro gh a w hI H;obtain ⟨u,hgh⟩:∃ x,x=gh:=⟨_,rfl⟩;subst hgh;skip;dsimp only [lca,aV] at H;refine kP H (SQ fun _ K2=>SR fun _ K3=>Rm rfl (Rm rfl (Rc rfl (Kz K3 (Cd rfl ?_ ?_))))) <;> clear H K3
 ·intro h9 a H
  try have p9:=dT h9
  exact absurd p9 (by omega)
 intro h9 a H
 refine fI ?_;refine (leave0 H results109 ?_).2;exact H.rt rfl
theorem U1 (G:GH) (w0:World) (hG:Hold G w0) (D:jQ) (l:List aB) (flow:Int) (hv:av G (.sl 11 (l.map aB.dat)) (fJ D.f)) (hz:bG l≤4294967296) (n:Nat) (hn:n≤4294967296) (res:Option (List (Int × Int))) (hp:zB l n flow=some res) (h1:∀ ps,res=some ps→ps.length≤1) :
  Calls prog 48 #[D.val,vi flow] w0 (aZ w0 G fun u G'=>∃ v,u=.tuple #[v,vi (if (jW l flow).isSome=true then (if res.isSome=true then 0 else 8) else 8)]∧av G' (.sl 2 ((if (jW l flow).isSome=true then res.getD [] else []).map Bh)) v):=by
 have hml:4294967297≤maxLen:=by decide
 refine eN [(0,_),(1,_)] func48 rfl ntmps48 rfl rfl hG ?_;intro a H;refine bK (fun _ K1=>?_);refine dz (cs:=[_,_,_,_,_,_,_,_,_,_,_]) H wn rfl rfl rfl ?_;clear H;intro b2 a w hb2 H;refine kH H (Ra rfl (ak K1 rfl (SQ fun _ K2=>SR fun _ K3=>?_)));clear H K1;intro a H;refine aW jl (cs:=[_,_,_,_,_,_,_,_,_,_,_]) H wn rfl rfl (H.hp.bT 0 rfl rfl) rfl ?_;clear H;intro a H;refine kH H (Rm rfl ?_);clear H;intro a H;refine s_call FT H wn rfl (Gf _ _ H.ro D l flow hv hz) rfl ?_;clear H;rintro v14 yB a w ⟨v,rfl,hr⟩ zm H;refine kH H (Rm rfl ?_);clear H;intro a H;(iterate 2 refine jy H wn rfl rfl rfl ?_;clear H;intro a H);refine kH H (Ra rfl (ak K3 rfl (SR fun _ K4=>Rm rfl (Rn rfl (Kz K4 (Cd rfl ?_ ?_)))))) <;> clear H K3 K4
 ·intro h18 a H
  refine kP H (SR fun _ K5=>Ra rfl (ak K5 rfl ?_));clear H K5;intro a H;refine bF ?_;refine (dL H results48 (.cons (aN H rfl) (.cons (aN H rfl) .nil)) ?_).1;exact H.rt ⟨_,by rw [ah (by simpa using h18)],by rw [ah (by simpa using h18)];exact av.iQ rfl (by decide)⟩
 intro h18 a H
 try have rZ:=dF h18
 refine kP H (Kc K2 (SR fun _ K6=>ak K6 rfl (SQ fun _ K7=>SB ?_)));clear H K2 K6;intro a H;skip;refine gq (ι:=Nat × Int × List (Int × Int) × aj × List aj × OL × GH) (Tc:=[(2,_)]) (Lc:=[(_,_)]) (fun gh=>[(1,vi gh.2.1),(8,gh.2.2.2.1)]) (fun gh=>[]++gh.2.2.2.2.2.1) (fun gh=>gh.2.2.2.2.2.2) (fun gh=>(∀ b o,yB b=some o→gh.2.2.2.2.2.2 b=some o)∧eF 64 2 gh.2.2.2.1 gh.2.2.1.length gh.2.2.2.2.1 gh.2.2.2.2.2.1∧gJ gh.2.2.2.2.2.2 2 (gh.2.2.1.map Bh) gh.2.2.2.2.1∧(∃ r,zB l gh.1 gh.2.1=some r∧res=r.map (gh.2.2.1++·))∧gh.1+gh.2.2.1.length≤n) (fun gh=>gh.1) ((n,flow,[],.slice none 0 0,[],[],yB)) (by exact (H).sub ⟨rfl,rfl,rfl,aD⟩) ?_ ?_
 ·exact ⟨fun _ _ h=>h,eF.nil,gJ.nil,⟨res,hp,by cases res <;> simp⟩,by simp⟩
 clear H;intro gh a w hI H;obtain ⟨k,f,ps,v8,xs,Lo,g⟩:=gh;dsimp only at hI H;obtain ⟨hgm,hrw,iI,⟨r,hr1,hr2⟩,hkn⟩:=hI
 obtain ⟨k2,rfl⟩:∃ k2,k=k2+1:=by cases k with|zero=>simp [zB] at hr1|succ k=>exact ⟨k,rfl⟩
 rw [zB] at hr1;dsimp only [lca,aV] at H;refine kP H (SQ fun _ K8=>SR fun _ K9=>Rm rfl (Rc rfl (Kz K9 (Cd rfl ?_ ?_)))) <;> clear H K9
 ·intro h20 a H
  try have vC:=dT h20
  refine kP H (Kc K8 (SB (SR fun _ aQ=>?_)));clear H K8;intro a H;refine aW jl (cs:=[_,_,_,_,_,_,_,_,_,_,_]) H wn rfl rfl (H.hp.bT 0 rfl rfl) rfl ?_;clear H;intro a H;refine kH H (Rm rfl ?_);clear H;intro a H;refine s_call aaY H wn rfl (afF _ _ H.ro D l f (hv.mono fun b o h=>hgm b o (zm b o h)) hz) rfl ?_;clear H;rintro v24 Dc a w rfl xL H;refine kH H (Rm rfl ?_);clear H;intro a H;(iterate 2 refine jy H wn rfl rfl rfl ?_;clear H;intro a H);refine dx fM H wn rfl ?_;clear H;intro b9 a w um H;refine aX fM 0 (vs:=[_,_]) _ H wn rfl rfl rfl rfl rfl rfl rfl rfl ?_;clear H;intro w H;dsimp only [List.set,setRow] at H;refine kH H (ak aQ rfl (SQ fun _ bH=>SR fun _ bR=>Rm rfl (Rn rfl (Kz bR (Cd rfl ?_ ?_))))) <;> clear H aQ bR
  ·intro dR a H
   refine kP H (SR fun _ bY=>Ra rfl (ak bY rfl ?_));clear H bY;intro a H;refine bF ?_;refine (dL H results48 (.cons (aN H rfl) (.cons (aN H rfl) .nil)) ?_).1
   have hpn:oQ l f=none:=by simpa using dR
   rw [ah vC,hpn] at hr1
   simp only [lq] at hr1
   subst hr1
   simp only [Option.map_none] at hr2
   exact H.rt ⟨_,by rw [hr2];split <;> rfl,by rw [hr2];split <;> exact av.iQ rfl (by decide)⟩
  intro dR a H
  try have p28:=dF dR
  refine kP H (Kc bH (SR fun _ bX=>Rm rfl ?_));clear H bH;intro a H;refine aW fM (cs:=[_,_]) H wn rfl rfl (H.hp.bT 0 rfl rfl) rfl ?_;clear H;intro a H;refine ig CY fM [_,_] [_,_] H wn rfl rfl rfl rfl rfl (by intro i q h;match i,h with|0,h=>exact h|n+1,h=>simp at h) rfl rfl ?_;clear H;intro b31 a w aiP H;refine tJ (Li:=[_,_,_]) (Lo:=Lo) (news:=[vi ((oQ l f).getD (0,0)).1,vi ((oQ l f).getD (0,0)).2]) CY fM rfl rfl H wn rfl rfl hrw rfl (H.hp.bT 0 rfl rfl) rfl (by omega) (by omega) rfl ?_;clear H;intro v32 XB a w aei H;refine kH H (ak bX rfl (SC (aO F9 aC 1 rfl rfl (Ra rfl ?_))));clear H bX;intro a H;refine aH ?_;refine eO ((k2,((oQ l f).getD (0,0)).1,ps++[(oQ l f).getD (0,0)],v32,xs++[vi ((oQ l f).getD (0,0)).1,vi ((oQ l f).getD (0,0)).2],XB,Dc)) (by exact (H.bU (Pl:=[_,_,_]) (bN:=[_]) [2] (by decide) rfl).sub ⟨rfl,rfl,rfl,aD⟩) ?_ ?_
  ·(try dsimp only);refine ⟨fun b o h=>xL b o (hgm b o h),by simpa using aei,?_,?_,by simp;omega⟩
   ·rw [sN];exact (iI.mono xL).snoc ⟨_,_,rfl,⟨rfl,rfl⟩,_,_,rfl,⟨rfl,rfl⟩,rfl⟩ rfl
   obtain ⟨p,hpp⟩:=Option.isSome_iff_exists.1 (by simpa using dR:(oQ l f).isSome=true);rw [hpp] at hr1 ⊢
   simp only [ah vC] at hr1
   cases hq:zB l k2 p.1 with
   | none=>rw [hq] at hr1;cases hr1
   | some r2=>rw [hq] at hr1;simp only [lq] at hr1;subst hr1;exact ⟨r2,by simpa using hq,by rw [hr2];cases r2 <;> simp⟩
  first|omega|(dsimp only;omega)
 intro h20 a H
 try have vC:=dF h20
 have hf0:f=0:=mR.1 vC;rw [au hf0] at hr1
 simp only [lq] at hr1
 subst hr1
 simp only [Option.map_some,vN] at hr2
 obtain ⟨Gr,hmr,hrep,H⟩:=St.Au (Li:=[_]) H hrw (rows:=ps.map Bh) (by simp) iI;obtain ⟨vA,vn,vc,rfl⟩:=hrep.form;have Oq:=hrep.len;rw [bW] at Oq;have ajl:=h1 ps hr2;refine fI ?_;refine K7 _ _ ?_;clear K7;refine kP H (SR fun _ dO=>Rm rfl ?_);clear H;intro a H;refine s_call ZO H wn rfl (agc _ _ H.ro _ _ _ (by omega)) rfl ?_;clear H;rintro v36 G36 a w rfl ajb H;refine dO _ _ ?_;clear dO;refine kP H (SR fun _ dJ=>Rm rfl (Ra rfl (ak dJ rfl ?_)));clear H dJ;intro a H;refine bF ?_;refine (dL H results48 (.cons (aN H rfl) (.cons (aN H rfl) .nil)) ?_).1
 have hfs:(jW l flow).isSome=true:=by simpa using h18
 exact H.rt ⟨_,by rw [au hfs,hr2];rfl,by rw [au hfs,hr2];exact hrep⟩
theorem U4 {G:GH} {p:Int × Int} {cs:List aj} (h:aS G (Bh p) cs):cs=[vi p.1,vi p.2]:=by
 simp only [Bh,aS,av] at h
 obtain ⟨v1,_,rfl,⟨rfl,-⟩,v2,_,rfl,⟨rfl,-⟩,rfl⟩:=h
 rfl
def Bc (l:List aB) (f t flow:Int) (ps:List (Int × Int)):Option Int :=
 if lS l f t t=0 then if f=flow then some t else (ps.find? fun q=>decide (q.1=flow)).map (·.2) else none
theorem aeX (G:GH) (w0:World) (hG:Hold G w0) (D:jQ) (l:List aB) (f t flow:Int) (hv:av G (.sl 11 (l.map aB.dat)) (fJ D.f)) (hz:bG l≤4294967296) (n:Nat) (hn:n≤4294967296) (res:Option (List (Int × Int))) (hp:zB l n f=some res) (h1:∀ ps,res=some ps→ps.length≤1) :
  Calls prog 49 #[D.val,.agg #[vi f,vi t],vi flow] w0 (aZ w0 G fun u G'=>u=.tuple #[vi ((Bc l f t flow (if (jW l f).isSome=true then res.getD [] else [])).getD 0),.bool (Bc l f t flow (if (jW l f).isSome=true then res.getD [] else [])).isSome]):=by
 have hps:(if (jW l f).isSome=true then res.getD [] else []).length≤1:=by
  split
  ·cases res with
   | none=>simp
   | some ps=>exact h1 ps rfl
  simp
 obtain ⟨ps,hpe⟩:∃ ps,ps=(if (jW l f).isSome=true then res.getD [] else []):=⟨_,rfl⟩;rw [← hpe] at hps ⊢;refine eN [(0,_),(1,_),(2,_)] func49 rfl ntmps49 rfl rfl hG ?_;intro a H;refine bK (fun _ K1=>?_);refine dz (cs:=[_,_,_,_,_,_,_,_,_,_,_]) H wn rfl rfl rfl ?_;clear H;intro b3 a w hb3 H;refine dz (cs:=[_,_]) H wn rfl rfl rfl ?_;clear H;intro b4 a w hb4 H;refine kH H (Ra rfl (ak K1 rfl (SQ fun _ K2=>SR fun _ K3=>?_)));clear H K1;intro a H;refine aW jl (cs:=[_,_,_,_,_,_,_,_,_,_,_]) H wn rfl rfl (H.hp.bT 1 rfl rfl) rfl ?_;clear H;intro a H;refine aW fM (cs:=[_,_]) H wn rfl rfl (H.hp.bT 0 rfl rfl) rfl ?_;clear H;intro a H;refine s_call RS H wn rfl (Rp _ _ H.ro D l f t hv hz) rfl ?_;clear H;rintro v14 yB a w rfl zm H;refine kH H (Rc rfl (Kz K3 (Cd rfl ?_ ?_))) <;> clear H K3
 ·intro jX a H
  try have oP:=dT jX
  refine kP H (SR fun _ K4=>Ra rfl (ak K4 rfl ?_));clear H K4;intro a H;refine bF ?_;refine (dL H results49 (.cons (aN H rfl) (.cons (aN H rfl) .nil)) ?_).1;exact H.rt (by rw [Bc,ah oP];rfl)
 intro jX a H
 try have oP:=dF jX
 refine kP H (Kc K2 (SQ fun _ K5=>SR fun _ K6=>aO F9 aC 0 rfl rfl (Rm rfl (Rc rfl (Kz K6 (Cd rfl ?_ ?_)))))) <;> clear H K2 K6
 ·intro h19 a H
  try have pU:=dT h19
  refine kP H (SR fun _ K7=>aO Ji aC 0 rfl rfl (Ra rfl (ak K7 rfl ?_)));clear H K7;intro a H;refine bF ?_;refine (dL H results49 (.cons (aN H rfl) (.cons (aN H rfl) .nil)) ?_).1;exact H.rt (by rw [Bc,au (by omega),au pU];rfl)
 intro h19 a H
 try have pU:=dF h19
 refine fQ ?_;refine K5 _ _ ?_;clear K5;refine bK (fun _ K8=>?_);refine aW jl (cs:=[_,_,_,_,_,_,_,_,_,_,_]) H wn rfl rfl (H.hp.bT 1 rfl rfl) rfl ?_;clear H;intro a H;refine kH H (aO F9 aC 0 rfl rfl ?_);clear H;intro a H;refine s_call Sc H wn rfl (U1 _ _ H.ro D l f (hv.mono zm) hz n hn res hp h1) rfl ?_;clear H;rintro v26 Xe a w ⟨v,rfl,hrep⟩ aja H;rw [← hpe] at hrep;obtain ⟨vA,vn,vc,rfl⟩:=hrep.form;have Oq:=hrep.len;rw [bW] at Oq;refine kH H (Rm rfl ?_);clear H;intro a H;(iterate 2 refine jy H wn rfl rfl rfl ?_;clear H;intro a H);refine kH H (Ra rfl (ak K8 rfl (SQ fun _ K9=>SR fun _ aQ=>Rm rfl (Rl CY rfl (Rm rfl (Kz aQ (SB ?_)))))));clear H K8 aQ;intro a H;skip;refine gq (ι:=Nat) (Tc:=[(2,_),(29,_),(30,_)]) (Lc:=[(_,_),(_,_)]) (fun gh=>[(31,vi gh)]) (fun gh=>[]) (fun gh=>Xe) (fun gh=>gh≤ps.length∧(ps.take gh).find? (fun q=>decide (q.1=flow))=none) (fun gh=>ps.length - gh) (0) (by exact (H).sub ⟨rfl,rfl,rfl,rfl,aD⟩) ?_ ?_
 ·exact ⟨by omega,rfl⟩
 clear H;intro gh a w hI H;obtain ⟨k,hgh⟩:∃ x,x=gh:=⟨_,rfl⟩;subst hgh;obtain ⟨hk,hno⟩:=hI;dsimp only [lca,aV] at H;refine kP H (SR fun _ bH=>Rc rfl (Kz bH (SQ fun _ bR=>Cd rfl ?_ ?_))) <;> clear H bH
 ·intro h32 a H
  try have p32:=dT h32
  have hk2:k < ps.length:=by omega
  obtain ⟨b,o,cs,rfl,hcl,hrow,hr⟩:=hrep.at_ k (Bh ps[k]) (by simp [hk2]);obtain rfl:=U4 hr;refine kP H (Kc bR (SQ fun _ bY=>SB (SR fun _ bX=>Ri CY fM rfl rfl ?_)));clear H bR;intro a H;refine aW fM (cs:=[_,_]) H wn rfl rfl (fun j v hj=>H.hp.aI (hrow j v hj)) rfl ?_;clear H;intro a H;refine dx fM H wn rfl ?_;clear H;intro b11 a w Ce H;refine aX fM 0 (vs:=[_,_]) _ H wn rfl rfl rfl rfl rfl rfl rfl rfl ?_;clear H;intro w H;dsimp only [List.set,setRow] at H;refine bX _ _ ?_;clear bX;refine kP H (SR fun _ dO=>aO F9 aC 0 rfl rfl (Rm rfl (Rc rfl (Kz dO (Cd rfl ?_ ?_))))) <;> clear H dO
  ·intro Gg a H
   try have p38:=dT Gg
   refine kP H (SR fun _ dJ=>aO Ji aC 0 rfl rfl (Ra rfl (ak dJ rfl ?_)));clear H dJ;intro a H;refine bF ?_;refine (dL H results49 (.cons (aN H rfl) (.cons (aN H rfl) .nil)) ?_).1;exact H.rt (by rw [Bc,au (by omega),ah pU,Jk hk2 hno Gg];rfl)
  intro Gg a H
  try have p38:=dF Gg
  refine kP H (Kc bY (SC (Rd rfl (Rm rfl ?_))));clear H bY;intro a H;refine aH ?_;refine eO ((k+1)) (by exact (H.bU (Pl:=[_,_,_]) (bN:=[_,_]) [1,2] (by decide) rfl).sub ⟨rfl,rfl,rfl,rfl,aD⟩) ?_ ?_
  ·exact ⟨by omega,MS hk2 hno Gg⟩
  first|omega|(dsimp only;omega)
 intro h32 a H
 try have p32:=dF h32
 refine fI ?_;refine K9 _ _ ?_;clear K9;refine kP H (SR fun _ dD=>Ra rfl (ak dD rfl ?_));clear H dD;intro a H;refine bF ?_;refine (dL H results49 (.cons (aN H rfl) (.cons (aN H rfl) .nil)) ?_).1;exact H.rt (by rw [show ps.take k=ps from jU (by omega)] at hno;rw [Bc,au (by omega),ah pU,hno];rfl)
end
section
open Go.RowKit
def Af (s:CS) (z:Nat) (r:CR):Prop:=r.2.bE.length≤s.bE.length+z
theorem Af.and {s:CS} {z y q:Nat} {r:CR} {f:CS→CR} (h:Af s z r) (hq:z+y≤q) (hf:∀ s,Af s y (f s)):Af s q (fH r f):=by
 unfold Af at *
 unfold fH
 split
 ·omega
 have:=hf r.2
 omega
theorem Af.zero (s:CS) (e:Int) (q:Nat):Af s q (e,s):=by unfold Af;dsimp only;omega
end
section
open Go.RowKit
end
section
open Go.RowKit
theorem DN:∀ args w,(callFunc 69 args).run prog w=.ok (.enter 69 args) w:=enters func69 rfl (by kernel_rfl)
theorem Ms:∀ args w,(callFunc 167 args).run prog w=.ok (.enter 167 args) w:=enters func167 rfl (by kernel_rfl)
theorem FU:∀ args w,(callFunc 71 args).run prog w=.ok (.enter 71 args) w:=enters func71 rfl (by kernel_rfl)
theorem Ef (G:GH) (L:OL) (w0:World) (st:List bL) (li:List fK) (rv:List eZ) (b ms ml mr mb mu:Nat) (n:Int) (hck:sD G st li rv ms ml mr mu) (hO:gI G (fD b ms ml mr mb mu n :: L) w0)
  (e:Int) (h:jm) (p d l:aj) (hh:jR G h p d l) (hz:pE h≤4294967296) :
  Calls prog 69 #[(aJ b 0),vi e,Ee h p d l] w0 (fT w0 G (fD b ms ml mr mb mu n :: L) fun v G' L'=>G=G'∧L'=fD b ms ml mr mb mu n :: L∧v=vi (iZ (aP st li rv) e h)):=by
 have hm:=GH.FE G (o:=(fD b ms ml mr mb mu n).2) (hO.sep _ jC);exact (adG (G.add b (fD b ms ml mr mb mu n).2) w0 hO.add st li rv b ms ml mr mb mu n (hck.mono hm) (GH.Iy _ _ _) e h p d l (hh.mono hm) hz).mono fun _ _=>afZ (b:=b) (o:=(fD b ms ml mr mb mu n).2) (R':=fun v=>v=vi (iZ (aP st li rv) e h)) hO fun _ _ h=>h
abbrev Ih (b ms ml mr mb mu:Nat) (L:OL) (r:CR):aj→OL→Prop:=fun u L'=>∃ s:CS,u=vi r.1∧L'=fD b ms ml mr mb mu s.n :: (mb,fB (fE s.bE)) :: L∧(r.1=0→s=r.2)
def Dg (m:Nat):Prop:=∀ (G:GH) (L:OL) (w0:World) (st:List bL) (li:List fK) (rv:List eZ) (b ms ml mr mb mu:Nat) (s:CS) (l:List aB) (v:aj) (body note:Bool) (t:Int),
 sD G st li rv ms ml mr mu→gI G (fD b ms ml mr mb mu s.n :: (mb,fB (fE s.bE)) :: L) w0→av G (.sl 11 (l.map aB.dat)) v→bG l < m→0≤t→t≤4→0≤s.n→s.n+(bG l:Nat)≤1099511627776 →
 Calls prog 71 #[(aJ b 0),v,.agg #[.bool body,.bool note,vi t]] w0 (fT w0 G (fD b ms ml mr mb mu s.n :: (mb,fB (fE s.bE)) :: L) fun u G' L'=>G=G'∧Ih b ms ml mr mb mu L (jk (aP st li rv) body note t l s) u L')
theorem rows_ok {m:Nat} (ih:Dg m) (hm:m≤4294967296) (Gt:GH) (L:OL) (w0:World) (st:List bL) (li:List fK) (rv:List eZ) (b ms ml mr mb mu:Nat) (s:CS) (l:List bC) (v:aj) (note:Bool) (t:Int)
  (hck:sD Gt st li rv ms ml mr mu) (hO:gI Gt (fD b ms ml mr mb mu s.n :: (mb,fB (fE s.bE)) :: L) w0) (hv:av Gt (.sl 6 (l.map bC.dat)) v) (hz:iV l < m) (ht0:0≤t) (Cm:t≤4) (hs0:0≤s.n) (hs1:s.n+(iV l:Nat)≤1099511627776) :
  Calls prog 168 #[(aJ b 0),v,.agg #[.bool false,.bool note,vi t]] w0 (fT w0 Gt (fD b ms ml mr mb mu s.n :: (mb,fB (fE s.bE)) :: L) fun u G' L'=>Ih b ms ml mr mb mu L (kQ l.length (fun s=>iE (aP st li rv) note t l s) s) u L'):=by
 obtain ⟨A,c,rfl,hc1,hc2,hg⟩:=hv.slice;rw [bW] at *;have hll:=Ig l;refine jh (N:=77) (T:=[(0,_),(1,_),(2,_)]) func168 rfl ntmps168 rfl rfl hO ?_;intro a H;refine bK (fun _ K1=>?_);refine dz (cs:=[_,_,_]) H wn rfl rfl rfl ?_;clear H;intro b5 a w hb5 H;refine kH H (ak K1 rfl (SQ fun _ K2=>SR fun _ K3=>Rm rfl (Rl pq rfl (Rc rfl (Kz K3 (Cd rfl ?_ ?_)))))) <;> clear H K1 K3
 ·intro dM a H
  try have kK:=dT dM
  refine bg (fun _ K4=>?_);have hE:kQ l.length (fun s=>iE (aP st li rv) note t l s) s=(11,s):=au (by omega);exact kP H (SC (aU K4 rfl (LR results168 rfl fun H=>H.hp.cu (L':=fD b ms ml mr mb mu s.n :: (mb,fB (fE s.bE)) :: L) (by repeat (first|exact cZ _|apply List.Sublist.cons)) ⟨s,by rw [hE],rfl,fun h=>by rw [hE]⟩)))
 intro dM a H
 try have kK:=dF dM
 refine kP H (Kc K2 (SQ fun _ K5=>SR fun _ K6=>Rm rfl (Rl pq rfl (Rc rfl (Kz K6 (Cd rfl ?_ ?_)))))) <;> clear H K2 K6
 ·intro h20 a H
  try have vC:=dT h20
  refine bg (fun _ K7=>?_)
  have hE:kQ l.length (fun s=>iE (aP st li rv) note t l s) s=(9,s):=by rw [kQ,ah (by omega),au (by omega)]
  exact kP H (SC (aU K7 rfl (LR results168 rfl fun H=>H.hp.cu (L':=fD b ms ml mr mb mu s.n :: (mb,fB (fE s.bE)) :: L) (by repeat (first|exact cZ _|apply List.Sublist.cons)) ⟨s,by rw [hE],rfl,fun h=>by rw [hE]⟩)))
 intro h20 a H
 try have vC:=dF h20
 refine kP H (Kc K5 (SQ fun _ K8=>SQ fun _ K9=>?_));clear H K5;intro a H
 have hE:kQ l.length (fun s=>iE (aP st li rv) note t l s) s=iE (aP st li rv) note t l s:=by rw [kQ,ah (by omega),ah (by omega)]
 refine kP H (SC (Rm rfl (Rl pq rfl (Rm rfl (Kn K9 (SB ?_))))));clear H K9;intro a H;skip;refine gq (ι:=Nat × CS × GH) (Tc:=[(0,_),(5,_),(21,_),(22,_)]) (Lc:=[(_,_)]) (fun gh=>[(23,vi gh.1)]) (fun gh=>[fD b ms ml mr mb mu gh.2.1.n,(mb,fB (fE gh.2.1.bE))]++L) (fun gh=>gh.2.2) (fun gh=>gh.1≤l.length∧(∀ b o,Gt b=some o→gh.2.2 b=some o)∧iE (aP st li rv) note t l s=iE (aP st li rv) note t (l.drop gh.1) gh.2.1∧0≤gh.2.1.n∧gh.2.1.n+(iV (l.drop gh.1):Nat)≤1099511627776) (fun gh=>l.length - gh.1) ((0,s,Gt)) (by exact (H).sub ⟨rfl,rfl,rfl,rfl,rfl,aD⟩) ?_ ?_
 ·exact ⟨gW _,fun _ _ h=>h,rfl,hs0,hs1⟩
 clear H;intro gh a w hI H;obtain ⟨k,s1,g⟩:=gh;dsimp only at hI H;obtain ⟨hk,hgm,hR,hn0,hn1⟩:=hI;dsimp only [lca,aV] at H;refine kP H (SR fun _ aQ=>Rc rfl (Kz aQ (SQ fun _ bH=>Cd rfl ?_ ?_))) <;> clear H aQ
 ·intro fu a H
  try have kL:=dT fu
  have hk2:k < l.length:=by omega
  have hsz:=KO hk2;have hcs:=E5 l[k].cells
  have hdz:iV (l.drop k)=1+cB l[k].dat+iV (l.drop (k+1)):=by simp only [iV];rw [lu hk2,fG,dZ]
  have hrz:=yu l[k];obtain ⟨xb,xo,qA,qn,qc,eA,en,ec,zA,zn,zc,cA,cn,cc,rfl,hrow,Ck,hcl⟩:=Hy hk2 hg;replace hrow:=fun j u hj=>aL hgm (hrow j u hj);replace Ck:=Ck.mono hgm;replace hcl:=hcl.mono hgm;have hcn:=hcl.len;rw [bW] at hcn;subst hcn;have adw:=hck.mono hgm;rw [lu hk2,iE,J9] at hR;refine kP H (Kc bH (SQ fun _ bR=>SB (SR fun _ bY=>Ri pq jJ rfl rfl ?_)));clear H bH;intro a H;refine aW jJ (cs:=[_,_,_,_,_,_]) H wn rfl rfl (fun j v hj=>H.hp.aI (hrow j v hj)) rfl ?_;clear H;intro a H;refine dx jJ H wn rfl ?_;clear H;intro b8 a w uj H;refine aX jJ 0 (vs:=[_,_,_,_,_,_]) _ H wn rfl rfl rfl rfl rfl rfl rfl rfl ?_;clear H;intro w H;dsimp only [List.set,setRow] at H;refine bY _ _ ?_;clear bY;refine bg (fun _ bX=>?_);refine bg (fun _ dO=>?_);refine dI hmx [[],[],[1],[0,1,2],[],[4],[4,5],[4,5,6],(ra 0 8),[],[9],[9,10],[9,10,11],(ra 0 13),(ra 0 14),(ra 0 15),(ra 0 16)] [14,15,16] (by kernel_rfl) [_,_,Ee l[k].head (.slice qA qn qc) (.slice eA en ec) (.slice zA zn zc),vi (iZ (aP st li rv) 9 l[k].head),_,.slice cA l[k].cells.length cc,_,_,vi (bS (decide ((l[k].cells.length:Int)=0)) 11),_,.slice cA l[k].cells.length cc,_,_,vi (bS (decide (32 < (l[k].cells.length:Int))) 9)] H (aF (Z0 rfl (Rm rfl)) (Z0 rfl (Rf Sy rfl)) ?_ ?_ (aF (Z0 rfl (Rf yO rfl)) (Z1 4 31 rfl (Ro zN 0 rfl)) (Z1 5 32 rfl (Rl mY rfl)) (Z1 6 33 rfl (Rc rfl)) (aF ?_ (Z0 rfl (Rf yO rfl)) (Z1 9 36 rfl (Ro zN 0 rfl)) (Z1 10 37 rfl (Rl mY rfl)) (aF (Z1 11 38 rfl (Rc rfl)) ?_ (bJ rfl) (bJ rfl) (bM (bJ rfl) dP))))) ?_
  ·refine eH 1 28 rfl rfl fun _ a w G1 hG HT H fin=>?_;refine aW tL (cs:=[_,_,_,_,_]) H wn rfl rfl (H.hp.bT 0 rfl rfl) rfl ?_;clear H;intro a H;exact fin H iJ rfl
  ·refine eB 0 27 2 29 rfl rfl fun _ a w G1 hG HT H fin=>?_;refine gT DN (Li:=[_,_]) (L:=fD b ms ml mr mb mu s1.n :: (mb,fB (fE s1.bE)) :: L) H wn rfl (Ef _ _ _ st li rv b ms ml mr mb mu _ (adw.mono hG) (Hp.owns (Li:=[_,_]) H.hp) 9 l[k].head _ _ _ (Ck.mono hG) (by omega)) rfl ?_;clear H;rintro v30 _ _ a w ⟨rfl,rfl,rfl⟩ Ng H;dsimp only [lca,aV] at H;exact fin H Ng (rfl)
  ·refine eH 7 34 rfl rfl fun _ a w G1 hG HT H fin=>?_;refine s_call iP H wn rfl (iU _ _ H.ro _ 11) rfl ?_;clear H;rintro v35 KS a w ⟨rfl,-⟩ Nh H;exact fin H Nh (rfl)
  ·refine eH 12 39 rfl rfl fun _ a w G1 hG HT H fin=>?_;refine s_call iP H wn rfl (iU _ _ H.ro _ 9) rfl ?_;clear H;rintro v40 Qf a w ⟨rfl,-⟩ acT H;exact fin H acT (rfl)
  clear H;intro a w G ql H hv;have H:=H.aT (hv 3 30 rfl rfl) rfl;have H:=H.aT (hv 8 35 rfl rfl) rfl;have H:=H.aT (hv 13 40 rfl rfl) rfl;clear hv;refine ig nL eP [_,_,_] [_,_,_] H wn rfl rfl rfl rfl rfl (by intro i q h;match i,h with|0,h=>exact h|1,h=>exact h|2,h=>exact h|n+3,h=>simp at h) rfl rfl ?_;clear H;intro b41 a w aiR H;obtain ⟨Fg,xM,adp,H⟩:=H.dQ;have wB:∀ b o,Gt b=some o→Fg b=some o:=fun b o h=>xM _ _ (ql _ _ (hgm _ _ h));refine s_call oI H wn rfl (oJ _ _ H.ro _ _ (Co [iZ (aP st li rv) 9 l[k].head,bS (decide ((l[k].cells.length:Int)=0)) 11,bS (decide (32 < (l[k].cells.length:Int))) 9] adp (show 3≤maxLen by decide))) rfl ?_;clear H;rintro v42 _ a w ⟨rfl,rfl⟩ - H;refine kH H (Ra rfl ?_);clear H;intro a H;refine aH ⟨rfl,?_⟩;refine dO _ _ ?_;clear dO;refine kP H (SR fun _ dJ=>Rm rfl (Rc rfl (Kz dJ (Cd rfl ?_ ?_)))) <;> clear H dJ
  ·intro lH a H
   try have p44:=dT lH
   have e44:CO (aP st li rv) l[k].head l[k].cells.length≠0:=p44
   have hF1:(kQ l.length (fun s=>iE (aP st li rv) note t l s) s).1=CO (aP st li rv) l[k].head l[k].cells.length:=by rw [hE,hR,Iz (r:=(CO (aP st li rv) l[k].head l[k].cells.length,s1)) e44,Iz e44]
   have hF2:(kQ l.length (fun s=>iE (aP st li rv) note t l s) s).1=0→s1=(kQ l.length (fun s=>iE (aP st li rv) note t l s) s).2:=fun h=>absurd (hF1.symm.trans h) e44;exact kP H (SR fun _ dD=>Rm rfl (ak dD rfl (LR results168 rfl fun H=>H.hp.cu (L':=fD b ms ml mr mb mu s1.n :: (mb,fB (fE s1.bE)) :: L) (by repeat (first|exact cZ _|apply List.Sublist.cons)) ⟨s1,ay vi hF1.symm,rfl,hF2⟩)))
  intro lH a H
  try have p44:=dF lH
  have e44:CO (aP st li rv) l[k].head l[k].cells.length=0:=mR.1 p44;rw [FI (r:=(CO (aP st li rv) l[k].head l[k].cells.length,s1)) e44] at hR;dsimp only at hR;have adx:=hck.mono wB;replace hcl:=hcl.mono (fun b o h=>xM _ _ (ql b o h));refine kP H (Kc bX (SR fun _ dU=>aO yO zN 0 rfl rfl (Rl mY rfl (Rm rfl (Kz dU (SB ?_))))));clear H bX dU;intro a H;skip;refine gq (ι:=Nat × CS × GH) (Tc:=[(0,_),(5,_),(21,_),(22,_),(23,_),(47,_),(48,_)]) (Lc:=[(_,_),(_,_)]) (fun gh=>[(49,vi gh.1)]) (fun gh=>[fD b ms ml mr mb mu gh.2.1.n,(mb,fB (fE gh.2.1.bE))]++L) (fun gh=>gh.2.2) (fun gh=>gh.1≤l[k].cells.length∧(∀ b o,Fg b=some o→gh.2.2 b=some o)∧iE (aP st li rv) note t l s=fH (qR (aP st li rv) note t (l[k].cells.drop gh.1) gh.2.1) (fun s=>iE (aP st li rv) note t (l.drop (k+1)) s)∧0≤gh.2.1.n∧gh.2.1.n+(lW (l[k].cells.drop gh.1):Nat)+(iV (l.drop (k+1)):Nat)≤1099511627776) (fun gh=>l[k].cells.length - gh.1) ((0,s1,Fg)) (by exact (H).sub ⟨rfl,rfl,rfl,rfl,rfl,rfl,rfl,rfl,aD⟩) ?_ ?_
  ·exact ⟨gW _,fun _ _ h=>h,hR,hn0,by dsimp only;rw [sM];omega⟩
  clear H;intro gh a w hI H;obtain ⟨c,s2,g2⟩:=gh;dsimp only at hI H;obtain ⟨hc,JA,hR2,hm0,hm1⟩:=hI;have nY:=fun b o h=>JA b o (wB b o h);dsimp only [lca,aV] at H;refine kP H (SR fun _ fP=>Rc rfl (Kz fP (SQ fun _ eG=>Cd rfl ?_ ?_))) <;> clear H fP
  ·intro h50 a H
   try have p50:=dT h50
   have hk4:c < l[k].cells.length:=by omega
   have ael:=KN hk4
   have adz:lW (l[k].cells.drop c)=1+cB l[k].cells[c].dat+lW (l[k].cells.drop (c+1)):=by simp only [lW];rw [lu hk4,fG,dZ]
   have hcz:=zT l[k].cells[c];obtain ⟨b3',o3,sA,sn,sc,tA,tn,tc,uA,un,uc,gA,gn,gc,rfl,hrow,hch,hcf⟩:=Dy hk4 (hcl.mono JA).at_;have NG:=adx.mono JA;rw [lu hk4,qR,II] at hR2;obtain ⟨y,hy⟩:∃ y,y=l[k].cells[c]:=⟨_,rfl⟩;rw [← hy] at hR2 hrow hch hcf hcz ael adz;refine kP H (Kc eG (SQ fun _ fZ=>SB (SR fun _ gN=>Ri mY iR rfl rfl ?_)));clear H eG;intro a H;refine aW iR (cs:=[_,_,_,_,_,_,_]) H wn rfl rfl (fun j v hj=>H.hp.aI (hrow j v hj)) rfl ?_;clear H;intro a H;refine dx iR H wn rfl ?_;clear H;intro b11 a w Ce H;refine aX iR 0 (vs:=[_,_,_,_,_,_,_]) _ H wn rfl rfl rfl rfl rfl rfl rfl rfl ?_;clear H;intro w H;dsimp only [List.set,setRow] at H;refine gN _ _ ?_;clear gN;refine kP H (SQ fun _ iW=>SR fun _ iN=>Rm rfl (aO Ao aC 0 rfl rfl ?_));clear H;intro a H;refine gT Ms (Li:=[_,_,_]) (L:=fD b ms ml mr mb mu s2.n :: (mb,fB (fE s2.bE)) :: L) H wn rfl (LW _ _ _ st li rv b ms ml mr mb mu _ s2.bE y.id NG (Hp.owns (Li:=[_,_,_]) H.hp)) rfl ?_;clear H;rintro v56 _ _ a w ⟨rfl,rfl,rfl⟩ - H;dsimp only [lca,aV] at H;refine kH H (ak iN rfl (SR fun _ iO=>Rm rfl (Rc rfl (Kz iO (Cd rfl ?_ ?_))))) <;> clear H iN iO
   ·intro jv a H
    try have p58:=dT jv
    have hF1:(kQ l.length (fun s=>iE (aP st li rv) note t l s) s).1=oO s2.bE y.id:=by rw [hE,hR2];simp [fH,jH,p58]
    have hF2:(kQ l.length (fun s=>iE (aP st li rv) note t l s) s).1=0→(⟨s2.n,jG s2.bE y.id⟩:CS)=(kQ l.length (fun s=>iE (aP st li rv) note t l s) s).2:=fun h=>absurd (hF1.symm.trans h) p58;exact kP H (SR fun _ jM=>Rm rfl (ak jM rfl (LR results168 rfl fun H=>H.hp.cu (L':=fD b ms ml mr mb mu s2.n :: (mb,fB (fE (jG s2.bE y.id))) :: L) (by repeat (first|exact cZ _|apply List.Sublist.cons)) ⟨⟨s2.n,jG s2.bE y.id⟩,ay vi hF1.symm,rfl,hF2⟩)))
   intro jv a H
   try have p58:=dF jv
   have e58:oO s2.bE y.id=0:=mR.1 p58;refine kP H (Kc iW (SQ fun _ kC=>SR fun _ jo=>Rm rfl (Rf Sw rfl ?_)));clear H iW;intro a H;refine aW tL (cs:=[_,_,_,_,_]) H wn rfl rfl (H.hp.bT 0 rfl rfl) rfl ?_;clear H;intro a H;refine gT DN (Li:=[_,_,_]) (L:=fD b ms ml mr mb mu s2.n :: (mb,fB (fE (jG s2.bE y.id))) :: L) H wn rfl (Ef _ _ _ st li rv b ms ml mr mb mu _ NG (Hp.owns (Li:=[_,_,_]) H.hp) 10 y.head _ _ _ hch (by omega)) rfl ?_;clear H;rintro v63 _ _ a w ⟨rfl,rfl,rfl⟩ - H;dsimp only [lca,aV] at H;refine kH H (ak jo rfl (SR fun _ ng=>Rm rfl (Rc rfl (Kz ng (Cd rfl ?_ ?_))))) <;> clear H jo ng
   ·intro qh a H
    try have p65:=dT qh
    have hF1:(kQ l.length (fun s=>iE (aP st li rv) note t l s) s).1=iZ (aP st li rv) 10 y.head:=by rw [hE,hR2];simp [fH,jH,e58,p65]
    have hF2:(kQ l.length (fun s=>iE (aP st li rv) note t l s) s).1=0→(⟨s2.n,jG s2.bE y.id⟩:CS)=(kQ l.length (fun s=>iE (aP st li rv) note t l s) s).2:=fun h=>absurd (hF1.symm.trans h) p65;exact kP H (SR fun _ nO=>Rm rfl (ak nO rfl (LR results168 rfl fun H=>H.hp.cu (L':=fD b ms ml mr mb mu s2.n :: (mb,fB (fE (jG s2.bE y.id))) :: L) (by repeat (first|exact cZ _|apply List.Sublist.cons)) ⟨⟨s2.n,jG s2.bE y.id⟩,ay vi hF1.symm,rfl,hF2⟩)))
   intro qh a H
   try have p65:=dF qh
   have e65:iZ (aP st li rv) 10 y.head=0:=mR.1 p65;refine kP H (Kc kC (SR fun _ ow=>Rm rfl (aO BP jL 0 rfl rfl ?_)));clear H kC;intro a H;refine aW KC (cs:=[_,_,_]) H wn rfl rfl (H.hp.bT 2 rfl rfl) rfl ?_;clear H;intro a H;refine gT FU (Li:=[_,_,_]) (L:=fD b ms ml mr mb mu s2.n :: (mb,fB (fE (jG s2.bE y.id))) :: L) H wn rfl (ih _ _ _ st li rv b ms ml mr mb mu ⟨s2.n,jG s2.bE y.id⟩ y.flow _ false note t NG (Hp.owns (Li:=[_,_,_]) H.hp) hcf (by omega) ht0 Cm hm0 (by dsimp only;omega)) rfl ?_;clear H;rintro v71 _ _ a w ⟨rfl,s3,rfl,rfl,h3⟩ - H;dsimp only [lca,aV] at H;refine kH H (ak ow rfl (SR fun _ nQ=>Rm rfl (Rc rfl (Kz nQ (Cd rfl ?_ ?_))))) <;> clear H ow nQ
   ·intro M5 a H
    try have p73:=dT M5
    have hF1:(kQ l.length (fun s=>iE (aP st li rv) note t l s) s).1=(jk (aP st li rv) false note t y.flow ⟨s2.n,jG s2.bE y.id⟩).1:=by rw [hE,hR2];simp [fH,jH,e58,e65,p73]
    have hF2:(kQ l.length (fun s=>iE (aP st li rv) note t l s) s).1=0→s3=(kQ l.length (fun s=>iE (aP st li rv) note t l s) s).2:=fun h=>absurd (hF1.symm.trans h) p73;exact kP H (SR fun _ nk=>Rm rfl (ak nk rfl (LR results168 rfl fun H=>H.hp.cu (L':=fD b ms ml mr mb mu s3.n :: (mb,fB (fE s3.bE)) :: L) (by repeat (first|exact cZ _|apply List.Sublist.cons)) ⟨s3,ay vi hF1.symm,rfl,hF2⟩)))
   intro M5 a H
   try have p73:=dF M5
   have Mg:(jk (aP st li rv) false note t y.flow ⟨s2.n,jG s2.bE y.id⟩).1=0:=mR.1 p73;obtain ⟨hu1,hu2⟩:=KI (aP st li rv) false note t y.flow ⟨s2.n,jG s2.bE y.id⟩;rw [← h3 Mg] at hu1 hu2;dsimp only at hu1 hu2
   have hS:fH (fH (fH (jH s2 y.id) fun s=>fH (iZ (aP st li rv) 10 y.head,s) fun s=>jk (aP st li rv) false note t y.flow s) fun s=>qR (aP st li rv) note t (l[k].cells.drop (c+1)) s) (fun s=>iE (aP st li rv) note t (l.drop (k+1)) s)=fH (qR (aP st li rv) note t (l[k].cells.drop (c+1)) s3) (fun s=>iE (aP st li rv) note t (l.drop (k+1)) s):=by
    rw [h3 Mg];simp [fH,jH,e58,e65,Mg]
   refine kP H (Kc fZ (SC (Rd rfl (Rm rfl ?_))));clear H fZ;intro a H;refine aH ?_;refine eO ((c+1,s3,g2)) (by exact (H.bU (Pl:=[_,_,_,_,_]) (bN:=[_,_,_,_]) [1,2,3,4] (by decide) rfl).sub ⟨rfl,rfl,rfl,rfl,rfl,rfl,rfl,rfl,aD⟩) ?_ ?_
   ·(try dsimp only);exact ⟨by omega,JA,hR2.trans hS,by omega,by omega⟩
   first|omega|(dsimp only;omega)
  intro h50 a H
  try have p50:=dF h50
  refine fI ?_;refine bR _ _ ?_;clear bR;refine kP H (SC (Rd rfl (Rm rfl ?_)));clear H;intro a H;refine aH ?_;refine eO ((k+1,s2,g2)) (by exact (H.bU (Pl:=[_,_,_,_]) (bN:=[_,_,_]) [1,2,3] (by decide) rfl).sub ⟨rfl,rfl,rfl,rfl,rfl,aD⟩) ?_ ?_
  ·(try dsimp only);exact ⟨by omega,nY,by rw [hR2,gK (by omega),qR,FI rfl],hm0,by omega⟩
  first|omega|(dsimp only;omega)
 intro fu a H
 try have kL:=dF fu
 refine fI ?_;refine K8 _ _ ?_;clear K8;refine bg (fun _ pF=>?_)
 have hF1:(kQ l.length (fun s=>iE (aP st li rv) note t l s) s).1=0:=by rw [hE,hR,gK (by omega),iE]
 have hF2:(kQ l.length (fun s=>iE (aP st li rv) note t l s) s).1=0→s1=(kQ l.length (fun s=>iE (aP st li rv) note t l s) s).2:=fun h=>by rw [hE,hR,gK (by omega),iE]
 exact kP H (SC (aU pF rfl (LR results168 rfl fun H=>H.hp.cu (L':=fD b ms ml mr mb mu s1.n :: (mb,fB (fE s1.bE)) :: L) (by repeat (first|exact cZ _|apply List.Sublist.cons)) ⟨s1,ay vi hF1.symm,rfl,hF2⟩)))
end
section
open Go.RowKit
theorem aax:∀ args w,(callFunc 168 args).run prog w=.ok (.enter 168 args) w:=enters func168 rfl (by kernel_rfl)
theorem aaw:∀ args w,(callFunc 166 args).run prog w=.ok (.enter 166 args) w:=enters func166 rfl (by kernel_rfl)
theorem BQ:bV prog 152 5 5:=⟨by kernel_rfl⟩
theorem abT:bV prog 116 0 0:=⟨by kernel_rfl⟩
theorem afp {G:GH} {b:Nat} {x:Int} (h:G b=some (.cells #[vi x] 41 (0,0))):av G (.sl 1 ([x].map fun k=>[li k])) (.slice (some ⟨b,0,none⟩) 1 1):=Co [x] h (show 1≤maxLen by decide)
theorem aeJ {m:Nat} (ih:Dg m) (hm:m≤4294967296) (Gt:GH) (L:OL) (w0:World) (st:List bL) (li:List fK) (rv:List eZ) (b ms ml mr mb mu:Nat) (s:CS) (x:aB) (p d y f r:aj) (body note:Bool) (t:Int)
  (hck:sD Gt st li rv ms ml mr mu) (hO:gI Gt (fD b ms ml mr mb mu s.n :: (mb,fB (fE s.bE)) :: L) w0) (hh:jR Gt x.head p d y) (hf:av Gt (.sl 11 (x.flow.map aB.dat)) f) (hr:av Gt (.sl 6 (x.rows.map bC.dat)) r) (hz:cB x.dat≤m) (ht0:0≤t) (Cm:t≤4) (hs0:0≤s.n) (hs1:s.n+(cB x.dat:Nat)≤1099511627776) :
  Calls prog 133 #[(aJ b 0),.agg #[vi x.kind,vi x.code,vi x.id,.string x.text,p,vi x.head.marks.ins,vi x.head.marks.move,d,y,f,r],.agg #[.bool body,.bool note,vi t]] w0 (fT w0 Gt (fD b ms ml mr mb mu s.n :: (mb,fB (fE s.bE)) :: L) fun u G' L'=>Ih b ms ml mr mb mu L (dV (aP st li rv) body note t x s) u L'):=by
 obtain ⟨pA,pn,pc,rfl⟩:=hh.props.form;obtain ⟨dA,dn,dc,rfl⟩:=hh.dH.form;obtain ⟨lA,ln,lc,rfl⟩:=hh.layers.form;obtain ⟨fA,fc,rfl,-⟩:=hf.slice;obtain ⟨rA,rc,rfl,-⟩:=hr.slice;(iterate 2 rw [bW] at *);have hxz:=ou x;have hcl:=yL x.text
 have TV:fF x≤x.text.size+1:=by unfold fF;split <;> omega
 have hE:=OA (aP st li rv) body note t x s;refine jh (N:=117) (T:=[(0,_),(1,_),(2,_)]) func133 rfl ntmps133 rfl rfl hO ?_;intro a H;refine bK (fun _ K1=>?_);refine dz (cs:=[_,_,_,_,_,_,_,_,_,_,_]) H wn rfl rfl rfl ?_;clear H;intro b4 a w hb4 H;refine dz (cs:=[_,_,_]) H wn rfl rfl rfl ?_;clear H;intro b5 a w hb5 H;refine kH H (ak K1 rfl (SQ fun _ K2=>SR fun _ K3=>?_));clear H K1;intro a H;refine aW eX (cs:=[_,_,_,_,_,_,_,_,_,_,_]) H wn rfl rfl (H.hp.bT 1 rfl rfl) rfl ?_;clear H;intro a H;refine s_call aaw H wn rfl (acH _ _ H.ro x _ _ _ _ _ _ _ (by omega)) rfl ?_;clear H;rintro v15 _ a w ⟨rfl,rfl⟩ - H;refine kH H (ak K3 rfl (SR fun _ K4=>Rm rfl (Rc rfl (Kz K4 (Cd rfl ?_ ?_))))) <;> clear H K3 K4
 ·intro dM a H
  try have kK:=dT dM
  rw [Iz (r:=(mq x,s)) kK] at hE;exact kP H (SR fun _ K5=>Rm rfl (ak K5 rfl (LR results133 rfl fun H=>H.hp.cu (L':=fD b ms ml mr mb mu s.n :: (mb,fB (fE s.bE)) :: L) (by repeat (first|exact cZ _|apply List.Sublist.cons)) ⟨s,by rw [hE],rfl,fun h=>by rw [hE]⟩)))
 intro dM a H
 try have kK:=dF dM
 rw [FI (r:=(mq x,s)) (mR.1 kK)] at hE;dsimp only at hE;refine kP H (Kc K2 (SR fun _ K6=>Rm rfl (Rk rfl (aO BQ aC 2 rfl rfl (Rd rfl (Rk rfl (Rf BQ rfl ?_)))))));clear H K2;intro a H;refine aX aC 2 (vs:=[_]) _ H wn rfl rfl rfl rfl rfl rfl rfl rfl ?_;clear H;intro w H;dsimp only [List.set,setRow] at H;refine K6 _ _ ?_;clear K6;refine uU (ι:=CS × GH) (Tc:=[(0,_),(4,_),(5,_)]) (Lc:=[(_,_),(_,_)]) (fun gh=>[]) (fun gh=>[fD b ms ml mr mb mu gh.1.n,(mb,fB (fE gh.1.bE))]++L) (fun gh=>gh.2) (fun gh=>kY body note t x.kind x.id ⟨s.n+(fF x:Nat),s.bE⟩=(0,gh.1)∧(∀ b o,Gt b=some o→gh.2 b=some o)∧gh.1.n=s.n+(fF x:Nat)∧(x.kind=7→t < 4)) (by exact (H).sub ⟨rfl,rfl,rfl,aD⟩) ?_ ?_
 ·skip;refine kP H (SR fun _ K7=>aO kV aC 1 rfl rfl (Kz K7 (SB (SR fun _ K8=>Rc rfl (ak K8 rfl (Cd rfl ?_ ?_)))))) <;> clear H K7 K8
  ·intro dR a H
   try have p28:=dT dR
   have hu:((fF x:Nat):Int)=jg x.text:=by rw [fF,au p28]
   refine kP H (SR fun _ K9=>aO xE iB 1 rfl rfl ?_);clear H;intro a H;refine s_call MG H wn rfl (Mc _ _ H.ro x.text (by omega)) rfl ?_;clear H;rintro v33 _ a w ⟨rfl,rfl⟩ - H;refine kH H (Rm rfl ?_);clear H;intro a H;(iterate 2 refine jy H wn rfl rfl rfl ?_;clear H;intro a H);refine kH H (Ra rfl (ak K9 rfl (SC (Rm rfl (Rk rfl (aO BQ aC 2 rfl rfl (Rm rfl (Rs rfl (Rd rfl ?_)))))))));clear H K9;intro a H;rw [show s.n+1+((jg x.text:Int) - 1)=s.n+(fF x:Nat) by omega] at H;refine kH H (Rk rfl (Rf BQ rfl ?_));clear H;intro a H;refine aX aC 2 (vs:=[_]) _ H wn rfl rfl rfl rfl rfl rfl rfl rfl ?_;clear H;intro w H;dsimp only [List.set,setRow] at H;refine aH ?_;refine ⟨(⟨s.n+(fF x:Nat),s.bE⟩,Gt),by exact (H).sub ⟨rfl,rfl,rfl,aD⟩,?_⟩;(try dsimp only)
   first
   | exact ⟨by simp_all [kY,bS,fH,jH],fun _ _ h=>h,rfl,fun h7=>by first|omega|(exfalso;simp_all)⟩
   | exact ⟨by simp_all [kY,bS,fH,jH],uy,rfl,fun h7=>by first|omega|(exfalso;simp_all)⟩
  intro dR a H
  try have p28:=dF dR
  have hu:((fF x:Nat):Int)=1:=by rw [fF,ah p28];rfl
  rw [show s.n+1=s.n+((fF x:Nat):Int) by omega] at H;refine kP H (SR fun _ aQ=>Rc rfl (ak aQ rfl (Cd rfl ?_ ?_))) <;> clear H aQ
  ·intro h45 a H
   try have p45:=dT h45
   refine kP H (SR fun _ bH=>aO abT qJ 0 rfl rfl (Rn rfl (Kz bH (Cd rfl ?_ ?_)))) <;> clear H bH
   ·intro Jt a H
    try have p49:=dT Jt
    refine bg (fun _ bR=>?_)
    have hF1:(dV (aP st li rv) body note t x s).1=19:=by rw [hE];simp [fH,kY,p45,bS,Jt]
    have hF2:(dV (aP st li rv) body note t x s).1=0→(⟨s.n+(fF x:Nat),s.bE⟩:CS)=(dV (aP st li rv) body note t x s).2:=fun h=>absurd (hF1.symm.trans h) (by decide);exact kP H (SC (aU bR rfl (LR results133 rfl fun H=>H.hp.cu (L':=fD b ms ml mr mb mu (s.n+(fF x:Nat)) :: (mb,fB (fE (s.bE))) :: L) (by repeat (first|exact cZ _|apply List.Sublist.cons)) ⟨⟨s.n+(fF x:Nat),s.bE⟩,ay vi hF1.symm,rfl,hF2⟩)))
   intro Jt a H
   try have p49:=dF Jt
   refine fQ ?_;refine ⟨(⟨s.n+(fF x:Nat),s.bE⟩,Gt),by exact (H).sub ⟨rfl,rfl,rfl,aD⟩,?_⟩;(try dsimp only)
   first
   | exact ⟨by simp_all [kY,bS,fH,jH],fun _ _ h=>h,rfl,fun h7=>by first|omega|(exfalso;simp_all)⟩
   | exact ⟨by simp_all [kY,bS,fH,jH],uy,rfl,fun h7=>by first|omega|(exfalso;simp_all)⟩
  intro h45 a H
  try have p45:=dF h45
  refine kP H (SR fun _ bY=>Rc rfl (ak bY rfl (Cd rfl ?_ ?_))) <;> clear H bY
  ·intro h50 a H
   try have p50:=dT h50
   refine kP H (SQ fun _ bX=>SR fun _ dO=>aO MJ qJ 0 rfl rfl ?_);clear H;intro a H;refine s_call iP H wn rfl (iU _ _ H.ro _ 19) rfl ?_;clear H;rintro v54 _ a w ⟨rfl,rfl⟩ - H;refine ig nL eP [_] [_] H wn rfl rfl rfl rfl rfl (by intro i q h;match i,h with|0,h=>exact h|n+1,h=>simp at h) rfl rfl ?_;clear H;intro b55 a w aiT H;obtain ⟨KV,uy,adr,H⟩:=H.dQ;refine s_call oI H wn rfl (oJ _ _ H.ro _ _ (afp adr)) rfl ?_;clear H;rintro v56 _ a w ⟨rfl,rfl⟩ - H;refine kH H (ak dO rfl (SR fun _ dJ=>Rm rfl (Rc rfl (Kz dJ (Cd rfl ?_ ?_))))) <;> clear H dO dJ
   ·intro jv a H
    try have p58:=dT jv
    have e58:bS note 19≠0:=fun h=>p58 (by rw [h];rfl)
    have aes:dB [bS note 19]=bS note 19:=by simp [dB,e58]
    rw [aes] at H
    have hF1:(dV (aP st li rv) body note t x s).1=bS note 19:=by rw [hE];simp [fH,kY,p50,e58]
    have hF2:(dV (aP st li rv) body note t x s).1=0→(⟨s.n+(fF x:Nat),s.bE⟩:CS)=(dV (aP st li rv) body note t x s).2:=fun h=>absurd (hF1.symm.trans h) (e58);exact kP H (SR fun _ dD=>Rm rfl (ak dD rfl (LR results133 rfl fun H=>H.hp.cu (L':=fD b ms ml mr mb mu (s.n+(fF x:Nat)) :: (mb,fB (fE (s.bE))) :: L) (by repeat (first|exact cZ _|apply List.Sublist.cons)) ⟨⟨s.n+(fF x:Nat),s.bE⟩,ay vi hF1.symm,rfl,hF2⟩)))
   intro jv a H
   try have p58:=dF jv
   have e58:bS note 19=0:=Decidable.byContradiction fun h=>p58 (by simp [dB,h]);refine kP H (Kc bX (SR fun _ dU=>Rm rfl (aO Ap aC 1 rfl rfl ?_)));clear H bX;intro a H;refine gT Ms (Li:=[_,_]) (L:=fD b ms ml mr mb mu _ :: (mb,fB (fE s.bE)) :: L) H wn rfl (LW _ _ _ st li rv b ms ml mr mb mu _ s.bE x.id (hck.mono uy) (Hp.owns (Li:=[_,_]) H.hp)) rfl ?_;clear H;rintro v63 _ _ a w ⟨rfl,rfl,rfl⟩ - H;dsimp only [lca,aV] at H;refine kH H (ak dU rfl (SR fun _ fP=>Rm rfl (Rc rfl (Kz fP (Cd rfl ?_ ?_))))) <;> clear H dU fP
   ·intro qh a H
    try have p65:=dT qh
    have hF1:(dV (aP st li rv) body note t x s).1=oO s.bE x.id:=by rw [hE];simp [fH,kY,p50,e58,jH,p65]
    have hF2:(dV (aP st li rv) body note t x s).1=0→(⟨s.n+(fF x:Nat),jG s.bE x.id⟩:CS)=(dV (aP st li rv) body note t x s).2:=fun h=>absurd (hF1.symm.trans h) (p65);exact kP H (SR fun _ eG=>Rm rfl (ak eG rfl (LR results133 rfl fun H=>H.hp.cu (L':=fD b ms ml mr mb mu (s.n+(fF x:Nat)) :: (mb,fB (fE (jG s.bE x.id))) :: L) (by repeat (first|exact cZ _|apply List.Sublist.cons)) ⟨⟨s.n+(fF x:Nat),jG s.bE x.id⟩,ay vi hF1.symm,rfl,hF2⟩)))
   intro qh a H
   try have p65:=dF qh
   have e65:oO s.bE x.id=0:=mR.1 p65;refine fQ ?_;refine ⟨(⟨s.n+(fF x:Nat),jG s.bE x.id⟩,KV),by exact (H).sub ⟨rfl,rfl,rfl,aD⟩,?_⟩;(try dsimp only)
   first
   | exact ⟨by simp_all [kY,bS,fH,jH],fun _ _ h=>h,rfl,fun h7=>by first|omega|(exfalso;simp_all)⟩
   | exact ⟨by simp_all [kY,bS,fH,jH],uy,rfl,fun h7=>by first|omega|(exfalso;simp_all)⟩
  intro h50 a H
  try have p50:=dF h50
  refine kP H (SR fun _ fZ=>Rc rfl (ak fZ rfl (Cd rfl ?_ ?_))) <;> clear H fZ
  ·intro Ca a H
   try have p67:=dT Ca
   refine kP H (SQ fun _ gN=>SR fun _ iW=>aO FX aC 0 rfl rfl (Rc rfl (Kz iW (Cd rfl ?_ ?_)))) <;> clear H iW
   ·intro xJ a H
    try have p71:=dT xJ
    refine bg (fun _ iN=>?_)
    have hF1:(dV (aP st li rv) body note t x s).1=17:=by rw [hE];simp [fH,kY,p67,bS,p71]
    have hF2:(dV (aP st li rv) body note t x s).1=0→(⟨s.n+(fF x:Nat),s.bE⟩:CS)=(dV (aP st li rv) body note t x s).2:=fun h=>absurd (hF1.symm.trans h) (by decide);exact kP H (SC (aU iN rfl (LR results133 rfl fun H=>H.hp.cu (L':=fD b ms ml mr mb mu (s.n+(fF x:Nat)) :: (mb,fB (fE (s.bE))) :: L) (by repeat (first|exact cZ _|apply List.Sublist.cons)) ⟨⟨s.n+(fF x:Nat),s.bE⟩,ay vi hF1.symm,rfl,hF2⟩)))
   intro xJ a H
   try have p71:=dF xJ
   have ZA:¬ 4≤t:=by omega
   refine kP H (Kc gN (SR fun _ iO=>Rm rfl (aO Ap aC 1 rfl rfl ?_)));clear H gN;intro a H;refine gT Ms (Li:=[_,_]) (L:=fD b ms ml mr mb mu _ :: (mb,fB (fE s.bE)) :: L) H wn rfl (LW _ _ _ st li rv b ms ml mr mb mu _ s.bE x.id hck (Hp.owns (Li:=[_,_]) H.hp)) rfl ?_;clear H;rintro v75 _ _ a w ⟨rfl,rfl,rfl⟩ - H;dsimp only [lca,aV] at H;refine kH H (ak iO rfl (SR fun _ jM=>Rm rfl (Rc rfl (Kz jM (Cd rfl ?_ ?_))))) <;> clear H iO jM
   ·intro Cb a H
    try have Ez:=dT Cb
    have hF1:(dV (aP st li rv) body note t x s).1=oO s.bE x.id:=by rw [hE];simp [fH,kY,p67,bS,ZA,jH,Ez]
    have hF2:(dV (aP st li rv) body note t x s).1=0→(⟨s.n+(fF x:Nat),jG s.bE x.id⟩:CS)=(dV (aP st li rv) body note t x s).2:=fun h=>absurd (hF1.symm.trans h) (Ez);exact kP H (SR fun _ kC=>Rm rfl (ak kC rfl (LR results133 rfl fun H=>H.hp.cu (L':=fD b ms ml mr mb mu (s.n+(fF x:Nat)) :: (mb,fB (fE (jG s.bE x.id))) :: L) (by repeat (first|exact cZ _|apply List.Sublist.cons)) ⟨⟨s.n+(fF x:Nat),jG s.bE x.id⟩,ay vi hF1.symm,rfl,hF2⟩)))
   intro Cb a H
   try have Ez:=dF Cb
   have e77:oO s.bE x.id=0:=mR.1 Ez;refine fQ ?_;refine ⟨(⟨s.n+(fF x:Nat),jG s.bE x.id⟩,Gt),by exact (H).sub ⟨rfl,rfl,rfl,aD⟩,?_⟩;(try dsimp only)
   first
   | exact ⟨by simp_all [kY,bS,fH,jH],fun _ _ h=>h,rfl,fun h7=>by first|omega|(exfalso;simp_all)⟩
   | exact ⟨by simp_all [kY,bS,fH,jH],uy,rfl,fun h7=>by first|omega|(exfalso;simp_all)⟩
  intro Ca a H
  try have p67:=dF Ca
  refine kP H (SR fun _ jo=>Rc rfl (ak jo rfl (Cd rfl ?_ ?_))) <;> clear H jo
  ·intro Ay a H
   try have OV:=dT Ay
   refine kP H (SR fun _ ng=>aO Ap aC 1 rfl rfl ?_);clear H;intro a H;refine s_call tY H wn rfl (uE _ _ H.ro x.id 1 1073741824) rfl ?_;clear H;rintro v83 _ a w ⟨rfl,rfl⟩ - H;refine kH H (Rn rfl (Kz ng (Cd rfl ?_ ?_))) <;> clear H ng
   ·intro h84 a H
    try have p84:=dT h84
    refine bg (fun _ nO=>?_)
    have ZB:¬ (1≤x.id∧x.id≤1073741824):=by have h0:=h84;simp at h0;omega
    have hF1:(dV (aP st li rv) body note t x s).1=18:=by rw [hE];simp [fH,kY,OV,bS,ZB]
    have hF2:(dV (aP st li rv) body note t x s).1=0→(⟨s.n+(fF x:Nat),s.bE⟩:CS)=(dV (aP st li rv) body note t x s).2:=fun h=>absurd (hF1.symm.trans h) (by decide);exact kP H (SC (aU nO rfl (LR results133 rfl fun H=>H.hp.cu (L':=fD b ms ml mr mb mu (s.n+(fF x:Nat)) :: (mb,fB (fE (s.bE))) :: L) (by repeat (first|exact cZ _|apply List.Sublist.cons)) ⟨⟨s.n+(fF x:Nat),s.bE⟩,ay vi hF1.symm,rfl,hF2⟩)))
   intro h84 a H
   try have p84:=dF h84
   refine fQ ?_;refine ⟨(⟨s.n+(fF x:Nat),s.bE⟩,Gt),by exact (H).sub ⟨rfl,rfl,rfl,aD⟩,?_⟩;(try dsimp only)
   first
   | exact ⟨by simp_all [kY,bS,fH,jH],fun _ _ h=>h,rfl,fun h7=>by first|omega|(exfalso;simp_all)⟩
   | exact ⟨by simp_all [kY,bS,fH,jH],uy,rfl,fun h7=>by first|omega|(exfalso;simp_all)⟩
  intro Ay a H
  try have OV:=dF Ay
  refine fQ ?_;refine ⟨(⟨s.n+(fF x:Nat),s.bE⟩,Gt),by exact (H).sub ⟨rfl,rfl,rfl,aD⟩,?_⟩;(try dsimp only)
  first
  | exact ⟨by simp_all [kY,bS,fH,jH],fun _ _ h=>h,rfl,fun h7=>by first|omega|(exfalso;simp_all)⟩
  | exact ⟨by simp_all [kY,bS,fH,jH],uy,rfl,fun h7=>by first|omega|(exfalso;simp_all)⟩
 clear H;intro gh a w hI H;obtain ⟨s1,g⟩:=gh;dsimp only at hI H;obtain ⟨hP,uz,ajn,ht7⟩:=hI;rw [hP,FI rfl] at hE;dsimp only at hE;replace hck:=hck.mono uz;replace hh:=hh.mono uz;replace hf:=hf.mono uz;replace hr:=hr.mono uz;dsimp only [lca,aV] at H;refine kP H (SQ fun _ ow=>SR fun _ nQ=>Rm rfl (aO kV aC 1 rfl rfl (Rf MO rfl ?_)));clear H;intro a H;refine aW tL (cs:=[_,_,_,_,_]) H wn rfl rfl (H.hp.bT 1 rfl rfl) rfl ?_;clear H;intro a H;refine gT DN (Li:=[_,_]) (L:=fD b ms ml mr mb mu s1.n :: (mb,fB (fE s1.bE)) :: L) H wn rfl (Ef _ _ _ st li rv b ms ml mr mb mu _ hck (Hp.owns (Li:=[_,_]) H.hp) x.kind x.head _ _ _ hh (by omega)) rfl ?_;clear H;rintro v90 _ _ a w ⟨rfl,rfl,rfl⟩ - H;dsimp only [lca,aV] at H;refine kH H (ak nQ rfl (SR fun _ nk=>Rm rfl (Rc rfl (Kz nk (Cd rfl ?_ ?_))))) <;> clear H nQ nk
 ·intro M9 a H
  try have JY:=dT M9
  have hF1:(dV (aP st li rv) body note t x s).1=iZ (aP st li rv) x.kind x.head:=by rw [hE,Iz (r:=(iZ (aP st li rv) x.kind x.head,s1)) JY]
  have hF2:(dV (aP st li rv) body note t x s).1=0→s1=(dV (aP st li rv) body note t x s).2:=fun h=>absurd (hF1.symm.trans h) JY;exact kP H (SR fun _ pF=>Rm rfl (ak pF rfl (LR results133 rfl fun H=>H.hp.cu (L':=fD b ms ml mr mb mu (s1.n) :: (mb,fB (fE (s1.bE))) :: L) (by repeat (first|exact cZ _|apply List.Sublist.cons)) ⟨s1,ay vi hF1.symm,rfl,hF2⟩)))
 intro M9 a H
 try have JY:=dF M9
 rw [FI (r:=(iZ (aP st li rv) x.kind x.head,s1)) (mR.1 JY)] at hE;dsimp only at hE;refine kP H (Kc ow (SQ fun _ qN=>SR fun _ oz=>aO kV aC 1 rfl rfl (Kz oz (SB (SR fun _ sH=>Rc rfl (ak sH rfl (Cd rfl ?_ ?_))))))) <;> clear H ow oz sH
 ·intro qj a H
  try have Ht:=dT qj
  rw [au Ht] at hE;refine kP H (SR fun _ wU=>Rm rfl (aO BR jL 1 rfl rfl (aO FX aC 0 rfl rfl ?_)));clear H;intro a H;refine jw Bl [_,_,_] H wn rfl rfl rfl rfl ?_;clear H;intro a H;refine gT FU (Li:=[_,_]) (L:=fD b ms ml mr mb mu s1.n :: (mb,fB (fE s1.bE)) :: L) H wn rfl (ih _ _ _ st li rv b ms ml mr mb mu s1 x.flow _ false true t hck (Hp.owns (Li:=[_,_]) H.hp) hf (by omega) ht0 Cm (by omega) (by omega)) rfl ?_;clear H;rintro ajr _ _ a w ⟨rfl,s3,rfl,rfl,h3⟩ - H;dsimp only [lca,aV] at H
  have hF1:(dV (aP st li rv) body note t x s).1=(jk (aP st li rv) false true t x.flow s1).1:=by rw [hE]
  have hF2:(dV (aP st li rv) body note t x s).1=0→s3=(dV (aP st li rv) body note t x s).2:=by rw [hE];exact h3
  exact kH H (ak wU rfl (LR results133 rfl fun H=>H.hp.cu (L':=fD b ms ml mr mb mu (s3.n) :: (mb,fB (fE (s3.bE))) :: L) (by repeat (first|exact cZ _|apply List.Sublist.cons)) ⟨s3,ay vi hF1.symm,rfl,hF2⟩))
 intro qj a H
 try have Ht:=dF qj
 rw [ah Ht] at hE;refine kP H (SR fun _ wV=>Rc rfl (ak wV rfl (Cd rfl ?_ ?_))) <;> clear H wV
 ·intro oK a H
  try have Ey:=dT oK
  rw [au Ey] at hE;refine kP H (SR fun _ mK=>Rm rfl (aO yQ zQ 1 rfl rfl (aO MJ qJ 0 rfl rfl (aO FX aC 0 rfl rfl (Rd rfl ?_)))));clear H;intro a H;refine jw Bl [_,_,_] H wn rfl rfl rfl rfl ?_;clear H;intro a H;refine gT aax (Li:=[_,_]) (L:=fD b ms ml mr mb mu s1.n :: (mb,fB (fE s1.bE)) :: L) H wn rfl (rows_ok ih hm _ _ _ st li rv b ms ml mr mb mu s1 x.rows _ note (t+1) hck (Hp.owns (Li:=[_,_]) H.hp) hr (by omega) (by omega) (by have:=ht7 Ey;omega) (by omega) (by omega)) rfl ?_;clear H;rintro ajs _ _ a w ⟨s3,rfl,rfl,h3⟩ - H;dsimp only [lca,aV] at H
  have hF1:(dV (aP st li rv) body note t x s).1=(kQ x.rows.length (fun s=>iE (aP st li rv) note (t+1) x.rows s) s1).1:=by rw [hE]
  have hF2:(dV (aP st li rv) body note t x s).1=0→s3=(dV (aP st li rv) body note t x s).2:=by rw [hE];exact h3
  exact kH H (ak mK rfl (LR results133 rfl fun H=>H.hp.cu (L':=fD b ms ml mr mb mu (s3.n) :: (mb,fB (fE (s3.bE))) :: L) (by repeat (first|exact cZ _|apply List.Sublist.cons)) ⟨s3,ay vi hF1.symm,rfl,hF2⟩))
 intro oK a H
 try have Ey:=dF oK
 rw [ah Ey] at hE
 have hF1:(dV (aP st li rv) body note t x s).1=0:=by rw [hE]
 have hF2:(dV (aP st li rv) body note t x s).1=0→s1=(dV (aP st li rv) body note t x s).2:=fun h=>by rw [hE]
 exact kP H (Kc qN (SR fun _ yD=>ak yD rfl (LR results133 rfl fun H=>H.hp.cu (L':=fD b ms ml mr mb mu (s1.n) :: (mb,fB (fE (s1.bE))) :: L) (by repeat (first|exact cZ _|apply List.Sublist.cons)) ⟨s1,ay vi hF1.symm,rfl,hF2⟩)))
end
section
open Go.RowKit
theorem aad:∀ args w,(callFunc 133 args).run prog w=.ok (.enter 133 args) w:=enters func133 rfl (by kernel_rfl)
theorem aac:∀ args w,(callFunc 132 args).run prog w=.ok (.enter 132 args) w:=enters func132 rfl (by kernel_rfl)
def Qi (fv:aj) (Gi:GH) (n:Nat) (E:Nat→Int) {σ:Type} (B:σ→OL) (S:Nat→σ):Prop:=∀ i,i < n→∀ (G1:GH) (w1:World),(∀ b o,Gi b=some o→G1 b=some o)→gI G1 (B (S i)) w1 →
 tT prog fv [vi i] w1 (fT w1 G1 (B (S i)) fun u G' L'=>∃ s,u=vi (E i)∧L'=B s∧(E i=0→s=S (i+1)))
theorem XK (G:GH) (w0:World) {σ:Type} (B:σ→OL) (S:Nat→σ) (n:Nat) (E:Nat→Int) (fv:aj) (hO:gI G (B (S 0)) w0) (hn:n≤4611686018427387904) (hf:Qi fv G n E B S) :
  Calls prog 123 #[vi n,fv] w0 (fT w0 G (B (S 0)) fun u G' L'=>∃ s,u=vi (jV E n)∧L'=B s∧(jV E n=0→s=S n)):=by
 refine jh (N:=18) (T:=[(0,_),(1,_)]) func123 rfl ntmps123 rfl rfl hO ?_;intro a H;refine kP H (SR fun _ K1=>ak K1 rfl (SQ fun _ K2=>SR fun _ K3=>Rm rfl (Rm rfl (Kz K3 (SB ?_)))));clear H K1 K3;intro a H;skip;refine gq (ι:=Nat × GH) (Tc:=[(1,_),(7,_)]) (Lc:=[]) (fun gh=>[(8,vi gh.1)]) (fun gh=>[]++B (S gh.1)) (fun gh=>gh.2) (fun gh=>gh.1≤n∧dB (((List.range n).map E).drop gh.1)=jV E n∧(∀ b o,G b=some o→gh.2 b=some o)) (fun gh=>n - gh.1) ((0,G)) (by exact (H).sub ⟨rfl,rfl,rfl,aD⟩) ?_ ?_
 ·exact ⟨gW _,rfl,fun _ _ h=>h⟩
 clear H;intro gh a w hI H;obtain ⟨k,g⟩:=gh;dsimp only at hI H;obtain ⟨hk,he,hgm⟩:=hI;dsimp only [lca,aV] at H;refine kP H (SR fun _ K4=>Rc rfl (Kz K4 (SQ fun _ K5=>Cd rfl ?_ ?_))) <;> clear H K4
 ·intro h9 a H
  try have p9:=dT h9
  have hk2:k < n:=by omega
  refine kP H (Kc K5 (SQ fun _ K6=>SB (SR fun _ K7=>Rm rfl (ak K7 rfl (SR fun _ K8=>Rm rfl (Rm rfl ?_))))));clear H K5 K7;intro a H;refine uJ (Li:=[]) (L:=B (S k)) H wn rfl rfl (hf k hk2 _ _ hgm (Hp.owns (Li:=[]) H.hp)) rfl ?_;clear H;rintro v13 vK L13 a w ⟨s3,rfl,rfl,h3⟩ pR H;refine kH H (ak K8 rfl (SR fun _ K9=>Rm rfl (Rc rfl (Kz K9 (Cd rfl ?_ ?_))))) <;> clear H K8 K9
  ·intro jX a H
   try have oP:=dT jX
   have hE:jV E n=E k:=by rw [BJ hk2,au oP] at he;exact he.symm
   exact kP H (SR fun _ aQ=>Rm rfl (ak aQ rfl (LR results123 rfl fun H=>H.hp.eU ⟨s3,by rw [hE],rfl,fun h=>absurd (hE.symm.trans h) oP⟩)))
  intro jX a H
  try have oP:=dF jX
  have hS:=h3 (mR.1 oP);subst hS;refine kP H (Kc K6 (SC (Rd rfl (Rm rfl ?_))));clear H K6;intro a H;refine aH ?_;refine eO ((k+1,vK)) (by exact (H).sub ⟨rfl,rfl,rfl,aD⟩) ?_ ?_
  ·(try dsimp only);exact ⟨by omega,by rw [BJ hk2,ah oP] at he;exact he,fun b o h=>pR b o (hgm b o h)⟩
  first|omega|(dsimp only;omega)
 intro h9 a H
 try have p9:=dF h9
 refine fI ?_;refine K2 _ _ ?_;clear K2;exact kP H (SR fun _ bH=>ak bH rfl (LR results123 rfl fun H=>H.hp.eU ⟨S n,ay vi (by rw [gK (by simp;omega)] at he;exact he),by rw [show k=n by omega],fun _=>rfl⟩))
abbrev IQ (b ms ml mr mb mu:Nat) (L:OL) (s:CS):OL:=fD b ms ml mr mb mu s.n :: (mb,fB (fE s.bE)) :: L
theorem aeI {m:Nat} (ih:Dg m) (hm:m≤4294967296) {G:GH} {L:OL} {st:List bL} {li:List fK} {rv:List eZ} {b ms ml mr mb mu:Nat} {s:CS} {l:List aB} {v:aj} {body note:Bool} {t:Int} {x3 x4 x5:Nat}
  (hck:sD G st li rv ms ml mr mu) (h3:aI G x3 0=some (aJ b 0)) (h4:aI G x4 0=some v) (h5:∀ (j:Nat) (u:aj),[.bool body,.bool note,vi t][j]?=some u→aI G x5 (0+j)=some u)
  (hv:av G (.sl 11 (l.map aB.dat)) v) (hz:bG l≤m) (ht0:0≤t) (Cm:t≤4) (hs0:0≤s.n) (hs1:s.n+(bG l:Nat)≤1099511627776) :
  Qi (.func (.func 132) #[] #[(aJ x3 0),(aJ x4 0),(aJ x5 0)]) G l.length (yM (dV (aP st li rv) body note t) l s) (IQ b ms ml mr mb mu L) (om (dV (aP st li rv) body note t) l s):=by
 intro k hk G1 w0 GN hO;refine kG (caps:=[(aJ x3 0),(aJ x4 0),(aJ x5 0)]) aac ?_;replace h3:=aL GN h3;replace h4:=aL GN h4;replace h5:=fun j u hj=>aL GN (h5 j u hj);replace hck:=hck.mono GN;replace hv:=hv.mono GN;obtain ⟨A,c,rfl,hc1,hc2,hg⟩:=hv.slice;rw [bW] at *;obtain ⟨o,xo,pA,pn,pc,dA,dn,dc,yA,yn,yc,fA,fn,fc,rA,rn,rc,rfl,hrow,hhd,hfl,hrw⟩:=Gd hk hg;obtain ⟨hn0,hn1⟩:=V5 (aP st li rv) body note t l s k (by omega)
 have hdz:bG (l.drop k)=1+cB l[k].dat+bG (l.drop (k+1)):=by
  simp only [bG];rw [lu hk,fG,dZ]
 have hzm:=PW (jT hk)
 have hE:yM (dV (aP st li rv) body note t) l s k=(dV (aP st li rv) body note t l[k] (om (dV (aP st li rv) body note t) l s k)).1:=by unfold yM;rw [gy hk]
 have hS:om (dV (aP st li rv) body note t) l s (k+1)=(dV (aP st li rv) body note t l[k] (om (dV (aP st li rv) body note t) l s k)).2:=by rw [om,gy hk]
 rw [hE,hS]
 generalize om (dV (aP st li rv) body note t) l s k=s1 at *
 refine jh (N:=13) (T:=[(0,_),(1,_),(2,_),(3,_)]) func132 rfl ntmps132 rfl rfl hO ?_;intro a H;refine kP H (SR fun _ K1=>ak K1 rfl (SQ fun _ K2=>?_));clear H K1;intro a H;refine dI hmx [[],[],[],[1,2],[1,2,3],[],(ra 0 6),(ra 0 7)] [6,7] (by kernel_rfl) [_,_,_,_,.agg #[vi l[k].kind,vi l[k].code,vi l[k].id,.string l[k].text,.slice pA pn pc,vi l[k].head.marks.ins,vi l[k].head.marks.move,.slice dA dn dc,.slice yA yn yc,.slice fA fn fc,.slice rA rn rc],.agg #[.bool body,.bool note,vi t]] H (aF (X0 rfl fun hG=>Rg EK rfl (aL hG h3)) (X0 rfl fun hG=>Rg jL rfl (aL hG h4)) (Z0 rfl (Rm rfl)) (Z2 1 7 2 8 rfl (Ri oq eX rfl rfl)) (aF ?_ ?_ (bJ rfl) (bJ rfl) dP)) ?_
 ·refine eH 3 9 rfl rfl fun _ a w G1 hG HT H fin=>?_;refine aW eX (cs:=[_,_,_,_,_,_,_,_,_,_,_]) H wn rfl rfl (fun j v hj=>H.hp.aI (aL hG (hrow j v hj))) rfl ?_;clear H;intro a H;exact fin H iJ rfl
 ·refine yE rfl fun _ a w G1 hG HT H fin=>?_;refine aW KC (cs:=[.bool body,.bool note,vi t]) H wn rfl rfl (fun j v hj=>H.hp.aI (aL hG (h5 j v hj))) rfl ?_;clear H;intro a H;exact fin H iJ rfl
 clear H;intro a w G lU H hv;have H:=H.aT (hv 0 6 rfl rfl) rfl;have H:=H.aT (hv 4 10 rfl rfl) rfl;have H:=H.aT (hv 5 11 rfl rfl) rfl;clear hv;refine gT aad (Li:=[]) (L:=IQ b ms ml mr mb mu L s1) H wn rfl (aeJ ih hm _ _ _ st li rv b ms ml mr mb mu s1 l[k] _ _ _ _ _ body note t (hck.mono lU) (Hp.owns (Li:=[]) H.hp) (hhd.mono lU) (hfl.mono lU) (hrw.mono lU) (by omega) ht0 Cm (by omega) (by omega)) rfl ?_;clear H;rintro v12 _ _ a w ⟨s3,rfl,rfl,h12⟩ - H;dsimp only [List.nil_append] at H;refine kH H (Ra rfl ?_);clear H;intro a H;refine aH ⟨rfl,?_⟩;refine K2 _ _ ?_;clear K2;refine lr H results132 rfl ?_;exact H.hp.eU ⟨s3,rfl,rfl,h12⟩
theorem aeK {m:Nat} (ih:Dg m) (hm:m≤4294967296):Dg (m+1):=by
 intro G L w0 st li rv b ms ml mr mb mu s l v body note t hck hO hv hz ht0 Cm hs0 hs1;obtain ⟨hA1,hA2⟩:=Ul (aP st li rv) body note t l s;refine Calls.XY (R:=fun u G' L'=>Ih b ms ml mr mb mu L (jk (aP st li rv) body note t l s) u L') ?_ fun _ _ _ h=>h;obtain ⟨A,c,rfl,hc1,hc2,-⟩:=hv.slice;rw [bW] at *;have hll:=E8 l;refine jh (N:=11) (T:=[(0,_),(1,_),(2,_)]) func71 rfl ntmps71 rfl rfl hO ?_;intro a H;refine bK (fun _ K1=>?_);refine dz (cs:=[_]) H wn rfl rfl rfl ?_;clear H;intro b3 a w hb3 H;refine dz (cs:=[_]) H wn rfl rfl rfl ?_;clear H;intro b4 a w hb4 H;refine dz (cs:=[_,_,_]) H wn rfl rfl rfl ?_;clear H;intro b5 a w hb5 H;refine kH H (ak K1 rfl (SQ fun _ K2=>?_));clear H K1;intro a H;obtain ⟨Xt,JE,xK,H⟩:=H.dQ;obtain ⟨Xr,Ei,wz,H⟩:=H.dQ;obtain ⟨Ga,AV,wu,H⟩:=H.dQ;replace xK:=AV _ _ (Ei _ _ xK);replace wz:=AV _ _ wz;have hma:∀ b o,G b=some o→Ga b=some o:=fun b o h=>AV _ _ (Ei _ _ (JE _ _ h))
 have g3:aI Ga b3 0=some (aJ b 0):=by unfold aI;rw [wu];rfl
 have g4:aI Ga b4 0=some (.slice A l.length c):=by unfold aI;rw [wz];rfl
 have g5:∀ (j:Nat) (u:aj),[.bool body,.bool note,vi t][j]?=some u→aI Ga b5 (0+j)=some u:=by
  intro j u hj;unfold aI;rw [xK];simpa using hj
 have hcb:=aeI (mb:=mb) (L:=L) (s:=s) ih hm (hck.mono hma) g3 g4 g5 (hv.mono hma) (by omega) ht0 Cm hs0 hs1;refine kP H (SC (Rg jL rfl (by assumption) ?_));clear H;intro a H;refine kH H (Rl oq rfl ?_);clear H;intro a H;refine nK H wn rfl rfl ?_;clear H;intro a H;refine gT DK (Li:=[]) (L:=IQ b ms ml mr mb mu L s) H wn rfl (XK _ _ (IQ b ms ml mr mb mu L) (om (dV (aP st li rv) body note t) l s) l.length (yM (dV (aP st li rv) body note t) l s) _ (Hp.owns (Li:=[]) H.hp) (by omega) hcb) rfl ?_;clear H;rintro v10 _ _ a w ⟨s3,rfl,rfl,h10⟩ - H;dsimp only [List.nil_append] at H;exact kH H (aU K2 rfl (LR results71 rfl fun H=>H.hp.eU ⟨s3,by rw [hA1],rfl,fun h=>by rw [hA1] at h;exact (h10 h).trans (hA2 (hA1.trans h)).symm⟩))
theorem JO:∀ m:Nat,m≤4294967297→Dg m
 | 0,_=>fun _ _ _ _ _ _ _ _ _ _ _ _ _ _ _ _ _ _ _ _ _ h=>absurd h (by omega)
 | m+1,hm=>aeK (JO m (by omega)) (by omega)
end
section
open Go.RowKit
theorem acg:bV prog 49 1 1:=⟨by kernel_rfl⟩
theorem ach:bV prog 49 2 2:=⟨by kernel_rfl⟩
theorem Z6:∀ args w,(callFunc 126 args).run prog w=.ok (.enter 126 args) w:=enters func126 rfl (by kernel_rfl)
theorem Z5:∀ args w,(callFunc 124 args).run prog w=.ok (.enter 124 args) w:=enters func124 rfl (by kernel_rfl)
theorem agl {G:GH} {bl:Nat} {l:List eZ} {A:Option Addr} {n c:Nat} (hb:aI G bl 0=some (.slice A n c)) (hv:av G (.sl 3 (l.map eZ.dat)) (.slice A n c)):qM (.func (.func 126) #[] #[(aJ bl 0)]) G l.length fun k=>(l[k]?.map eZ.id).getD 0:=by
 intro k hk G1 w0 hm hG;refine kG (caps:=[(aJ bl 0)]) Z6 ?_;replace hb:=aL hm hb
 obtain rfl:n=l.length:=by have:=hv.len;simpa using this
 obtain ⟨b,o,rfl,hrow⟩:=O8 (hv.mono hm) hk;have hq:=hrow 0 _ rfl;refine eN [(0,_),(1,_)] func126 rfl ntmps126 rfl rfl hG ?_;intro a H;refine kP H (SR fun _ K1=>ak K1 rfl (SR fun _ K2=>Rg Bn rfl (by assumption) ?_));clear H K1;intro a H;refine kH H (Rm rfl (Ri Bq CX rfl rfl (Rf SL rfl (Rg aC rfl (by assumption) ?_))));clear H;intro a H;exact kH H (ak K2 rfl (LR results126 rfl fun H=>H.rt (by dsimp only;rw [gy hk];rfl)))
def O6 (l:List eZ) (i:Nat) (x:eZ):Int:=dB [og (fun k=>(l[k]?.map eZ.id).getD 0) i,bS (!uT x.author) 39,bS (!decide (0≤x.time∧x.time≤1099511627776)) 40]
def CK (l:List eZ) (i:Nat):Int:=match l[i]? with|some x=>O6 l i x|none=>0
theorem aga {G:GH} {bl:Nat} {l:List eZ} {A:Option Addr} {n c:Nat} (hb:aI G bl 0=some (.slice A n c)) (hv:av G (.sl 3 (l.map eZ.dat)) (.slice A n c)) (hl:l.length≤4294967296) (ht:∀ x∈l,x.author.size < 4611686018427387904):qM (.func (.func 124) #[] #[(aJ bl 0)]) G l.length (CK l):=by
 intro k hk G1 w0 hm hG;refine kG (caps:=[(aJ bl 0)]) Z5 ?_;replace hb:=aL hm hb;replace hv:=hv.mono hm;have hcb:=agl hb hv
 obtain rfl:n=l.length:=by have:=hv.len;simpa using this
 obtain ⟨b,o,rfl,hrow⟩:=O8 hv hk;have hte:=ht _ (jT hk)
 have he:CK l k=O6 l k l[k]:=by unfold CK;rw [gy hk]
 obtain ⟨x,hx⟩:∃ x,x=l[k]:=⟨_,rfl⟩;rw [← hx] at hrow hte he;refine eN [(0,_),(1,_)] func124 rfl ntmps124 rfl rfl hG ?_;intro a H;refine kP H (SR fun _ K1=>ak K1 rfl (SQ fun _ K2=>?_));clear H K1;intro a H;have H:=H.sub (T':=[(0,_),(1,_)]) ⟨rfl,rfl,aD⟩;refine dI hmx [[],[],[0,1],[],[],[3,4],[3,4,5],(ra 3 4),(ra 0 8),(ra 0 9),(ra 0 10),[],[],[11,12],[11,12,13],(ra 11 4),(ra 0 16),(ra 0 17),(ra 0 18),(ra 0 19),(ra 0 20),(ra 0 21)] [19,20,21] (by kernel_rfl) [_,.func (.func 126) #[] #[(aJ bl 0)],vi (og (fun k=>(l[k]?.map eZ.id).getD 0) k),_,_,_,_,_,.bool (uT x.author),_,vi (bS (!uT x.author) 39),_,_,_,_,_,.bool (decide (0≤x.time∧x.time≤1099511627776)),_,vi (bS (!decide (0≤x.time∧x.time≤1099511627776)) 40)] H (aF (Z0 rfl (Rm rfl)) ?_ ?_ (X0 rfl fun hG=>Rg Bn rfl (aL hG hb)) (aF (Z0 rfl (Rm rfl)) (Z2 3 7 4 8 rfl (Ri Bq CX rfl rfl)) (Z1 5 9 rfl (Rf acg rfl)) (X1 6 10 rfl fun hG=>Rg iB rfl (aL hG (hrow 1 _ rfl))) (aF ?_ (Z1 8 12 rfl (Rn rfl)) ?_ (X0 rfl fun hG=>Rg Bn rfl (aL hG hb)) (aF (Z0 rfl (Rm rfl)) (Z2 11 15 12 16 rfl (Ri Bq CX rfl rfl)) (Z1 13 17 rfl (Rf ach rfl)) (X1 14 18 rfl fun hG=>Rg aC rfl (aL hG (hrow 2 _ rfl))) (aF ?_ (Z1 16 20 rfl (Rn rfl)) ?_ (bJ rfl) (bM (bJ rfl) (bM (bJ rfl) dP))))))) ?_
 ·refine yE rfl fun _ a w G1 hG HT H fin=>?_;refine nK H wn rfl rfl ?_;clear H;intro a H;exact fin H iJ rfl
 ·refine eB 0 4 1 5 rfl rfl fun _ a w G1 hG HT H fin=>?_;refine s_call Mi H wn rfl (Ox _ _ H.ro k _ _ (by omega) (fun i hi=>(hcb.mono hG) i (by omega))) rfl ?_;clear H;rintro v6 G6 a w rfl jF H;exact fin H jF (rfl)
 ·refine eH 7 11 rfl rfl fun _ a w G1 hG HT H fin=>?_;refine s_call RZ H wn rfl (QO _ _ H.ro x.author hte) rfl ?_;clear H;rintro v12 yx a w ⟨rfl,-⟩ pO H;exact fin H pO (rfl)
 ·refine eH 9 13 rfl rfl fun _ a w G1 hG HT H fin=>?_;refine s_call iP H wn rfl (iU _ _ H.ro _ 39) rfl ?_;clear H;rintro v14 yB a w ⟨rfl,-⟩ Gm H;exact fin H Gm (rfl)
 ·refine eH 15 19 rfl rfl fun _ a w G1 hG HT H fin=>?_;refine s_call tY H wn rfl (uE _ _ H.ro x.time 0 1099511627776) rfl ?_;clear H;rintro v20 Db a w ⟨rfl,-⟩ acM H;exact fin H acM (rfl)
 ·refine eH 17 21 rfl rfl fun _ a w G1 hG HT H fin=>?_;refine s_call iP H wn rfl (iU _ _ H.ro _ 40) rfl ?_;clear H;rintro v22 Qb a w ⟨rfl,-⟩ Nc H;exact fin H Nc (rfl)
 clear H;intro a w G lU H hv;have H:=H.aT (hv 2 6 rfl rfl) rfl;have H:=H.aT (hv 10 14 rfl rfl) rfl;have H:=H.aT (hv 18 22 rfl rfl) rfl;clear hv;refine ig nL eP [_,_,_] [_,_,_] H wn rfl rfl rfl rfl rfl (by intro i q h;match i,h with|0,h=>exact h|1,h=>exact h|2,h=>exact h|n+3,h=>simp at h) rfl rfl ?_;clear H;intro XM a w adk H;obtain ⟨Qc,GK,adl,H⟩:=H.dQ;refine s_call oI H wn rfl (oJ _ _ H.ro _ _ (Co [og (fun k=>(l[k]?.map eZ.id).getD 0) k,bS (!uT x.author) 39,bS (!decide (0≤x.time∧x.time≤1099511627776)) 40] adl (show 3≤maxLen by decide))) rfl ?_;clear H;rintro v24 _ a w ⟨rfl,rfl⟩ - H;refine kH H (Ra rfl ?_);clear H;intro a H;refine aH ⟨rfl,?_⟩;refine K2 _ _ ?_;clear K2;refine lr H results124 rfl ?_;exact H.rt (by rw [he,O6])
def FL (l:List eZ):Int:=dB [bS (decide (256 < (l.length:Int))) 9,jV (CK l) (min l.length 256)]
theorem YJ (G:GH) (w0:World) (hG:Hold G w0) (l:List eZ) (v:aj) (hv:av G (.sl 3 (l.map eZ.dat)) v) (hl:l.length≤4294967296) (ht:∀ x∈l,x.author.size < 4611686018427387904) :
  Calls prog 67 #[v] w0 (aZ w0 G fun u G'=>u=vi (FL l)):=by
 obtain ⟨A,c,rfl,hc1,hc2,-⟩:=hv.slice;rw [bW] at *;refine eN [(0,_)] func67 rfl ntmps67 rfl rfl hG ?_;intro a H;refine bK (fun _ K1=>?_);refine dz (cs:=[_]) H wn rfl rfl rfl ?_;clear H;intro b1 a w hb1 H;refine kH H (ak K1 rfl (SQ fun _ K2=>?_));clear H K1;intro a H;have H:=H.sub (T':=[(1,_)]) ⟨rfl,aD⟩;obtain ⟨Ga,hma,hb1',H⟩:=H.dQ
 have hbl:aI Ga b1 0=some (.slice A l.length c):=by unfold aI;rw [hb1'];rfl
 have hcb:=aga hbl (hv.mono hma) hl ht;refine dI hmx [[],[0],[0,1],[0,1,2],[],[4],[4,5],[],(ra 0 8),(ra 0 9),(ra 0 10),(ra 0 11)] [9,10,11] (by kernel_rfl) [_,_,_,vi (bS (decide (256 < (l.length:Int))) 9),_,_,vi ((min l.length 256:Nat):Int),.func (.func 124) #[] #[(aJ b1 0)],vi (jV (CK l) (min l.length 256))] H (aF (X0 rfl fun hG=>Rg Bn rfl (aL hG hbl)) (Z1 0 3 rfl (Rl Bq rfl)) (Z1 1 4 rfl (Rc rfl)) ?_ (aF (X0 rfl fun hG=>Rg Bn rfl (aL hG hbl)) (Z1 4 7 rfl (Rl Bq rfl)) ?_ ?_ (aF ?_ (bJ rfl) (bJ rfl) (bJ rfl) dP))) ?_
 ·refine eH 2 5 rfl rfl fun _ a w G1 hG HT H fin=>?_;refine s_call iP H wn rfl (iU _ _ H.ro _ 9) rfl ?_;clear H;rintro v6 G6 a w ⟨rfl,-⟩ jF H;exact fin H jF (rfl)
 ·refine eH 5 8 rfl rfl fun _ a w G1 hG HT H fin=>?_;refine Kl H wn rfl rfl rfl ?_;clear H;intro a H;exact fin H iJ (ay vi (by omega))
 ·refine yE rfl fun _ a w G1 hG HT H fin=>?_;refine nK H wn rfl rfl ?_;clear H;intro a H;exact fin H iJ rfl
 ·refine eB 6 9 7 10 rfl rfl fun _ a w G1 hG HT H fin=>?_;refine s_call DK H wn rfl (FH _ _ H.ro (min l.length 256) (CK l) _ (by omega) ((hcb.mono hG).le (Nat.min_le_left _ _))) rfl ?_;clear H;rintro v11 sF a w rfl rV H;exact fin H rV (rfl)
 clear H;intro a w G lU H hv;have H:=H.aT (hv 3 6 rfl rfl) rfl;have H:=H.aT (hv 8 11 rfl rfl) rfl;clear hv;refine ig nL eP [_,_] [_,_] H wn rfl rfl rfl rfl rfl (by intro i q h;match i,h with|0,h=>exact h|1,h=>exact h|n+2,h=>simp at h) rfl rfl ?_;clear H;intro b12 a w Ec H;obtain ⟨yx,uq,Cg,H⟩:=H.dQ;refine s_call oI H wn rfl (oJ _ _ H.ro _ _ (vG Cg)) rfl ?_;clear H;rintro v13 _ a w ⟨rfl,rfl⟩ - H;refine kH H (Ra rfl ?_);clear H;intro a H;refine aH ⟨rfl,?_⟩;refine K2 _ _ ?_;clear K2;refine lr H results67 rfl ?_;exact H.rt rfl
theorem ug:∀ {l:List Int},dB l=0→∀ x∈l,x=0
 | [],_,_,h=>by cases h
 | e :: r,h,x,hx=>by
  unfold dB at h
  by_cases he:e=0
  ·rw [ah (fun h'=>h' he)] at h
   rcases nS.1 hx with rfl|hx
   ·exact he
   exact ug h x hx
  rw [au he] at h;exact absurd h he
theorem QN {E:Nat→Int} {n:Nat} (h:jV E n=0) (i:Nat) (hi:i < n):E i=0:=ug h _ (by simp;exact ⟨i,hi,rfl⟩)
theorem Ug {id:Nat→Int} {i:Nat} (h:og id i=0):1≤id i∧id i≤1073741824∧(0 < i→id (i - 1) < id i):=by
 unfold og at h
 by_cases h1:1≤id i∧id i≤1073741824
 ·rw [ah (fun h'=>h' h1)] at h
  by_cases h2:0 < i∧id i=id (i - 1)
  ·rw [au h2] at h;cases h
  rw [ah h2] at h
  by_cases h3:0 < i∧id i < id (i - 1)
  ·rw [au h3] at h;cases h
  exact ⟨h1.1,h1.2,fun h0=>by omega⟩
 rw [au h1] at h;cases h
theorem Uh {l:List Int} (h:∀ i (h:i+1 < l.length),l[i] < l[i+1]):yw l:=by
 have hlt:∀ (j i:Nat) (hj:j < l.length) (hi:i < j),l[i] < l[j]:=by
  intro j
  induction j with
  | zero=>intro i _ hi;omega
  | succ j ih =>
   intro i hj hi;have h1:=h j hj
   by_cases e:i=j
   ·subst e;exact h1
   have:=ih i (by omega) (by omega);omega
 intro k hk hm;obtain ⟨i,hi,he⟩:=List.getElem_of_mem hm;rw [List.length_take] at hi;have:=hlt k i hk (by omega);rw [List.getElem_take] at he
 omega
theorem agb {l:List eZ} (h:FL l=0):yw (l.map eZ.id):=by
 have h1:=ug h _ (jC);have h2:=ug h _ (rG _ jC)
 have hl:l.length≤256:=by
  unfold bS at h1
  by_cases hd:256 < (l.length:Int)
  ·rw [au (aG hd)] at h1;cases h1
  omega
 refine Uh fun i hi=>?_;rw [bW] at hi;have h3:=QN h2 (i+1) (by omega)
 unfold CK at h3
 rw [gy hi] at h3;have h4:=(Ug (ug h3 _ jC)).2.2 (by omega);rw [Nat.add_sub_cancel,gy hi,gy (show i < l.length by omega)] at h4
 simpa using h4
theorem aeZ {l:List fK} (h:FK l=0):yw (l.map fK.id):=by
 have h1:=ug h _ (jC);have h2:=ug h _ (rG _ jC)
 have hl:l.length≤64:=by
  unfold bS at h1
  by_cases hd:64 < (l.length:Int)
  ·rw [au (aG hd)] at h1;cases h1
  omega
 refine Uh fun i hi=>?_;rw [bW] at hi;have h3:=QN h2 (i+1) (by omega)
 unfold Cx at h3
 have h4:=(Ug (ug h3 _ jC)).2.2 (by omega);rw [Nat.add_sub_cancel,gy hi,gy (show i < l.length by omega)] at h4
 simpa using h4
theorem ahs {l:List bL} (h:fU l=0):yw (l.map bL.id):=by
 unfold fU at h
 by_cases h1:128 < l.length
 ·rw [au h1] at h;cases h
 rw [ah h1] at h
 by_cases h2:qU (wK l) 0 l.length≠0
 ·rw [au h2] at h;exact absurd h h2
 intro k hk;rw [bW] at hk;have:=UR (mR.1 h2) k hk;rw [← List.map_take,List.getElem_map];exact this
end
section
open Go.RowKit
theorem abt:∀ args w,(callFunc 68 args).run prog w=.ok (.enter 68 args) w:=enters func68 rfl (by kernel_rfl)
theorem ahE:Ty prog 36 4 96 [.slice none 0 0,.slice none 0 0,.slice none 0 0,.slice none 0 0] true:=⟨by kernel_rfl,by kernel_rfl⟩
theorem abq:∀ args w,(callFunc 66 args).run prog w=.ok (.enter 66 args) w:=enters func66 rfl (by kernel_rfl)
theorem abr:∀ args w,(callFunc 67 args).run prog w=.ok (.enter 67 args) w:=enters func67 rfl (by kernel_rfl)
theorem Jg:bV prog 38 1 1:=⟨by kernel_rfl⟩
theorem MU (e:Int):dB [e]=e:=by
 by_cases h:e=0 <;> simp [dB,h]
structure vJ where
 flow:List aB
 fin:jm
 revs:List eZ
 mH:yF
structure Bv (G:GH) (D:jQ) (d:vJ):Prop where
 fl:av G (.sl 11 (d.flow.map aB.dat)) (fJ D.f)
 hd:jR G d.fin (fJ D.p) (fJ D.d) (fJ D.y)
 ins:D.ins=d.fin.marks.ins
 mv:D.move=d.fin.marks.move
 rv:av G (.sl 3 (d.revs.map eZ.dat)) (fJ D.r)
 st:Dn G d.mH (fJ D.s1) (fJ D.s2) (fJ D.s3) (fJ D.s4)
theorem Dn.mono {G G':GH} (hm:∀ b o,G b=some o→G' b=some o) {s:yF} {a b c d:aj} (h:Dn G s a b c d):Dn G' s a b c d:=⟨h.st.mono hm,h.li.mono hm,h.cm.mono hm,h.va.mono hm⟩
theorem Bv.mono {G G':GH} (hm:∀ b o,G b=some o→G' b=some o) {D:jQ} {d:vJ} (h:Bv G D d):Bv G' D d:=⟨h.fl.mono hm,h.hd.mono hm,h.ins,h.mv,h.rv.mono hm,h.st.mono hm⟩
structure Ii (d:vJ):Prop where
 fl:bG d.flow≤1073741824
 hd:pE d.fin≤4294967296
 rn:d.revs.length≤4294967296
 rt:∀ x∈d.revs,x.author.size < 4611686018427387904
 sn:d.mH.styles.length≤4294967296
 st:Le d.mH
abbrev vJ.rH (d:vJ):gV:=aP d.mH.styles d.mH.lists d.revs
def uG (m:uQ):Bool:=decide ((m.ins≠0∨m.move≠0)∨0 < (m.dH.length:Int))
def lQ (d:vJ):Int:=dB [dB [IK d.mH,FL d.revs],dB [iZ d.rH 3 d.fin,bS (uG d.fin.marks) 21],(jk d.rH true false 0 d.flow ⟨0,[]⟩).1,bS (decide (16384 < (jk d.rH true false 0 d.flow ⟨0,[]⟩).2.n)) 9]
theorem YQ (G:GH) (w0:World) (hG:Hold G w0) (D:jQ) (d:vJ) (hR:Bv G D d) (hz:Ii d) :
  Calls prog 21 #[D.val] w0 (aZ w0 G fun u G'=>u=vi (lQ d)):=by
 obtain ⟨df,dp,dd,dy,dr,d1,d2,d3,d4,ins,mv⟩:=D;obtain ⟨hfl,hhd,hin,hmv,wF,hst⟩:=hR;dsimp only at hfl hhd hin hmv wF hst;subst hin;subst hmv;obtain ⟨zf,zh,zr,zt,zs,zg⟩:=hz;have hdl:=hhd.dH.len;rw [bW] at hdl
 have hdn:d.fin.marks.dH.length≤4294967296:=by
  have h1:=Ie d.fin;have h2:=qY (d.fin.marks.dH.map kZ.dat);rw [bW] at h2;omega
 refine eN [(0,_)] func21 rfl ntmps21 rfl rfl hG ?_;intro a H;refine bK (fun _ K1=>?_);refine dz (cs:=[_,_,_,_,_,_,_,_,_,_,_]) H wn rfl rfl rfl ?_;clear H;intro b1 a w hb1 H;refine kH H (ak K1 rfl (SQ fun _ K2=>SQ fun _ K3=>?_));clear H K1;intro a H;refine dI hmx [[],[0],[0,1],[],[3],(ra 0 5),(ra 0 6),(ra 0 7),(ra 0 8)] [6,7,8] (by kernel_rfl) [_,.agg #[fJ d1,fJ d2,fJ d3,fJ d4],vi (IK d.mH),_,fJ dr,vi (FL d.revs)] H (aF (Z0 rfl (Rf MN rfl)) ?_ ?_ (Z0 rfl (Rf ML rfl)) (aF (Z1 3 11 rfl (Ro Bn 0 rfl)) ?_ (bJ rfl) (bJ rfl) (bM (bJ rfl) dP))) ?_
 ·refine eH 0 8 rfl rfl fun _ a w G1 hG HT H fin=>?_;refine aW ahE (cs:=[_,_,_,_]) H wn rfl rfl (H.hp.bT 0 rfl rfl) rfl ?_;clear H;intro a H;exact fin H iJ rfl
 ·refine eH 1 9 rfl rfl fun _ a w G1 hG HT H fin=>?_;refine s_call abq H wn rfl (YK _ _ H.ro d.mH _ _ _ _ (hst.mono hG) zg) rfl ?_;clear H;rintro v10 Fe a w rfl rU H;exact fin H rU (rfl)
 ·refine eH 4 12 rfl rfl fun _ a w G1 hG HT H fin=>?_;refine s_call abr H wn rfl (YJ _ _ H.ro d.revs _ (wF.mono hG) zr zt) rfl ?_;clear H;rintro v13 vK a w rfl acK H;exact fin H acK (rfl)
 clear H;intro a w G lU H hv;have H:=H.aT (hv 2 10 rfl rfl) rfl;have H:=H.aT (hv 5 13 rfl rfl) rfl;clear hv;refine ig nL eP [_,_] [_,_] H wn rfl rfl rfl rfl rfl (by intro i q h;match i,h with|0,h=>exact h|1,h=>exact h|n+2,h=>simp at h) rfl rfl ?_;clear H;intro b14 a w Tw H;obtain ⟨yB,zm,adg,H⟩:=H.dQ;have hg1:=fun b o h=>zm b o (lU b o h);replace hfl:=hfl.mono hg1;replace hhd:=hhd.mono hg1;replace wF:=wF.mono hg1;replace hst:=hst.mono hg1;refine s_call oI H wn rfl (oJ _ _ H.ro _ _ (vG adg)) rfl ?_;clear H;rintro v15 _ a w ⟨rfl,rfl⟩ - H;refine kH H (Ra rfl ?_);clear H;intro a H;refine aH ⟨rfl,?_⟩;refine K3 _ _ ?_;clear K3;refine kP H (SR fun _ K4=>Rm rfl (Rc rfl (Kz K4 (Cd rfl ?_ ?_)))) <;> clear H K4
 ·intro dM a H
  try have kK:=dT dM
  have hE:lQ d=dB [IK d.mH,FL d.revs]:=by rw [lQ,dB,au kK]
  exact kP H (SR fun _ K5=>Rm rfl (ak K5 rfl (LR results21 rfl fun H=>H.rt (by rw [hE]))))
 intro dM a H
 try have kK:=dF dM
 have e1:=mR.1 kK;have s1:=ug e1 _ jC;have s2:=ug e1 _ (rG _ jC);have t1:=ug s1 _ jC;have t2:=ug s1 _ (rG _ jC);refine fQ ?_;refine K2 _ _ ?_;clear K2;refine bK (fun _ K6=>?_);refine aW jl (cs:=[_,_,_,_,_,_,_,_,_,_,_]) H wn rfl rfl (H.hp.bT 0 rfl rfl) rfl ?_;clear H;intro a H;refine gT abt (Li:=[_]) (L:=[]) H wn rfl (afl _ _ (Hp.owns (Li:=[_]) H.hp) ⟨df,dp,dd,dy,dr,d1,d2,d3,d4,d.fin.marks.ins,d.fin.marks.move⟩ d.mH.styles d.mH.lists d.revs hst.st hst.li wF (ahs t1) (aeZ t2) (agb s2) zs zg.ln zr) rfl ?_;clear H;rintro v20 Db _ a w ⟨b,ms,ml,mr,mb,mu,rfl,rfl,hck⟩ AL H;dsimp only [lca,aV] at H;replace hfl:=hfl.mono AL;replace hhd:=hhd.mono AL;refine kH H (ak K6 rfl (SR fun _ K7=>Rf Jg rfl (Rf DV rfl ?_)));clear H K6;intro a H;refine aW EO (cs:=[_,_,_,_]) H wn rfl rfl (H.hp.bT 0 rfl rfl) rfl ?_;clear H;intro a H;refine dx EO H wn rfl ?_;clear H;intro b5 a w hb5 H;refine aX EO 0 (vs:=[_,_,_,_]) _ H wn rfl rfl rfl rfl rfl rfl rfl rfl ?_;clear H;intro w H;dsimp only [List.set,setRow] at H;refine K7 _ _ ?_;clear K7;refine bg (fun _ K8=>?_);refine bg (fun _ K9=>?_)
 by_cases c0:d.fin.marks.ins≠0
 ·skip;have c1:d.fin.marks.ins≠0∨d.fin.marks.move≠0:=Or.inl c0;refine dI hmx [[],[],[1],[0,1,2],[],[4],[4,5],(ra 0 7),(ra 0 8),(ra 0 9),(ra 0 10),(ra 0 11),(ra 0 12),(ra 0 13),(ra 0 14),(ra 0 15),(ra 0 16),(ra 0 17),(ra 0 18),(ra 0 19),(ra 0 20),(ra 0 21)] [19,20,21] (by kernel_rfl) [_,_,Ee d.fin (fJ dp) (fJ dd) (fJ dy),vi (iZ d.rH 3 d.fin),_,vi d.fin.marks.ins,_,_,undef,undef,undef,.bool (decide (d.fin.marks.ins≠0∨d.fin.marks.move≠0)),_,undef,undef,undef,undef,.bool (uG d.fin.marks),vi (bS (uG d.fin.marks) 21)] H (aF (Z0 rfl (Rm rfl)) (Z0 rfl (Rf Jg rfl)) ?_ ?_ (aF (Z0 rfl (Rf xC rfl)) (Z1 4 28 rfl (Ro aC 0 rfl)) (Z1 5 29 rfl (Rc rfl)) (Z1 6 30 rfl (Rm rfl)) (aF (bq (j:=7) (by kernel_rfl) (fun _ _ _ _ _ h=>h) rfl rfl rfl rfl rfl (fun _ _ h=>bD h (aM (aG c0))) rfl (fun _=>rfl)) (bq (j:=7) (by kernel_rfl) (fun _ _ _ _ _ h=>h) rfl rfl rfl rfl rfl (fun _ _ h=>bD h (aM (aG c0))) rfl (fun _=>rfl)) (bq (j:=7) (by kernel_rfl) (fun _ _ _ _ _ h=>h) rfl rfl rfl rfl rfl (fun _ _ h=>bD h (aM (aG c0))) rfl (fun _=>rfl)) ?_ (aF (Z1 11 35 rfl (Rm rfl)) (bq (j:=12) (by kernel_rfl) (fun _ _ _ _ _ h=>h) rfl rfl rfl rfl rfl (fun _ _ h=>bD h (aM (aG c1))) rfl (fun _=>rfl)) (bq (j:=12) (by kernel_rfl) (fun _ _ _ _ _ h=>h) rfl rfl rfl rfl rfl (fun _ _ h=>bD h (aM (aG c1))) rfl (fun _=>rfl)) (bq (j:=12) (by kernel_rfl) (fun _ _ _ _ _ h=>h) rfl rfl rfl rfl rfl (fun _ _ h=>bD h (aM (aG c1))) rfl (fun _=>rfl)) (aF (bq (j:=12) (by kernel_rfl) (fun _ _ _ _ _ h=>h) rfl rfl rfl rfl rfl (fun _ _ h=>bD h (aM (aG c1))) rfl (fun _=>rfl)) ?_ ?_ (bJ rfl) (bM (bJ rfl) (bM (bJ rfl) dP))))))) ?_
  ·refine eH 1 25 rfl rfl fun _ a w G1 hG HT H fin=>?_;refine aW tL (cs:=[_,_,_,_,_]) H wn rfl rfl (H.hp.bT 1 rfl rfl) rfl ?_;clear H;intro a H;exact fin H iJ rfl
  ·refine eB 0 24 2 26 rfl rfl fun _ a w G1 hG HT H fin=>?_;refine gT DN (Li:=[_,_]) (L:=fD b ms ml mr mb mu 0 :: (mb,fB []) :: []) H wn rfl (Ef _ _ _ d.mH.styles d.mH.lists d.revs b ms ml mr mb mu _ (hck.mono hG) (Hp.owns (Li:=[_,_]) H.hp) 3 d.fin _ _ _ (hhd.mono hG) zh) rfl ?_;clear H;rintro v27 _ _ a w ⟨rfl,rfl,rfl⟩ Gn H;dsimp only [lca,aV] at H;exact fin H Gn (rfl)
  ·refine eB 7 31 10 34 rfl rfl fun _ a w G1 hG HT H fin=>?_;refine kH H (Pt (aG c0) rfl ?_);clear H;intro a H;exact fin H iJ (by show _=_;first|exact aM (aG c1).symm|exact aM (by simp [c0]))
  ·refine eB 12 36 16 40 rfl rfl fun _ a w G1 hG HT H fin=>?_;refine kH H (Pt (aG c1) rfl ?_);clear H;intro a H;exact fin H iJ (by show _=_;first|exact aM (kT (Or.inl c1)).symm|exact aM (by simp [uG,c1]))
  ·refine eH 17 41 rfl rfl fun _ a w G1 hG HT H fin=>?_;refine s_call iP H wn rfl (iU _ _ H.ro _ 21) rfl ?_;clear H;rintro v42 KT a w ⟨rfl,-⟩ Gp H;exact fin H Gp (rfl)
  clear H;intro a w G jF H hv;have H:=H.aT (hv 3 27 rfl rfl) rfl;have H:=H.aT (hv 18 42 rfl rfl) rfl;clear hv;refine ig nL eP [_,_] [_,_] H wn rfl rfl rfl rfl rfl (by intro i q h;match i,h with|0,h=>exact h|1,h=>exact h|n+2,h=>simp at h) rfl rfl ?_;clear H;intro IB a w Tz H;obtain ⟨Df,nZ,Gy,H⟩:=H.dQ;have AJ:=fun b o h=>nZ b o (jF b o h);replace hfl:=hfl.mono AJ;replace hck:=hck.mono AJ;refine s_call oI H wn rfl (oJ _ _ H.ro _ _ (vG Gy)) rfl ?_;clear H;rintro v44 _ a w ⟨rfl,rfl⟩ - H;refine kH H (Ra rfl ?_);clear H;intro a H;refine aH ⟨rfl,?_⟩;refine K9 _ _ ?_;clear K9;refine kP H (SR fun _ aQ=>Rm rfl (Rc rfl (Kz aQ (Cd rfl ?_ ?_)))) <;> clear H aQ
  ·intro h46 a H
   try have p46:=dT h46
   have hE:lQ d=dB [iZ d.rH 3 d.fin,bS (uG d.fin.marks) 21]:=by rw [lQ,dB,ah (by simpa using e1),dB,au p46]
   exact kP H (SR fun _ bH=>Rm rfl (ak bH rfl (LR results21 rfl fun H=>H.rt (by rw [hE]))))
  intro h46 a H
  try have p46:=dF h46
  have e2:=mR.1 p46;refine kP H (Kc K8 (SQ fun _ bR=>SR fun _ bY=>Rm rfl (aO DW jL 1 rfl rfl ?_)));clear H K8;intro a H;refine jw Bl [_,_,_] H wn rfl rfl rfl rfl ?_;clear H;intro a H;refine gT FU (Li:=[_,_]) (L:=fD b ms ml mr mb mu 0 :: (mb,fB []) :: []) H wn rfl (JO 4294967297 (by omega) _ _ _ d.mH.styles d.mH.lists d.revs b ms ml mr mb mu ⟨0,[]⟩ d.flow _ true false 0 hck (Hp.owns (Li:=[_,_]) H.hp) hfl (by omega) (by omega) (by omega) (by decide) (by dsimp only;omega)) rfl ?_;clear H;rintro v52 _ _ a w ⟨rfl,s3,rfl,rfl,h3⟩ - H;dsimp only [lca,aV] at H;refine kH H (ak bY rfl (SR fun _ bX=>Rm rfl (Rc rfl (Kz bX (Cd rfl ?_ ?_))))) <;> clear H bY bX
  ·intro gX a H
   try have p54:=dT gX
   have hE:lQ d=(jk d.rH true false 0 d.flow ⟨0,[]⟩).1:=by rw [lQ,dB,ah (by simpa using e1),dB,ah (by simpa using e2),dB,au p54]
   exact kP H (SR fun _ dO=>Rm rfl (ak dO rfl (LR results21 rfl fun H=>H.rt (by rw [hE]))))
  intro gX a H
  try have p54:=dF gX
  have e3:=mR.1 p54;have hs3:=h3 e3;subst hs3;refine kP H (Kc bR (SR fun _ dJ=>Rm rfl (Rk rfl (aO BQ aC 2 rfl rfl (Rc rfl ?_)))));clear H bR;intro a H;refine s_call iP H wn rfl (iU _ _ H.ro _ 9) rfl ?_;clear H;rintro v61 _ a w ⟨rfl,rfl⟩ - H
  have hE:lQ d=bS (decide (16384 < (jk d.rH true false 0 d.flow ⟨0,[]⟩).2.n)) 9:=by rw [lQ,dB,ah (by simpa using e1),dB,ah (by simpa using e2),dB,ah (by simpa using e3)];exact MU _
  exact kH H (ak dJ rfl (LR results21 rfl fun H=>H.rt (by rw [hE])))
 skip
 by_cases c1:d.fin.marks.ins≠0∨d.fin.marks.move≠0
 ·skip;refine dI hmx [[],[],[1],[0,1,2],[],[4],[4,5],(ra 0 7),(ra 0 8),(ra 0 9),(ra 0 10),(ra 0 11),(ra 0 12),(ra 0 13),(ra 0 14),(ra 0 15),(ra 0 16),(ra 0 17),(ra 0 18),(ra 0 19),(ra 0 20),(ra 0 21)] [19,20,21] (by kernel_rfl) [_,_,Ee d.fin (fJ dp) (fJ dd) (fJ dy),vi (iZ d.rH 3 d.fin),_,vi d.fin.marks.ins,_,_,_,vi d.fin.marks.move,_,.bool (decide (d.fin.marks.ins≠0∨d.fin.marks.move≠0)),_,undef,undef,undef,undef,.bool (uG d.fin.marks),vi (bS (uG d.fin.marks) 21)] H (aF (Z0 rfl (Rm rfl)) (Z0 rfl (Rf Jg rfl)) ?_ ?_ (aF (Z0 rfl (Rf xC rfl)) (Z1 4 28 rfl (Ro aC 0 rfl)) (Z1 5 29 rfl (Rc rfl)) (Z1 6 30 rfl (Rm rfl)) (aF (Z1 7 31 rfl (YF DU (aR c0) rfl)) (Z2 8 32 7 31 rfl (YO aC 0 (aR c0) rfl)) (Z2 9 33 7 31 rfl (YC (aR c0) rfl)) ?_ (aF (Z1 11 35 rfl (Rm rfl)) (bq (j:=12) (by kernel_rfl) (fun _ _ _ _ _ h=>h) rfl rfl rfl rfl rfl (fun _ _ h=>bD h (aM (aG c1))) rfl (fun _=>rfl)) (bq (j:=12) (by kernel_rfl) (fun _ _ _ _ _ h=>h) rfl rfl rfl rfl rfl (fun _ _ h=>bD h (aM (aG c1))) rfl (fun _=>rfl)) (bq (j:=12) (by kernel_rfl) (fun _ _ _ _ _ h=>h) rfl rfl rfl rfl rfl (fun _ _ h=>bD h (aM (aG c1))) rfl (fun _=>rfl)) (aF (bq (j:=12) (by kernel_rfl) (fun _ _ _ _ _ h=>h) rfl rfl rfl rfl rfl (fun _ _ h=>bD h (aM (aG c1))) rfl (fun _=>rfl)) ?_ ?_ (bJ rfl) (bM (bJ rfl) (bM (bJ rfl) dP))))))) ?_
  ·refine eH 1 25 rfl rfl fun _ a w G1 hG HT H fin=>?_;refine aW tL (cs:=[_,_,_,_,_]) H wn rfl rfl (H.hp.bT 1 rfl rfl) rfl ?_;clear H;intro a H;exact fin H iJ rfl
  ·refine eB 0 24 2 26 rfl rfl fun _ a w G1 hG HT H fin=>?_;refine gT DN (Li:=[_,_]) (L:=fD b ms ml mr mb mu 0 :: (mb,fB []) :: []) H wn rfl (Ef _ _ _ d.mH.styles d.mH.lists d.revs b ms ml mr mb mu _ (hck.mono hG) (Hp.owns (Li:=[_,_]) H.hp) 3 d.fin _ _ _ (hhd.mono hG) zh) rfl ?_;clear H;rintro v27 _ _ a w ⟨rfl,rfl,rfl⟩ Gn H;dsimp only [lca,aV] at H;exact fin H Gn (rfl)
  ·refine eB 7 31 10 34 rfl rfl fun _ a w G1 hG HT H fin=>?_;refine kH H (Pf (aR c0) rfl ?_);clear H;intro a H;exact fin H iJ (by show _=_;first|exact aM (aG c1).symm|exact aM (by simp [c0]))
  ·refine eB 12 36 16 40 rfl rfl fun _ a w G1 hG HT H fin=>?_;refine kH H (Pt (aG c1) rfl ?_);clear H;intro a H;exact fin H iJ (by show _=_;first|exact aM (kT (Or.inl c1)).symm|exact aM (by simp [uG,c1]))
  ·refine eH 17 41 rfl rfl fun _ a w G1 hG HT H fin=>?_;refine s_call iP H wn rfl (iU _ _ H.ro _ 21) rfl ?_;clear H;rintro v42 KT a w ⟨rfl,-⟩ Gp H;exact fin H Gp (rfl)
  clear H;intro a w G jF H hv;have H:=H.aT (hv 3 27 rfl rfl) rfl;have H:=H.aT (hv 18 42 rfl rfl) rfl;clear hv;refine ig nL eP [_,_] [_,_] H wn rfl rfl rfl rfl rfl (by intro i q h;match i,h with|0,h=>exact h|1,h=>exact h|n+2,h=>simp at h) rfl rfl ?_;clear H;intro IB a w Tz H;obtain ⟨Df,nZ,Gy,H⟩:=H.dQ;have AJ:=fun b o h=>nZ b o (jF b o h);replace hfl:=hfl.mono AJ;replace hck:=hck.mono AJ;refine s_call oI H wn rfl (oJ _ _ H.ro _ _ (vG Gy)) rfl ?_;clear H;rintro v44 _ a w ⟨rfl,rfl⟩ - H;refine kH H (Ra rfl ?_);clear H;intro a H;refine aH ⟨rfl,?_⟩;refine K9 _ _ ?_;clear K9;refine kP H (SR fun _ dD=>Rm rfl (Rc rfl (Kz dD (Cd rfl ?_ ?_)))) <;> clear H dD
  ·intro h46 a H
   try have p46:=dT h46
   have hE:lQ d=dB [iZ d.rH 3 d.fin,bS (uG d.fin.marks) 21]:=by rw [lQ,dB,ah (by simpa using e1),dB,au p46]
   exact kP H (SR fun _ dU=>Rm rfl (ak dU rfl (LR results21 rfl fun H=>H.rt (by rw [hE]))))
  intro h46 a H
  try have p46:=dF h46
  have e2:=mR.1 p46;refine kP H (Kc K8 (SQ fun _ fP=>SR fun _ eG=>Rm rfl (aO DW jL 1 rfl rfl ?_)));clear H K8;intro a H;refine jw Bl [_,_,_] H wn rfl rfl rfl rfl ?_;clear H;intro a H;refine gT FU (Li:=[_,_]) (L:=fD b ms ml mr mb mu 0 :: (mb,fB []) :: []) H wn rfl (JO 4294967297 (by omega) _ _ _ d.mH.styles d.mH.lists d.revs b ms ml mr mb mu ⟨0,[]⟩ d.flow _ true false 0 hck (Hp.owns (Li:=[_,_]) H.hp) hfl (by omega) (by omega) (by omega) (by decide) (by dsimp only;omega)) rfl ?_;clear H;rintro v52 _ _ a w ⟨rfl,s3,rfl,rfl,h3⟩ - H;dsimp only [lca,aV] at H;refine kH H (ak eG rfl (SR fun _ fZ=>Rm rfl (Rc rfl (Kz fZ (Cd rfl ?_ ?_))))) <;> clear H eG fZ
  ·intro gX a H
   try have p54:=dT gX
   have hE:lQ d=(jk d.rH true false 0 d.flow ⟨0,[]⟩).1:=by rw [lQ,dB,ah (by simpa using e1),dB,ah (by simpa using e2),dB,au p54]
   exact kP H (SR fun _ gN=>Rm rfl (ak gN rfl (LR results21 rfl fun H=>H.rt (by rw [hE]))))
  intro gX a H
  try have p54:=dF gX
  have e3:=mR.1 p54;have hs3:=h3 e3;subst hs3;refine kP H (Kc fP (SR fun _ iW=>Rm rfl (Rk rfl (aO BQ aC 2 rfl rfl (Rc rfl ?_)))));clear H fP;intro a H;refine s_call iP H wn rfl (iU _ _ H.ro _ 9) rfl ?_;clear H;rintro v61 _ a w ⟨rfl,rfl⟩ - H
  have hE:lQ d=bS (decide (16384 < (jk d.rH true false 0 d.flow ⟨0,[]⟩).2.n)) 9:=by rw [lQ,dB,ah (by simpa using e1),dB,ah (by simpa using e2),dB,ah (by simpa using e3)];exact MU _
  exact kH H (ak iW rfl (LR results21 rfl fun H=>H.rt (by rw [hE])))
 skip;refine dI hmx [[],[],[1],[0,1,2],[],[4],[4,5],(ra 0 7),(ra 0 8),(ra 0 9),(ra 0 10),(ra 0 11),(ra 0 12),(ra 0 13),(ra 0 14),(ra 0 15),(ra 0 16),(ra 0 17),(ra 0 18),(ra 0 19),(ra 0 20),(ra 0 21)] [19,20,21] (by kernel_rfl) [_,_,Ee d.fin (fJ dp) (fJ dd) (fJ dy),vi (iZ d.rH 3 d.fin),_,vi d.fin.marks.ins,_,_,_,vi d.fin.marks.move,_,.bool (decide (d.fin.marks.ins≠0∨d.fin.marks.move≠0)),_,_,fJ dd,vi d.fin.marks.dH.length,_,.bool (uG d.fin.marks),vi (bS (uG d.fin.marks) 21)] H (aF (Z0 rfl (Rm rfl)) (Z0 rfl (Rf Jg rfl)) ?_ ?_ (aF (Z0 rfl (Rf xC rfl)) (Z1 4 28 rfl (Ro aC 0 rfl)) (Z1 5 29 rfl (Rc rfl)) (Z1 6 30 rfl (Rm rfl)) (aF (Z1 7 31 rfl (YF DU (aR c0) rfl)) (Z2 8 32 7 31 rfl (YO aC 0 (aR c0) rfl)) (Z2 9 33 7 31 rfl (YC (aR c0) rfl)) ?_ (aF (Z1 11 35 rfl (Rm rfl)) (Z1 12 36 rfl (YF xD (aR c1) rfl)) (Z2 13 37 12 36 rfl (YO xZ 0 (aR c1) rfl)) ?_ (aF (Z2 15 39 12 36 rfl (YC (aR c1) rfl)) ?_ ?_ (bJ rfl) (bM (bJ rfl) (bM (bJ rfl) dP))))))) ?_
 ·refine eH 1 25 rfl rfl fun _ a w G1 hG HT H fin=>?_;refine aW tL (cs:=[_,_,_,_,_]) H wn rfl rfl (H.hp.bT 1 rfl rfl) rfl ?_;clear H;intro a H;exact fin H iJ rfl
 ·refine eB 0 24 2 26 rfl rfl fun _ a w G1 hG HT H fin=>?_;refine gT DN (Li:=[_,_]) (L:=fD b ms ml mr mb mu 0 :: (mb,fB []) :: []) H wn rfl (Ef _ _ _ d.mH.styles d.mH.lists d.revs b ms ml mr mb mu _ (hck.mono hG) (Hp.owns (Li:=[_,_]) H.hp) 3 d.fin _ _ _ (hhd.mono hG) zh) rfl ?_;clear H;rintro v27 _ _ a w ⟨rfl,rfl,rfl⟩ Gn H;dsimp only [lca,aV] at H;exact fin H Gn (rfl)
 ·refine eB 7 31 10 34 rfl rfl fun _ a w G1 hG HT H fin=>?_;refine kH H (Pf (aR c0) rfl ?_);clear H;intro a H;exact fin H iJ (by show _=_;first|exact aM (aG c1).symm|exact aM (by simp [c0]))
 ·refine eB 14 38 12 36 rfl rfl fun _ a w G1 hG HT H fin=>?_;refine kH H (YL uK (aR c1) rfl ?_);clear H;intro a H;exact fin H iJ (by show _=_;first|rfl|exact ay (fun n:Nat=>vi n) hdl)
 ·refine eB 12 36 16 40 rfl rfl fun _ a w G1 hG HT H fin=>?_;refine kH H (Pf (aR c1) rfl ?_);clear H;intro a H;exact fin H iJ (by show _=_;first|exact aM (kT (Or.inl c1)).symm|exact aM (by simp [uG,c1]))
 ·refine eH 17 41 rfl rfl fun _ a w G1 hG HT H fin=>?_;refine s_call iP H wn rfl (iU _ _ H.ro _ 21) rfl ?_;clear H;rintro v42 KT a w ⟨rfl,-⟩ Gp H;exact fin H Gp (rfl)
 clear H;intro a w G jF H hv;have H:=H.aT (hv 3 27 rfl rfl) rfl;have H:=H.aT (hv 18 42 rfl rfl) rfl;clear hv;refine ig nL eP [_,_] [_,_] H wn rfl rfl rfl rfl rfl (by intro i q h;match i,h with|0,h=>exact h|1,h=>exact h|n+2,h=>simp at h) rfl rfl ?_;clear H;intro IB a w Tz H;obtain ⟨Df,nZ,Gy,H⟩:=H.dQ;have AJ:=fun b o h=>nZ b o (jF b o h);replace hfl:=hfl.mono AJ;replace hck:=hck.mono AJ;refine s_call oI H wn rfl (oJ _ _ H.ro _ _ (vG Gy)) rfl ?_;clear H;rintro v44 _ a w ⟨rfl,rfl⟩ - H;refine kH H (Ra rfl ?_);clear H;intro a H;refine aH ⟨rfl,?_⟩;refine K9 _ _ ?_;clear K9;refine kP H (SR fun _ iN=>Rm rfl (Rc rfl (Kz iN (Cd rfl ?_ ?_)))) <;> clear H iN
 ·intro h46 a H
  try have p46:=dT h46
  have hE:lQ d=dB [iZ d.rH 3 d.fin,bS (uG d.fin.marks) 21]:=by rw [lQ,dB,ah (by simpa using e1),dB,au p46]
  exact kP H (SR fun _ iO=>Rm rfl (ak iO rfl (LR results21 rfl fun H=>H.rt (by rw [hE]))))
 intro h46 a H
 try have p46:=dF h46
 have e2:=mR.1 p46;refine kP H (Kc K8 (SQ fun _ jM=>SR fun _ kC=>Rm rfl (aO DW jL 1 rfl rfl ?_)));clear H K8;intro a H;refine jw Bl [_,_,_] H wn rfl rfl rfl rfl ?_;clear H;intro a H;refine gT FU (Li:=[_,_]) (L:=fD b ms ml mr mb mu 0 :: (mb,fB []) :: []) H wn rfl (JO 4294967297 (by omega) _ _ _ d.mH.styles d.mH.lists d.revs b ms ml mr mb mu ⟨0,[]⟩ d.flow _ true false 0 hck (Hp.owns (Li:=[_,_]) H.hp) hfl (by omega) (by omega) (by omega) (by decide) (by dsimp only;omega)) rfl ?_;clear H;rintro v52 _ _ a w ⟨rfl,s3,rfl,rfl,h3⟩ - H;dsimp only [lca,aV] at H;refine kH H (ak kC rfl (SR fun _ jo=>Rm rfl (Rc rfl (Kz jo (Cd rfl ?_ ?_))))) <;> clear H kC jo
 ·intro gX a H
  try have p54:=dT gX
  have hE:lQ d=(jk d.rH true false 0 d.flow ⟨0,[]⟩).1:=by rw [lQ,dB,ah (by simpa using e1),dB,ah (by simpa using e2),dB,au p54]
  exact kP H (SR fun _ ng=>Rm rfl (ak ng rfl (LR results21 rfl fun H=>H.rt (by rw [hE]))))
 intro gX a H
 try have p54:=dF gX
 have e3:=mR.1 p54;have hs3:=h3 e3;subst hs3;refine kP H (Kc jM (SR fun _ nO=>Rm rfl (Rk rfl (aO BQ aC 2 rfl rfl (Rc rfl ?_)))));clear H jM;intro a H;refine s_call iP H wn rfl (iU _ _ H.ro _ 9) rfl ?_;clear H;rintro v61 _ a w ⟨rfl,rfl⟩ - H
 have hE:lQ d=bS (decide (16384 < (jk d.rH true false 0 d.flow ⟨0,[]⟩).2.n)) 9:=by rw [lQ,dB,ah (by simpa using e1),dB,ah (by simpa using e2),dB,ah (by simpa using e3)];exact MU _
 exact kH H (ak nO rfl (LR results21 rfl fun H=>H.rt (by rw [hE])))
end
section
open Go.RowKit
theorem KE:Ty prog 61 1 24 [.slice none 0 0] false:=⟨by kernel_rfl,by kernel_rfl⟩
theorem aeH (G:GH) (n:Int):aS G [li n] [vi n]:=by simp [aS,av,Value.oneCell']
def uL (A:List jf):Int:=A.foldl (fun n f=>n+qV f.items) 0
theorem PN {A:List jf} {k:Nat} (h:k < A.length):uL (A.take (k+1))=uL (A.take k)+qV A[k].items:=by
 rw [uL,mP h,List.foldl_append];rfl
theorem ahI (G:GH) (w0:World) (hG:Hold G w0) (D:jQ) (l:List aB) (hv:av G (.sl 11 (l.map aB.dat)) (fJ D.f)) (hz:bG l≤4294967296) (hm:∀ k,k≤(ji l).length→0≤uL ((ji l).take k)∧uL ((ji l).take k)≤4611686018427387904) :
  Calls prog 23 #[D.val] w0 (aZ w0 G fun v G'=>v=vi (uL (ji l))):=by
 refine eN [(0,_)] func23 rfl ntmps23 rfl rfl hG ?_;intro a H;refine bK (fun _ K1=>?_);refine dz (cs:=[_,_,_,_,_,_,_,_,_,_,_]) H wn rfl rfl rfl ?_;clear H;intro b1 a w hb1 H;refine kH H (ak K1 rfl (SR fun _ K2=>?_));clear H K1;intro a H;refine dx aC H wn rfl ?_;clear H;intro b3 a w hb3 H;refine aX aC 0 (vs:=[_]) _ H wn rfl rfl rfl rfl rfl rfl rfl rfl ?_;clear H;intro w H;dsimp only [List.set,setRow] at H;refine K2 _ _ ?_;clear K2;refine bg (fun _ K3=>?_);refine bK (fun _ K4=>?_);refine aW jl (cs:=[_,_,_,_,_,_,_,_,_,_,_]) H wn rfl rfl (H.hp.bT 1 rfl rfl) rfl ?_;clear H;intro a H;refine s_call MB H wn rfl (OM _ _ H.ro D l hv hz) rfl ?_;clear H;rintro v9 G9 a w ⟨ba,bl,bp,rfl,hit⟩ AU H;refine K4 _ _ ?_;clear K4;refine oG ?_;skip;refine vS (ι:=Unit) (κ:=Empty) (Lc:=[(_,_)]) (fun (k:Nat) (gh:Unit)=>[(b3,.cells #[vi (uL ((ji l).take k))] 3 (0,0))]) (fun (k:Nat) (gh:Unit)=>[]) (fun (k:Nat) (gh:Unit) (g:GH)=>True) (fun x=>x.elim) (fun x=>x.elim) (fun x=>x.elim) (fun x=>x.elim) (()) (by exact H.bU (Pl:=[_,_]) (bN:=[_,_]) [1,0] (by decide) rfl) rfl I8 (hit) (fun _ _ h=>h) rfl (fun k args g h=>by obtain ⟨_,_,_,_,rfl,_⟩:=D7 h;rfl) (fun _ _ _ _ _ h=>h) (fun x=>x.elim) (trivial) ?_ ?_ ?_
 ·clear H;intro l3 qG oF bk k args gh G3 w3 F3 B3 a hk3 oN hI GD GU TU H;obtain ⟨hk,vA,vn,vc,rfl,hfr⟩:=D7 hk3;dsimp only [nT,List.cons_append,List.nil_append] at H;refine mh ?_;refine dx KD H wn rfl ?_;clear H;intro b5 a w hb5 H;refine aX KD 0 (vs:=[_,_,_,_]) _ H wn rfl rfl rfl rfl rfl rfl rfl rfl ?_;clear H;intro w H;dsimp only [List.set,setRow] at H;refine aH ?_;refine GD _ _ _ _ _ _ (by exact H.bU (Pl:=[_,_,_,_]) (bN:=[_,_,_,_]) [1,0,2,3] (by decide) rfl) ?_;clear H;intro w H;refine kP H (SB (SR fun _ K5=>aO Sv jL 1 rfl rfl ?_));clear H;intro a H;refine s_call Ja H wn rfl (JQ _ _ H.ro (ji l)[k].items _ hfr (Nat.le_trans (Jo (jT hk)) hz)) rfl ?_;clear H;rintro v15 _ a w ⟨rfl,rfl⟩ - H;refine kH H (Rm rfl ?_);clear H;intro a H;(iterate 2 refine jy H wn rfl rfl rfl ?_;clear H;intro a H);refine kH H (Ra rfl (ak K5 rfl ?_));clear H K5;intro a H;have adj:=hm (k+1) hk;rw [PN hk] at adj;refine kP H (SC (Ro aC 3 rfl (Rm rfl (Rd rfl ?_))));clear H;intro a H;rw [← PN hk] at H;refine aX aC 3 (vs:=[_]) _ H wn rfl rfl rfl rfl rfl rfl rfl rfl ?_;clear H;intro w H;dsimp only [List.set,setRow] at H;refine aH ?_;refine GU (()) _ _ _ _ _ (by exact H.bU (Pl:=[_,_,_,_]) (bN:=[_,_,_]) [0,2,3] (by decide) rfl) ?_
  trivial
 ·clear H;intro P6 gh Qh a w oN hI H;dsimp only [lca,aV] at H;refine K3 _ _ ?_;clear K3;refine bg (fun _ K6=>?_);rw [jU (by simp)] at H;refine kP H (SC (Ro aC 2 rfl (aU K6 rfl ?_)));clear H K6;intro a H;refine bF ?_;refine (qy H 0 rfl ?_).1;clear H;intro a w H;dsimp only [List.eraseIdx_cons_succ,List.eraseIdx_cons_zero] at H;refine lv H results23 rfl ?_;exact H.rt rfl
 intro Dk x;exact x.elim
mutual
theorem aii (note:Bool) (t:Int):∀ x:aB,(wS note t x).length < cB x.dat
 | .mk k c i tx h f r=>by
  have h4:=ou (.mk k c i tx h f r);have hf:=Ic true t f;have hr:=Wq note t r;dsimp only [aB.text,aB.head,aB.flow,aB.rows] at h4;rw [wS]
  split
  ·rw [lX];omega
  split <;> first|omega|(simp only [List.length_nil];omega)
theorem Ic (note:Bool) (t:Int):∀ l:List aB,(iT note t l).length≤bG l
 | []=>by simp [iT]
 | x :: l=>by
  have h1:=aii note t x;have h2:=Ic note t l;rw [iT,lC]
  simp only [bG,fG,dZ] at *;omega
theorem ail (note:Bool) (t:Int):∀ x:bC,(wT note t x).length≤cB x.dat
 | .mk h cs=>by
  have h4:=yu (.mk h cs);have hc:=Wn note t cs;dsimp only [bC.head,bC.cells] at h4;rw [wT];omega
theorem Wq (note:Bool) (t:Int):∀ l:List bC,(pz note t l).length≤iV l
 | []=>by simp [pz]
 | x :: l=>by
  have h1:=ail note t x;have h2:=Wq note t l;rw [pz,lC]
  simp only [iV,fG,dZ] at *;omega
theorem aie (note:Bool) (t:Int):∀ x:aY,(wR note t x).length≤cB x.dat
 | .mk i h f=>by
  have h4:=zT (.mk i h f);have hf:=Ic note (t+1) f;dsimp only [aY.head,aY.flow] at h4;rw [wR,lX];omega
theorem Wn (note:Bool) (t:Int):∀ l:List aY,(pV note t l).length≤lW l
 | []=>by simp [pV]
 | x :: l=>by
  have h1:=aie note t x;have h2:=Wn note t l;rw [pV,lC]
  simp only [lW,fG,dZ] at *;omega
end
theorem Zx (G:GH) (w0:World) (hG:Hold G w0) (D:jQ) (l:List aB) (hv:av G (.sl 11 (l.map aB.dat)) (fJ D.f)) (hz:bG l≤4294967296) :
  Calls prog 19 #[D.val] w0 (aZ w0 G fun u G'=>av G' (.sl 1 ((ji l).map fun f:jf=>[li f.id])) u):=by
 have hml:4294967299≤maxLen:=by decide
 have hn:(ji l).length≤4294967297:=by
  have:=Ic false 0 l;rw [ji,lX];omega
 refine eN [(0,_)] func19 rfl ntmps19 rfl rfl hG ?_;intro a H;refine bK (fun _ K1=>?_);refine dz (cs:=[_,_,_,_,_,_,_,_,_,_,_]) H wn rfl rfl rfl ?_;clear H;intro b1 a w hb1 H;refine kH H (ak K1 rfl (SR fun _ K2=>?_));clear H K1;intro a H;refine dx KE H wn rfl ?_;clear H;intro b3 a w hb3 H;refine K2 _ _ ?_;clear K2;refine bg (fun _ K3=>?_);refine bg (fun _ K4=>?_);have H:=H.bU (Pl:=[_,_]) (bN:=[_,_]) [1,0] (by decide) rfl;refine mh ?_;refine aW jl (cs:=[_,_,_,_,_,_,_,_,_,_,_]) H wn rfl rfl (H.hp.bT 0 rfl rfl) rfl ?_;clear H;intro a H;refine s_call MB H wn rfl (OM _ _ H.ro D l hv hz) rfl ?_;clear H;rintro v6 G6 a w ⟨ba,bl,bp,rfl,hit⟩ TI H;refine aH ?_;refine K4 _ _ ?_;clear K4;refine oG ?_;skip;refine vS (ι:=aj × List aj × OL) (κ:=Empty) (Lc:=[(_,_)]) (fun (k:Nat) (gh:aj × List aj × OL)=>[(b3,.cells #[gh.1] 61 (0,0))]) (fun (k:Nat) (gh:aj × List aj × OL)=>gh.2.2) (fun (k:Nat) (gh:aj × List aj × OL) (g:GH)=>eF 3 1 gh.1 k gh.2.1 gh.2.2∧gJ g 1 (((ji l).take k).map fun f:jf=>[li f.id]) gh.2.1) (fun x=>x.elim) (fun x=>x.elim) (fun x=>x.elim) (fun x=>x.elim) ((.slice none 0 0,[],[])) (by exact H.OJ (A:=[_,_])) rfl I8 (hit) (fun _ _ h=>h) rfl (fun k args g h=>by obtain ⟨_,_,_,_,rfl,_⟩:=D7 h;rfl) (fun k i G G' hm h=>⟨h.1,h.2.mono hm⟩) (fun x=>x.elim) (⟨eF.nil,gJ.nil⟩) ?_ ?_ ?_
 ·clear H;intro l3 qG oF bk k args gh G3 w3 F3 B3 a hk3 oN hI GD GU TU H;obtain ⟨v,xs,Lo⟩:=gh;dsimp only at hI H;obtain ⟨hk,vA,vn,vc,rfl,hfr⟩:=D7 hk3;dsimp only [nT,List.cons_append,List.nil_append] at H;obtain ⟨hrw,iI⟩:=hI;refine kP H (SC (Ra rfl ?_));clear H;intro a H;refine aH ?_;refine GD _ _ _ _ _ _ (by exact H) ?_;clear H;intro w H;refine kP H (SB (SC (Ro KE 2 rfl (Rm rfl ?_))));clear H;intro a H;refine ig nM aC [_] [_] H wn rfl rfl rfl rfl rfl (by intro i q h;match i,h with|0,h=>exact h|n+1,h=>simp at h) rfl rfl ?_;clear H;intro b11 a w Ce H;refine tJ (Li:=[_,_,_,_]++bk) (Lo:=Lo) (news:=[vi (ji l)[k].id]) nM aC rfl rfl (St.un (A:=[_,_,_,_]) H) wn rfl rfl hrw rfl (H.hp.bT 0 rfl rfl) rfl (by omega) (by omega) rfl ?_;clear H;intro v12 Xx a w TS H;obtain ⟨WM,c12,rfl,-,-⟩:=TS.shape
  simp only [mg,lN,ko] at H
  refine aX KE 3 (vs:=[_]) _ H wn rfl rfl rfl rfl rfl rfl rfl rfl ?_;clear H;intro w H;dsimp only [List.set,setRow] at H;refine aH ?_;refine GU ((.slice WM (k+1) c12,xs++[vi (ji l)[k].id],Xx)) _ _ _ _ _ (by exact H.bU (Pl:=[_,_,_,_]) (bN:=[_,_,_]) [1,2,3] (by decide) rfl) ?_;exact ⟨TS,by rw [mP hk,sN];exact iI.snoc (aeH _ _) rfl⟩
 ·clear H;intro P6 gh Qh a w oN hI H;obtain ⟨v,xs,Lo⟩:=gh;dsimp only at hI H;dsimp only [lca,aV] at H;obtain ⟨hrw,iI⟩:=hI;rw [bW] at hrw iI;rw [List.take_length] at iI;refine K3 _ _ ?_;clear K3;refine kP H (SR fun _ K5=>Ro KE 2 rfl (ak K5 rfl ?_));clear H K5;intro a H;refine bF ?_;refine (qy H 0 rfl ?_).1;clear H;intro a w H;dsimp only [List.eraseIdx_cons_succ,List.eraseIdx_cons_zero] at H;refine lv H results19 rfl ?_;obtain ⟨Gr,hmr,hrep,H⟩:=St.Au (Li:=[_,_]) H hrw (rows:=(ji l).map fun f:jf=>[li f.id]) (by simp) iI;exact H.rt hrep
 intro Dk x;exact x.elim
end
section
open Go.RowKit
theorem aaZ:∀ args w,(callFunc 21 args).run prog w=.ok (.enter 21 args) w:=enters func21 rfl (by kernel_rfl)
theorem abb:∀ args w,(callFunc 23 args).run prog w=.ok (.enter 23 args) w:=enters func23 rfl (by kernel_rfl)
theorem aaU:∀ args w,(callFunc 19 args).run prog w=.ok (.enter 19 args) w:=enters func19 rfl (by kernel_rfl)
theorem afj (G:GH) (w0:World) (hG:Hold G w0) (D:jQ) (l:List aB) (f fr jB:Int) (hv:av G (.sl 11 (l.map aB.dat)) (fJ D.f)) (hz:bG l≤4294967296) :
  Calls prog 14 #[D.val,.agg #[vi f,vi fr,vi jB]] w0 (aZ w0 G fun u G'=>u=vi (lS l f fr jB)):=by
 have hsz:bG ((jW l f).getD [])≤bG l:=by
  cases h:jW l f with
  | none=>exact gW _
  | some f=>exact Jm h
 refine eN [(0,_),(1,_)] func14 rfl ntmps14 rfl rfl hG ?_;intro a H;refine bK (fun _ K1=>?_);refine dz (cs:=[_,_,_,_,_,_,_,_,_,_,_]) H wn rfl rfl rfl ?_;clear H;intro b2 a w hb2 H;refine dz (cs:=[_,_,_]) H wn rfl rfl rfl ?_;clear H;intro b3 a w hb3 H;refine kH H (ak K1 rfl (SR fun _ K2=>?_));clear H K1;intro a H;refine aW jl (cs:=[_,_,_,_,_,_,_,_,_,_,_]) H wn rfl rfl (H.hp.bT 1 rfl rfl) rfl ?_;clear H;intro a H;refine kH H (aO Jh aC 0 rfl rfl ?_);clear H;intro a H;refine s_call FT H wn rfl (Gf _ _ H.ro D l f hv hz) rfl ?_;clear H;rintro v13 vK a w ⟨v,rfl,hr⟩ pR H;refine kH H (Rm rfl ?_);clear H;intro a H;(iterate 2 refine jy H wn rfl rfl rfl ?_;clear H;intro a H);refine kH H (Ra rfl (ak K2 rfl (SR fun _ K3=>Rm rfl ?_)));clear H K2;intro a H;refine s_call Ja H wn rfl (JQ _ _ H.ro _ _ hr (by omega)) rfl ?_;clear H;rintro v18 KQ a w ⟨rfl,rfl⟩ hm18 H;refine kH H (Rm rfl ?_);clear H;intro a H;(iterate 2 refine jy H wn rfl rfl rfl ?_;clear H;intro a H);refine kH H (Ra rfl (ak K3 rfl (SQ fun _ K4=>SB (SR fun _ K5=>Rm rfl (Rn rfl (ak K5 rfl (Cd rfl ?_ ?_))))))) <;> clear H K3 K5
 ·intro h21 a H
  try have nI:=dT h21
  refine kP H (SR fun _ K6=>ak K6 rfl ?_);clear H K6;intro a H;refine lr H results14 rfl ?_
  exact H.rt (ay vi (by unfold lS;(repeat' split) <;> first|rfl|(exfalso;simp_all;done)|(exfalso;simp_all;omega)))
 intro h21 a H
 try have nI:=dF h21
 refine kP H (SR fun _ K7=>aO DZ aC 0 rfl rfl (Rc rfl (Rm rfl (Sp 28 rfl ?_ ?_)))) <;> clear H
 ·intro dR a H
  try have p28:=dT dR
  refine kH H (cK dR rfl (bO dR rfl (Pt dR rfl (Rm rfl (bO rfl rfl (bO rfl rfl (Pt rfl rfl (ak K7 rfl (Ct rfl rfl (SR fun _ K8=>ak K8 rfl ?_))))))))));clear H K7 K8;intro a H;refine lr H results14 rfl ?_
  exact H.rt (ay vi (by unfold lS;(repeat' split) <;> first|rfl|(exfalso;simp_all;done)|(exfalso;simp_all;omega)))
 intro dR a H
 try have p28:=dF dR
 refine kH H (YF DZ dR rfl (YO aC 0 dR rfl (YF D5 dR rfl (YO aC 0 dR rfl (YC dR rfl (Pf dR rfl (Rm rfl (Sp 35 rfl ?_ ?_)))))))) <;> clear H
 ·intro jD a H
  try have p35:=dT jD
  refine kH H (bO jD rfl (bO jD rfl (Pt jD rfl (ak K7 rfl (Ct rfl rfl (SR fun _ K9=>ak K9 rfl ?_))))));clear H K7 K9;intro a H;refine lr H results14 rfl ?_
  exact H.rt (ay vi (by unfold lS;(repeat' split) <;> first|rfl|(exfalso;simp_all;done)|(exfalso;simp_all;omega)))
 intro jD a H
 try have p35:=dF jD
 refine kH H (YF D5 jD rfl (YO aC 0 jD rfl (YM jD rfl (YC jD rfl (Pf jD rfl (ak K7 rfl (Cd rfl ?_ ?_))))))) <;> clear H K7
 ·intro fu a H
  try have kL:=dT fu
  refine kP H (SR fun _ aQ=>ak aQ rfl ?_);clear H aQ;intro a H;refine lr H results14 rfl ?_
  exact H.rt (ay vi (by unfold lS;(repeat' split) <;> first|rfl|(exfalso;simp_all;done)|(exfalso;simp_all;omega)))
 intro fu a H
 try have kL:=dF fu
 refine kP H (Kc K4 (SR fun _ bH=>ak bH rfl ?_));clear H K4 bH;intro a H;refine lr H results14 rfl ?_
 exact H.rt (ay vi (by unfold lS;(repeat' split) <;> first|rfl|(exfalso;simp_all;done)|(exfalso;simp_all;omega)))
theorem ahH (l:List aB) (hz:bG l≤1073741824) (k:Nat) (hk:k≤(ji l).length):0≤uL ((ji l).take k)∧uL ((ji l).take k)≤4611686018427387904:=by
 have hn:=Ic false 0 l
 have hl:(ji l).length≤1073741825:=by rw [ji,lX];omega
 have h:∀ k,k≤(ji l).length→0≤uL ((ji l).take k)∧uL ((ji l).take k)≤k*1073741824:=by
  intro k
  induction k with
  | zero=>intro _;exact ⟨by simp [uL],by simp [uL]⟩
  | succ k ih =>
   intro hk;obtain ⟨h1,h2⟩:=ih (by omega);have h3:=Jo (jT (show k < (ji l).length by omega))
   have h4:0≤qV (ji l)[k].items∧qV (ji l)[k].items≤bG (ji l)[k].items:=by
    unfold qV
    have h5:=Pv (ji l)[k].items;have h6:=PD (ji l)[k].items
    split <;> omega
   rw [PN (by omega)]
   push_cast
   omega
 obtain ⟨h1,h2⟩:=h k hk;exact ⟨h1,by omega⟩
theorem afn {d:vJ} (h:lQ d=0):Dj d.flow:=by
 have h1:=ug h _ (rG _ (rG _ jC));exact Dj.of (RB h1)
theorem ahf (G:GH) (w0:World) (hG:Hold G w0) (D:jQ) (d:vJ) (hR:Bv G D d) (hz:Ii d) :
  Calls prog 12 #[D.val] w0 (aZ w0 G fun u G'=>∃ b,u=.bool b∧(b=true→lQ d=0)):=by
 have zu:=hz.fl;have hrl:=hR.rv.len;refine eN [(0,_)] func12 rfl ntmps12 rfl rfl hG ?_;intro a H;refine bK (fun _ K1=>?_);refine dz (cs:=[_,_,_,_,_,_,_,_,_,_,_]) H wn rfl rfl rfl ?_;clear H;intro b1 a w hb1 H;refine kH H (ak K1 rfl (SR fun _ K2=>aO ML Bn 0 rfl rfl (Rl Bq rfl (Rc rfl (Rm rfl (Sp 7 rfl ?_ ?_)))))) <;> clear H K1
 ·intro h7 a H
  try have p7:=dT h7
  refine aW jl (cs:=[_,_,_,_,_,_,_,_,_,_,_]) H (wg H rfl rfl h7) rfl rfl (H.hp.bT 0 rfl rfl) rfl ?_;clear H;intro a H;refine s_call aaZ H (wg H rfl rfl h7) rfl (YQ _ _ H.ro D d hR hz) rfl ?_;clear H;rintro v9 G9 a w rfl AU H;have hfl:=hR.fl.mono AU;refine kH H (YC h7 rfl (Pt h7 rfl (Rm rfl (Sp 12 rfl ?_ ?_)))) <;> clear H
  ·intro h12 a H
   try have qD:=dT h12
   refine aW jl (cs:=[_,_,_,_,_,_,_,_,_,_,_]) H (wg H rfl rfl h12) rfl rfl (H.hp.bT 0 rfl rfl) rfl ?_;clear H;intro a H;refine s_call abb H (wg H rfl rfl h12) rfl (ahI _ _ H.ro D d.flow hfl (by omega) (ahH d.flow zu)) rfl ?_;clear H;rintro v14 yB a w rfl zm H;replace hfl:=hfl.mono zm;refine kH H (YC h12 rfl (Pt h12 rfl (Rm rfl (Sp 17 rfl ?_ ?_)))) <;> clear H
   ·intro dM a H
    try have kK:=dT dM
    refine aW jl (cs:=[_,_,_,_,_,_,_,_,_,_,_]) H (wg H rfl rfl dM) rfl rfl (H.hp.bT 0 rfl rfl) rfl ?_;clear H;intro a H;refine s_call aaU H (wg H rfl rfl dM) rfl (Zx _ _ H.ro D d.flow hfl (by omega)) rfl ?_;clear H;rintro v19 KR a w adH Ci H;obtain ⟨PY,n19,c19,rfl⟩:=adH.form;exact kH H (YL nM dM rfl (YC dM rfl (Pt dM rfl (ak K2 rfl (LR results12 rfl fun H=>H.rt ⟨_,rfl,fun h=>by first|assumption|(simp_all;done)⟩)))))
   intro dM a H
   try have kK:=dF dM
   exact kH H (bO dM rfl (bO dM rfl (Pf dM rfl (ak K2 rfl (LR results12 rfl fun H=>H.rt ⟨_,rfl,fun h=>by first|assumption|(simp_all;done)⟩)))))
  intro h12 a H
  try have qD:=dF h12
  exact kH H (cK h12 rfl (Pf h12 rfl (Rm rfl (bO rfl rfl (bO rfl rfl (Pf rfl rfl (ak K2 rfl (LR results12 rfl fun H=>H.rt ⟨_,rfl,fun h=>by first|assumption|(simp_all;done)⟩))))))))
 intro h7 a H
 try have p7:=dF h7
 exact kH H (cK h7 rfl (Pf h7 rfl (Rm rfl (cK rfl rfl (Pf rfl rfl (Rm rfl (bO rfl rfl (bO rfl rfl (Pf rfl rfl (ak K2 rfl (LR results12 rfl fun H=>H.rt ⟨_,rfl,fun h=>by first|assumption|(simp_all;done)⟩)))))))))))
end
section
open Go.RowKit
theorem Kr:qO prog 47 [(0,1),(1,1),(2,1),(3,1),(4,5),(9,1),(10,1)] [.int .i64 0,.int .i64 0,.int .i64 0,.string ⟨#[]⟩,.slice none 0 0,.int .i64 0,.int .i64 0,.slice none 0 0,.slice none 0 0,.slice none 0 0,.slice none 0 0]:=⟨by kernel_rfl,by kernel_rfl⟩
theorem ahk:qO prog 38 [(0,1),(1,5),(6,1),(7,4)] [.slice none 0 0,.slice none 0 0,.int .i64 0,.int .i64 0,.slice none 0 0,.slice none 0 0,.slice none 0 0,.slice none 0 0,.slice none 0 0,.slice none 0 0,.slice none 0 0]:=⟨by kernel_rfl,by kernel_rfl⟩
theorem KA:gU ⟨#[97,98]⟩=true∧iw ⟨#[97,98]⟩ 0=2:=by
 have d0:gG ⟨#[97,98]⟩ 0=(97,1,true):=by decide
 have d1:gG ⟨#[97,98]⟩ 1=(98,1,true):=by decide
 have e2:gH ⟨#[97,98]⟩ 2=-1:=by rw [gH,dif_neg (by decide)]
 have e1:gH ⟨#[97,98]⟩ 1=-1:=by rw [gH,dif_pos (by decide),dif_pos (by rw [d1]),d1];exact e2
 have e0:gH ⟨#[97,98]⟩ 0=-1:=by rw [gH,dif_pos (by decide),dif_pos (by rw [d0]),d0];exact e1
 have c2:iw ⟨#[97,98]⟩ 2=0:=by rw [iw,ah (by decide)]
 have c1:iw ⟨#[97,98]⟩ 1=1:=by rw [iw,au (by decide),c2];decide
 have c0:iw ⟨#[97,98]⟩ 0=2:=by rw [iw,au (by decide),c1];decide
 exact ⟨by unfold gU;rw [e0];decide,c0⟩
theorem VR:gU ⟨#[120]⟩=true∧iw ⟨#[120]⟩ 0=1:=by
 have d0:gG ⟨#[120]⟩ 0=(120,1,true):=by decide
 have e1:gH ⟨#[120]⟩ 1=-1:=by rw [gH,dif_neg (by decide)]
 have e0:gH ⟨#[120]⟩ 0=-1:=by rw [gH,dif_pos (by decide),dif_pos (by rw [d0]),d0];exact e1
 have c1:iw ⟨#[120]⟩ 1=0:=by rw [iw,ah (by decide)]
 have c0:iw ⟨#[120]⟩ 0=1:=by rw [iw,au (by decide),c1];decide
 exact ⟨by unfold gU;rw [e0];decide,c0⟩
abbrev hd0:jm:=⟨[],⟨0,0,[],[]⟩⟩
def pY:aB:=.mk 1 0 0 ⟨#[97,98]⟩ hd0 [] []
def ny:aB:=.mk 1 0 0 ⟨#[120]⟩ hd0 [] []
def qb:aB:=.mk 6 1 4 ⟨#[]⟩ hd0 [ny] []
def rM:aB:=.mk 2 0 0 ⟨#[]⟩ hd0 [] []
def lF:List aB:=[pY,qb,rM]
theorem uA:fF pY=2∧qK pY=0:=by simp [fF,qK,pY,aB.kind,aB.text,jg,C9,KA.1,KA.2]
theorem uX:fF ny=1∧qK ny=0:=by simp [fF,qK,ny,aB.kind,aB.text,jg,C9,VR.1,VR.2]
theorem uN:fF qb=1∧qK qb=0:=by simp [fF,qK,qb,aB.kind]
theorem uP:fF rM=1∧qK rM=0:=by simp [fF,qK,rM,aB.kind]
theorem nA:n1 pY=2:=by simp [n1,uA.1,uA.2]
theorem nX:n1 ny=1:=by simp [n1,uX.1,uX.2]
theorem nN:n1 qb=1:=by simp [n1,uN.1,uN.2]
theorem nP:n1 rM=1:=by simp [n1,uP.1,uP.2]
theorem exV:iq 0 0 lF=[(0,0),(0,1),(0,2),(4,0),(4,1),(0,3),(0,4)]:=by
 have hX:iq 4 0 [ny]=[(4,0),(4,1)]:=by
  simp only [iq,PO,nX];simp [ny,aB.kind,aB.rows,qL,List.range,List.range.loop]
 simp only [lF,iq,PO,nA,nN,nP]
 simp [pY,qb,rM,aB.kind,aB.rows,aB.id,aB.flow,qL,List.range,List.range.loop,hX]
theorem exF:ji lF=[⟨0,lF,true,false,0⟩,⟨4,[ny],false,true,0⟩]:=by
 simp [ji,lF,iT,Wp,pY,qb,rM,ny,aB.kind,aB.id,aB.flow]
theorem MI:jW lF 4=some [ny]:=by simp [jW,exF]
theorem aeS:qV [ny]=1:=by rw [Ur,nX];rfl
theorem Sm:lS lF 4 1 1=0:=by simp [lS,MI,aeS]
theorem abI:Cr lF 4 1=(4,0):=by simp [Cr,Sm,exV,List.findIdx?,List.findIdx?.go]
theorem abL:Bf lF 5=((0,3),0):=by simp [Bf,exV]
theorem abM:kM 0 0 lF=[((0,2),qb)]:=by
 have hX:kM 4 0 [ny]=[]:=by simp [kM,EA,ny,aB.kind]
 have a1:pW pY=2:=by simp [pW,pY,aB.kind,aB.text,jg,KA.1,KA.2]
 simp [lF,kM,EA,a1]
 simp [pY,qb,rM,aB.kind,jd,jP,UW,aY.id,aY.flow,aB.id,aB.flow,hX]
theorem abN:oQ lF 4=some (0,2):=by simp [oQ,abM,Ep,qb,aB.id]
theorem Sn:zB lF 2 4=some (some [(0,2)]):=by simp [zB,abN]
theorem abJ:Bc lF 4 1 0 [(0,2)]=some 2:=by simp [Bc,Sm]
theorem abK:J3 lF=7:=by simp [J3,exV]
theorem FV:bG lF≤4294967296:=by
 have h1:=ou pY;have h2:=ou qb;have h3:=ou rM;have h4:=ou ny
 have h0:pE hd0=5:=by simp [Ie,dZ]
 have s1:pY.text.size=2:=rfl;have s2:qb.text.size=0:=rfl;have s3:rM.text.size=0:=rfl;have s4:ny.text.size=1:=rfl;have g1:pY.head=hd0:=rfl;have g2:qb.head=hd0:=rfl;have g3:rM.head=hd0:=rfl;have g4:ny.head=hd0:=rfl;have f1:bG pY.flow=0:=rfl;have f2:bG qb.flow=1+cB ny.dat:=rfl;have f3:bG rM.flow=0:=rfl;have f4:bG ny.flow=0:=rfl;have r1:iV pY.rows=0:=rfl;have r2:iV qb.rows=0:=rfl;have r3:iV rM.rows=0:=rfl;have r4:iV ny.rows=0:=rfl
 simp only [bG,lF,fG,pI,dZ]
 rw [g1,h0] at h1;rw [g2,h0] at h2;rw [g3,h0] at h3;rw [g4,h0] at h4
 omega
theorem Jz {G:GH}:jR G hd0 (.slice none 0 0) (.slice none 0 0) (.slice none 0 0):=⟨av.iQ rfl (by decide),av.iQ rfl (by decide),av.iQ rfl (by decide)⟩
theorem abO (G:GH) (w0:World) (hG:Hold G w0) :
  Calls prog 45 #[] w0 (aZ w0 G fun u G'=>∃ D:jQ,u=D.val∧av G' (.sl 11 (lF.map aB.dat)) (fJ D.f)):=by
 refine eN [] func45 rfl ntmps45 rfl rfl hG ?_;intro a H;refine bK (fun _ K1=>?_);refine dx jl H wn rfl ?_;clear H;intro b0 a w hb0 H;refine K1 _ _ ?_;clear K1;refine bK (fun _ K2=>?_);refine jw Kr [_,_,_,_,_,_,_,_,_,_,_] H wn rfl rfl rfl rfl ?_;clear H;intro a H;refine ig oq eX [_,_,_,_,_,_,_,_,_,_,_] [_,_,_,_,_,_,_,_,_,_,_] H wn rfl rfl rfl rfl rfl (by intro i q h;match i,h with|0,h=>exact h|n+1,h=>simp at h) rfl rfl ?_;clear H;intro b3 a w hb3 H;refine jw Kr [_,_,_,_,_,_,_,_,_,_,_] H wn rfl rfl rfl rfl ?_;clear H;intro a H;refine dx eX H wn rfl ?_;clear H;intro b1 a w hb1 H;refine aX eX 0 (vs:=[_,_,_,_,_,_,_,_,_,_,_]) _ H wn rfl rfl rfl rfl rfl rfl rfl rfl ?_;clear H;intro w H;dsimp only [List.set,setRow] at H;refine K2 _ _ ?_;clear K2;refine bK (fun _ K3=>?_);refine jw Kr [_,_,_,_,_,_,_,_,_,_,_] H wn rfl rfl rfl rfl ?_;clear H;intro a H;refine aW eX (cs:=[_,_,_,_,_,_,_,_,_,_,_]) H wn rfl rfl (H.hp.bT 0 rfl rfl) rfl ?_;clear H;intro a H;refine jw Kr [_,_,_,_,_,_,_,_,_,_,_] H wn rfl rfl rfl rfl ?_;clear H;intro a H;refine ig oq eX [_,_,_,_,_,_,_,_,_,_,_,_,_,_,_,_,_,_,_,_,_,_,_,_,_,_,_,_,_,_,_,_,_] [_,_,_,_,_,_,_,_,_,_,_,_,_,_,_,_,_,_,_,_,_,_,_,_,_,_,_,_,_,_,_,_,_] H wn rfl rfl rfl rfl rfl (by intro i q h;match i,h with|0,h=>exact h|1,h=>exact h|2,h=>exact h|n+3,h=>simp at h) rfl rfl ?_;clear H;intro b8 a w uj H;refine jw ahk [_,_,_,_,_,_,_,_,_,_,_] H wn rfl rfl rfl rfl ?_;clear H;intro a H;refine aX jl 3 (vs:=[_,_,_,_,_,_,_,_,_,_,_]) _ H wn rfl rfl rfl rfl rfl rfl rfl rfl ?_;clear H;intro w H;dsimp only [List.set,setRow] at H;refine K3 _ _ ?_;clear K3;refine bF ?_;refine (leave1 H results45 (.cons (wM jl (cs:=[_,_,_,_,_,_,_,_,_,_,_]) H rfl rfl (H.hp.bT 3 rfl rfl)) .nil) ?_).1;have H:=H.bU (Pl:=[_,_,_,_]) (bN:=[_,_]) [2,0] (by decide) rfl;obtain ⟨G2,hm2,hr2,H⟩:=H.MZ (sz:=11) (d:=ny.dat) rfl (aS.mkItem (x:=ny) Jz (av.iQ rfl (by decide)) (av.iQ rfl (by decide)));obtain ⟨G3,oN,uj,H⟩:=H.dQ;have rA:aS G3 pY.dat _:=aS.mkItem (x:=pY) Jz (av.iQ (A:=none) (n:=0) (c:=0) rfl (by decide)) (av.iQ (A:=none) (n:=0) (c:=0) rfl (by decide));have rN:aS G3 qb.dat _:=aS.mkItem (x:=qb) Jz (hr2.mono oN) (av.iQ (A:=none) (n:=0) (c:=0) rfl (by decide));have rP:aS G3 rM.dat _:=aS.mkItem (x:=rM) Jz (av.iQ (A:=none) (n:=0) (c:=0) rfl (by decide)) (av.iQ (A:=none) (n:=0) (c:=0) rfl (by decide));have iI:gJ G3 11 (lF.map aB.dat) _:=((gJ.nil.snoc rA rfl).snoc rN rfl).snoc rP rfl;exact H.rt ⟨⟨(some ⟨b8,0,none⟩,3,3),(none,0,0),(none,0,0),(none,0,0),(none,0,0),(none,0,0),(none,0,0),(none,0,0),(none,0,0),0,0⟩,rfl,av.dS (n:=3) (cap:=3) uj rfl (bP _) (show 3≤maxLen by decide) rfl iI⟩
end
section
open Go.RowKit
theorem abd:∀ args w,(callFunc 45 args).run prog w=.ok (.enter 45 args) w:=enters func45 rfl (by kernel_rfl)
theorem abe:∀ args w,(callFunc 46 args).run prog w=.ok (.enter 46 args) w:=enters func46 rfl (by kernel_rfl)
theorem abf:∀ args w,(callFunc 47 args).run prog w=.ok (.enter 47 args) w:=enters func47 rfl (by kernel_rfl)
theorem abg:∀ args w,(callFunc 49 args).run prog w=.ok (.enter 49 args) w:=enters func49 rfl (by kernel_rfl)
theorem abh:∀ args w,(callFunc 50 args).run prog w=.ok (.enter 50 args) w:=enters func50 rfl (by kernel_rfl)
theorem Uo (G:GH) (w0:World) (hG:Hold G w0):Calls prog 11 #[] w0 (aZ w0 G fun u G'=>u=.bool true):=by
 refine eN [] func11 rfl ntmps11 rfl rfl hG ?_;intro a H;refine kP H (SR fun _ K1=>ak K1 rfl (SR fun _ K2=>?_));clear H K1;intro a H;refine s_call abd H wn rfl (abO _ _ H.ro) rfl ?_;clear H;rintro v10 Fe a w ⟨D,rfl,hv⟩ TG H;refine dx jl H wn rfl ?_;clear H;intro b1 a w hb1 H;refine aX jl 0 (vs:=[_,_,_,_,_,_,_,_,_,_,_]) _ H wn rfl rfl rfl rfl rfl rfl rfl rfl ?_;clear H;intro w H;dsimp only [List.set,setRow] at H;refine K2 _ _ ?_;clear K2;refine bK (fun _ K3=>?_);refine aW jl (cs:=[_,_,_,_,_,_,_,_,_,_,_]) H wn rfl rfl (H.hp.bT 0 rfl rfl) rfl ?_;clear H;intro a H;refine jw zI [_,_] H wn rfl rfl rfl rfl ?_;clear H;intro a H;refine s_call abe H wn rfl (index_spec _ _ H.ro D lF 4 1 hv FV) rfl ?_;clear H;rintro v14 yB a w rfl zm H;rw [abI] at H;replace hv:=hv.mono zm;refine kH H (Rm rfl ?_);clear H;intro a H;(iterate 2 refine jy H wn rfl rfl rfl ?_;clear H;intro a H);refine kH H (Ra rfl (ak K3 rfl (SR fun _ K4=>?_)));clear H K3;intro a H;refine aW jl (cs:=[_,_,_,_,_,_,_,_,_,_,_]) H wn rfl rfl (H.hp.bT 0 rfl rfl) rfl ?_;clear H;intro a H;refine s_call abf H wn rfl (afm _ _ H.ro D lF 5 hv FV) rfl ?_;clear H;rintro v19 KR a w rfl Ci H;rw [abL] at H;replace hv:=hv.mono Ci;refine kH H (Rm rfl ?_);clear H;intro a H;(iterate 2 refine jy H wn rfl rfl rfl ?_;clear H;intro a H);refine dx fM H wn rfl ?_;clear H;intro b4 a w hb4 H;refine aX fM 0 (vs:=[_,_]) _ H wn rfl rfl rfl rfl rfl rfl rfl rfl ?_;clear H;intro w H;dsimp only [List.set,setRow] at H;refine kH H (ak K4 rfl (SR fun _ K5=>?_));clear H K4;intro a H;refine aW jl (cs:=[_,_,_,_,_,_,_,_,_,_,_]) H wn rfl rfl (H.hp.bT 1 rfl rfl) rfl ?_;clear H;intro a H;refine s_call Sc H wn rfl (U1 _ _ H.ro D lF 4 hv FV 2 (by omega) _ Sn (fun ps h=>by cases h;exact bP _)) rfl ?_;clear H;rintro v24 Dc a w ⟨v,rfl,hrep⟩ xL H;rw [MI] at H hrep;replace hv:=hv.mono xL;replace hrep:av Dc (.sl 2 ([((0,2):Int × Int)].map Bh)) v:=hrep;obtain ⟨vA,vn,vc,rfl⟩:=hrep.form;obtain rfl:vn=1:=hrep.len;obtain ⟨b,o,cs,rfl,hcl,hrow,hr⟩:=hrep.at_ 0 (Bh (0,2)) rfl;obtain rfl:=U4 hr;refine kH H (Rm rfl ?_);clear H;intro a H;(iterate 2 refine jy H wn rfl rfl rfl ?_;clear H;intro a H);refine kH H (Ra rfl (ak K5 rfl (SR fun _ K6=>?_)));clear H K5;intro a H;refine aW jl (cs:=[_,_,_,_,_,_,_,_,_,_,_]) H wn rfl rfl (H.hp.bT 1 rfl rfl) rfl ?_;clear H;intro a H;refine jw zI [_,_] H wn rfl rfl rfl rfl ?_;clear H;intro a H;refine s_call abg H wn rfl (aeX _ _ H.ro D lF 4 1 0 hv FV 2 (by omega) _ Sn (fun ps h=>by cases h;exact bP _)) rfl ?_;clear H;rintro v30 yC a w rfl wC H
 have e:(if (jW lF 4).isSome=true then (some [((0,2):Int × Int)]).getD [] else [])=[(0,2)]:=by rw [MI];rfl
 rw [e,abJ] at H;replace hv:=hv.mono wC;replace hrow:=fun j u hj=>aL wC (hrow j u hj);refine kH H (Rm rfl ?_);clear H;intro a H;(iterate 2 refine jy H wn rfl rfl rfl ?_;clear H;intro a H);refine kH H (Ra rfl (ak K6 rfl (SR fun _ K7=>Rm rfl (Rc rfl (Rm rfl (Sp 35 rfl ?_ ?_)))))) <;> clear H K6
 ·intro jD a H
  try have p35:=dT jD
  refine kH H (YM jD rfl (YC jD rfl (Pt jD rfl (Rm rfl (Sp 39 rfl ?_ ?_))))) <;> clear H
  ·intro jE a H
   try have p39:=dT jE
   refine aW fM (cs:=[_,_]) H (wg H rfl rfl jE) rfl rfl (H.hp.bT 0 rfl rfl) rfl ?_;clear H;intro a H;refine jw zI [_,_] H (wg H rfl rfl jE) rfl rfl rfl rfl ?_;clear H;intro a H;refine Pg MH H (wg H rfl rfl jE) rfl rfl rfl rfl ?_;clear H;intro a H;refine kH H (Pt jE rfl (Rm rfl (Sp 44 rfl ?_ ?_))) <;> clear H
   ·intro lH a H
    try have p44:=dT lH
    refine kH H (YM lH rfl (YC lH rfl (Pt lH rfl (Rm rfl (Sp 48 rfl ?_ ?_))))) <;> clear H
    ·intro h48 a H
     try have p48:=dT h48
     refine kH H (YM h48 rfl (YL CY h48 rfl (YC h48 rfl (Pt h48 rfl (Rm rfl (Sp 53 rfl ?_ ?_)))))) <;> clear H
     ·intro nD a H
      try have p53:=dT nD
      refine kH H (YM nD rfl ?_);clear H;intro a H;refine EG CY fM 0 H (wg H rfl rfl nD) rfl rfl rfl (by omega) rfl ?_;clear H;intro a H;refine aW fM (cs:=[_,_]) H (wg H rfl rfl nD) rfl rfl (fun j v hj=>H.hp.aI (hrow j v hj)) rfl ?_;clear H;intro a H;refine jw zI [_,_] H (wg H rfl rfl nD) rfl rfl rfl rfl ?_;clear H;intro a H;refine Pg MH H (wg H rfl rfl nD) rfl rfl rfl rfl ?_;clear H;intro a H;refine kH H (Pt nD rfl (Rm rfl (Sp 60 rfl ?_ ?_))) <;> clear H
      ·intro gZ a H
       refine kH H (YM gZ rfl (YC gZ rfl (Pt gZ rfl (Rm rfl (Sp 64 rfl ?_ ?_))))) <;> clear H
       ·intro h64 a H
        refine kH H (YM h64 rfl (YC h64 rfl (Pt h64 rfl (Rm rfl (Sp 68 rfl ?_ ?_))))) <;> clear H
        ·intro h68 a H
         refine kH H (YM h68 rfl (Pt h68 rfl (Rm rfl (Sp 71 rfl ?_ ?_)))) <;> clear H
         ·intro xJ a H
          refine aW jl (cs:=[_,_,_,_,_,_,_,_,_,_,_]) H (wg H rfl rfl xJ) rfl rfl (H.hp.bT 1 rfl rfl) rfl ?_;clear H;intro a H;refine s_call abh H (wg H rfl rfl xJ) rfl (Zm _ _ H.ro D lF hv FV) rfl ?_;clear H;rintro v73 Xp a w rfl ajd H;rw [abK] at H;exact kH H (YC xJ rfl (Pt xJ rfl (ak K7 rfl (LR results11 rfl fun H=>H.rt rfl))))
         intro xJ a H
         exact absurd xJ (by decide)
        intro h68 a H
        exact absurd h68 (by decide)
       intro h64 a H
       exact absurd h64 (by decide)
      intro gZ a H
      exact absurd gZ (by decide)
     intro nD a H
     exact absurd nD (by decide)
    intro h48 a H
    exact absurd h48 (by decide)
   intro lH a H
   exact absurd lH (by decide)
  intro jE a H
  exact absurd jE (by decide)
 intro jD a H
 exact absurd jD (by decide)
end
section
open Go.RowKit
theorem LH {a b:ByteArray} {i:Nat} (h:i < a.size):dG (a++b) i=dG a i:=by
 rw [iY h,iY (by rw [ByteArray.size_append];omega),ByteArray.getElem_append_left h]
theorem LJ (a b:ByteArray) (j:Nat):dG (a++b) (a.size+j)=dG b j:=by
 by_cases h:j < b.size
 ·rw [iY h,iY (by rw [ByteArray.size_append];omega),ByteArray.getElem_append_right (by omega)]
  congr 2
  simp
 unfold dG
 rw [dif_neg (by rw [ByteArray.size_append];omega),dif_neg h]
theorem RG {a b:ByteArray} {t n:Nat}:∀ (f k:Nat) (low high p:Int),(lD a t n f k low high p).2.2=true→lD (a++b) t n f k low high p=lD a t n f k low high p
 | 0,_,_,_,_,_=>rfl
 | f+1,k,low,high,p,h=>by
  unfold lD at h ⊢
  by_cases h1:n≤k
  ·rw [au h1,au h1]
  rw [ah h1] at h;rw [ah h1,ah h1]
  by_cases h2:a.size≤t+k∨dG a (t+k) < low∨high < dG a (t+k)
  ·rw [au h2] at h;cases h
  rw [ah h2] at h
  have h3:t+k < a.size:=by omega
  rw [LH h3,ah h2,ah (by rw [ByteArray.size_append];omega)];exact RG f (k+1) _ _ _ h
theorem RH (a b:ByteArray) (j n:Nat):∀ (f k:Nat) (low high p:Int),lD (a++b) (a.size+j) n f k low high p=lD b j n f k low high p
 | 0,_,_,_,_=>rfl
 | f+1,k,low,high,p=>by
  unfold lD
  have e:dG (a++b) (a.size+j+k)=dG b (j+k):=by rw [Nat.add_assoc];exact LJ a b (j+k)
  have e2:((a++b).size≤a.size+j+k)↔(b.size≤j+k):=by rw [ByteArray.size_append];omega
  rw [e,RH a b j n f]
  simp only [e2]
theorem RJ {a b:ByteArray} {i:Nat} (hi:i < a.size) (h:(gG a i).2.2=true):gG (a++b) i=gG a i:=by
 unfold gG at h ⊢
 simp only [LH hi] at h ⊢
 split
 ·rfl
 rename_i h1
 rw [ah h1] at h
 split
 ·rfl
 rename_i h2
 rw [ah h2] at h;exact RG _ _ _ _ _ h
theorem RL (a b:ByteArray) (j:Nat):gG (a++b) (a.size+j)=gG b j:=by
 unfold gG
 simp only [LJ,RH]
theorem acA (a b:ByteArray):∀ (n j:Nat),b.size - j=n→gH b j < 0→gH (a++b) (a.size+j) < 0:=by
 intro n
 induction n using Nat.strongRecOn with
 | _ n ih =>
  intro j hn h;rw [gH]
  by_cases hj:j < b.size
  ·rw [gH,dif_pos hj] at h;rw [dif_pos (by rw [ByteArray.size_append];omega)]
   by_cases hd:(gG b j).2.2=true
   ·rw [dif_pos hd] at h;have hs:=(FR b j hj).2 hd;rw [dif_pos (by rw [RL];exact hd),RL,Nat.add_assoc];exact ih _ (by omega) (j+(gG b j).2.1) rfl h
   rw [dif_neg hd] at h;omega
  rw [dif_neg (by rw [ByteArray.size_append];omega)];decide
theorem acz (a b:ByteArray) (hb:gH b 0 < 0):∀ (n i:Nat),a.size - i=n→i≤a.size→gH a i < 0→gH (a++b) i < 0:=by
 intro n
 induction n using Nat.strongRecOn with
 | _ n ih =>
  intro i hn hi h
  by_cases hj:i < a.size
  ·rw [gH,dif_pos hj] at h;rw [gH,dif_pos (by rw [ByteArray.size_append];omega)]
   by_cases hd:(gG a i).2.2=true
   ·rw [dif_pos hd] at h;have hs:=(FR a i hj).2 hd;rw [dif_pos (by rw [RJ hj hd];exact hd),RJ hj hd];exact ih _ (by omega) (i+(gG a i).2.1) rfl hs.2 h
   rw [dif_neg hd] at h;omega
  obtain rfl:i=a.size:=by omega
  exact acA a b b.size 0 rfl hb
theorem Wj {a b:ByteArray} (ha:gU a=true) (hb:gU b=true):gU (a++b)=true:=by
 unfold gU at *
 exact kT (acz a b (rF hb) a.size 0 rfl (gW _) (rF ha))
theorem RA (a b:ByteArray):∀ (n j:Nat),b.size - j=n→iw (a++b) (a.size+j)=iw b j
 | 0,j,h=>by
  rw [iw.eq_def (a++b),iw.eq_def b,ah (show ¬ a.size+j < (a++b).size by rw [ByteArray.size_append];omega),ah (show ¬ j < b.size by omega)]
 | n+1,j,h=>by
  have ih:=RA a b n (j+1) (by omega);rw [iw.eq_def (a++b),iw.eq_def b,au (show a.size+j < (a++b).size by rw [ByteArray.size_append];omega),au (show j < b.size by omega),LJ,Nat.add_assoc,ih]
theorem Rz (a b:ByteArray):∀ (n i:Nat),a.size - i=n→i≤a.size→iw (a++b) i=iw a i+iw b 0
 | 0,i,h,hi=>by
  obtain rfl:i=a.size:=by omega
  rw [iw.eq_def a a.size,ah (Nat.lt_irrefl _),mQ];exact RA a b b.size 0 rfl
 | n+1,i,h,hi=>by
  have ih:=Rz a b n (i+1) (by omega) (by omega);rw [iw.eq_def (a++b),iw.eq_def a i,au (show i < (a++b).size by rw [ByteArray.size_append];omega),au (show i < a.size by omega),LH (show i < a.size by omega),ih,Nat.add_assoc]
theorem Za {a b:ByteArray} (ha:gU a=true) (hb:gU b=true):jg (a++b)=jg a+jg b:=by
 unfold jg
 rw [au ha,au hb,au (Wj ha hb)];exact Rz a b a.size 0 rfl (gW _)
end
section
open Go.RowKit
def oH (x:aB):ByteArray :=
 if x.kind=2 then ⟨#[10]⟩ else if x.kind=3 then ⟨#[29]⟩ else if x.kind=5∨x.kind=6∨x.kind=7∨x.kind=8 then ⟨#[239,191,188]⟩
 else if x.kind=4∧x.code=1 then ⟨#[11]⟩ else if x.kind=4∧x.code=2 then ⟨#[12]⟩ else if x.kind=4∧x.code=3 then ⟨#[9]⟩ else ⟨#[239,191,189]⟩
def nU (x:aB):ByteArray:=if x.kind=1 then x.text else oH x
theorem OO {s:ByteArray} {c:Int} {n:Nat} (hz:s.size=n) (hn:0 < n) (hd:gG s 0=(c,n,true)) (hc:¬ mU .and .u8 (dG s 0) 192=128) (hr:∀ j,0 < j→j < n→mU .and .u8 (dG s j) 192=128):gU s=true∧jg s=1:=by
 have hv:gU s=true:=by
  unfold gU
  rw [gH,dif_pos (by omega),dif_pos (by rw [hd]),hd,gH,dif_neg (by dsimp only;omega)]
  rfl
 refine ⟨hv,?_⟩
 have h0:∀ m j,n - j=m→0 < j→iw s j=0:=by
  intro m
  induction m with
  | zero=>intro j h1 h2;rw [iw,ah (by omega)]
  | succ m ih =>
   intro j h1 h2;have h3:=ih (j+1) (by omega) (by omega);rw [iw.eq_def,au (show j < s.size by omega),au (hr j h2 (by omega)),h3]
 unfold jg
 rw [au hv,iw.eq_def,au (show 0 < s.size by omega),ah hc,h0 _ 1 rfl (by decide)]
theorem VO {P:Nat→Prop} (h1:P 1) (h2:P 2):∀ j,0 < j→j < 3→P j
 | 1,_,_=>h1
 | 2,_,_=>h2
 | 0,h,_=>absurd h (by decide)
 | _+3,_,h=>by omega
theorem ZN:gU ⟨#[]⟩=true∧jg ⟨#[]⟩=0:=by
 have hv:gU ⟨#[]⟩=true:=by unfold gU;rw [gH,dif_neg (by decide)];rfl
 exact ⟨hv,by unfold jg;rw [au hv,iw,ah (by decide)]⟩
theorem LU (x:aB):(gU (oH x)=true∧jg (oH x)=1)∧(oH x).size≤3∧(oH x).size≠0:=by
 have o1:∀ b:UInt8,gG ⟨#[b]⟩ 0=((b.toNat:Int),1,true)→¬ mU .and .u8 (dG ⟨#[b]⟩ 0) 192=128→(gU ⟨#[b]⟩=true∧jg ⟨#[b]⟩=1)∧(⟨#[b]⟩:ByteArray).size≤3∧(⟨#[b]⟩:ByteArray).size≠0:=fun b h1 h2=>⟨OO (n:=1) rfl (by decide) h1 h2 fun j h3 h4=>by omega,by show 1≤3;decide,by show 1≠0;decide⟩
 unfold oH
 split
 ·exact o1 10 (by decide) (by decide)
 split
 ·exact o1 29 (by decide) (by decide)
 split
 ·exact ⟨OO (c:=65532) (n:=3) rfl (by decide) (by decide) (by decide) (VO (by decide) (by decide)),by decide,by decide⟩
 split
 ·exact o1 11 (by decide) (by decide)
 split
 ·exact o1 12 (by decide) (by decide)
 split
 ·exact o1 9 (by decide) (by decide)
 exact ⟨OO (c:=65533) (n:=3) rfl (by decide) (by decide) (by decide) (VO (by decide) (by decide)),by decide,by decide⟩
theorem Yw {x:aB} (h:Ad x):gU (nU x)=true∧jg (nU x)=fF x:=by
 unfold nU fF
 by_cases h1:x.kind=1
 ·rw [au h1,au h1];exact ⟨h.txt,rfl⟩
 rw [ah h1,ah h1];exact (LU x).1
def mI (l:List aB):List UInt8:=l.flatMap fun x=>(nU x).data.toList
theorem ahx (x:aB) (l:List aB):(⟨(mI (x :: l)).toArray⟩:ByteArray)=nU x++⟨(mI l).toArray⟩:=by
 apply ByteArray.ext
 simp [mI]
theorem Pz:∀ {l:List aB},iG l→gU ⟨(mI l).toArray⟩=true∧jg ⟨(mI l).toArray⟩=oW l
 | [],_=>ZN
 | x :: l,h=>by
  obtain ⟨h1,h2⟩:=h.head;obtain ⟨h3,h4⟩:=Yw h1;obtain ⟨h5,h6⟩:=Pz h2;rw [ahx];exact ⟨Wj h3 h5,by rw [Za h3 h5,h4,h6,oW]⟩
theorem ahy {l:List aB} {k:Nat} (hk:k < l.length):mI (l.take (k+1))=mI (l.take k)++(nU l[k]).data.toList:=by
 rw [mP hk];simp only [mI,List.flatMap_append,List.flatMap_cons,List.flatMap_nil,vN]
theorem Yu (x:aB):(nU x).data.toList.length≤cB x.dat:=by
 have h2:=ou x;have h3:(nU x).data.toList.length=(nU x).size:=rE;have h4:=(LU x).2.1;rw [h3]
 unfold nU
 split <;> omega
theorem Ky:∀ l:List aB,(mI l).length≤bG l
 | []=>bP _
 | x :: l=>by
  have:=Ky l;have h2:=Yu x
  simp only [mI,List.flatMap_cons,lC,bG,fG,dZ] at *;omega
end
section
open Go.RowKit
section
variable {N:Nat} {D:List Deferred} {w0:World} {F:Nat→Prop} {G0 G:GH} {L:OL} {T:List (Nat × aj)}
variable {r:Option Nat} {P:Program} {ops:Array Oper} {Q:Exit→Act→World→Prop} {rest:List Oper} {a:Act} {w:World}
variable {d:Nat} {ty:TypeId} {pos:String} {aK:Array Edge} {g:Option (Nat × Bool)}
theorem agD {t:TypeId} {x:Operand} {n c:Nat} (H:St N D w0 F G0 G L T a w) (hw:Region.wanted ⟨some d,.call { callee:=.builtin .unsafeSliceData,args:=#[x],argTypes:=#[t] },ty,pos,aK,g⟩ (yielded ops a.tmps)=true) (hx:ev T x=some (.slice none n c)) (hd:Nat.blt d N=true)
  (k:∀ a',St N D w0 F G0 G L ((d,.pointer none) :: T) a' w→WL r P ops Q rest a' w):WL r P ops Q (⟨some d,.call { callee:=.builtin .unsafeSliceData,args:=#[x],argTypes:=#[t] },ty,pos,aK,g⟩ :: rest) a w:=by
 refine eY (v:=.pointer none) (w':=w) hw rfl ?_ (k _ (H.put hd _ H.hp))
 have h:=Lib.run_unsafeSliceData_nil (P:=P) (w:=w) #[t] ty n c
 simp [execOp,resolve,invoke,builtin,H.ev hx,cO,h]
theorem agH {pt it:TypeId} {x y:Operand} {p:Option Addr} (H:St N D w0 F G0 G L T a w)
  (hw:Region.wanted ⟨some d,.call { callee:=.builtin .unsafeString,args:=#[x,y],argTypes:=#[pt,it] },ty,pos,aK,g⟩ (yielded ops a.tmps)=true) (hx:ev T x=some (.pointer p)) (hy:ev T y=some (.int .i64 0)) (hd:Nat.blt d N=true)
  (k:∀ a',St N D w0 F G0 G L ((d,.string ⟨#[]⟩) :: T) a' w→WL r P ops Q rest a' w):WL r P ops Q (⟨some d,.call { callee:=.builtin .unsafeString,args:=#[x,y],argTypes:=#[pt,it] },ty,pos,aK,g⟩ :: rest) a w:=by
 have h:=Lib.run_unsafeString_none (P:=P) (w:=w) pt it ty p
 refine eY (v:=.string ⟨#[]⟩) (w':=w) hw rfl ?_ (k _ (H.put hd _ H.hp))
 simp [execOp,resolve,invoke,builtin,H.ev hx,H.ev hy,cO,h]
 rfl
end
end
section
open Go.RowKit
theorem QZ (a b:List UInt8):Lib.byteCells (a++b)=Lib.byteCells a++Lib.byteCells b:=by simp [Lib.byteCells]
theorem ahp (G:GH) (Lo:OL) (w0:World) (b:Nat) (p:aj) (hO:gI G (bB b p (.slice none 0 0) :: Lo) w0) :
  Calls prog 59 #[(aJ b 0)] w0 (fT w0 G (bB b p (.slice none 0 0) :: Lo) fun u G' L'=>u=.string ⟨#[]⟩):=by
 refine jh (N:=14) (T:=[(0,_)]) func59 rfl ntmps59 rfl rfl hO ?_;intro a H;refine kP H (SR fun _ K1=>ak K1 rfl (SQ fun _ K2=>?_));clear H K1;intro a H;have H:=H.sub (T':=[(0,_)]) ⟨rfl,aD⟩;refine dI hmx [[],[0],[0,1],[0,1,2],(ra 0 4),[],[5],[5,6],[5,6,7],(ra 5 4),(ra 0 10),(ra 0 11)] [11] (by kernel_rfl) [_,_,_,.slice none 0 0,.pointer none,_,_,_,.slice none 0 0,_,.string ⟨#[]⟩] H (aF (Z0 rfl (Rm rfl)) (Z1 0 3 rfl (Rk rfl)) (Z1 1 4 rfl (Rf uZ rfl)) (Z1 2 5 rfl (Ro vH 0 rfl)) (aF ?_ (Z0 rfl (Rm rfl)) (Z1 5 8 rfl (Rk rfl)) (Z1 6 9 rfl (Rf uZ rfl)) (aF (Z1 7 10 rfl (Ro vH 0 rfl)) (Z1 8 11 rfl (Rl tN rfl)) ?_ (bJ rfl) dP))) ?_
 ·refine eH 3 6 rfl rfl fun _ a w G1 hG HT H fin=>?_;refine agD H wn rfl rfl ?_;clear H;intro a H;exact fin H iJ rfl
 ·refine eB 4 7 9 12 rfl rfl fun _ a w G1 hG HT H fin=>?_;refine agH H wn rfl rfl rfl ?_;clear H;intro a H;exact fin H iJ rfl
 clear H;intro a w G lU H hv;have H:=H.aT (hv 10 13 rfl rfl) rfl;clear hv;refine kH H (Ra rfl ?_);clear H;intro a H;refine aH ⟨rfl,?_⟩;refine K2 _ _ ?_;clear K2;refine lr H results59 rfl ?_;exact H.hp.eU rfl
theorem aho (G:GH) (Lo:OL) (w0:World) (b:Nat) (p v:aj) (l:List UInt8) (hO:gI G (bB b p v :: Lo) w0) (hrow:eF 5 1 v l.length (Lib.byteCells l) Lo) (h0:l=[]→v=.slice none 0 0) :
  Calls prog 59 #[(aJ b 0)] w0 (fT w0 G (bB b p v :: Lo) fun u G' L'=>u=.string ⟨l.toArray⟩):=by
 by_cases h:l=[]
 ·obtain rfl:=h0 h;subst h;exact ahp G Lo w0 b p hO
 exact ahq G Lo w0 b p v l hO hrow h
end
section
open Go.RowKit
theorem Sg:∀ args w,(callFunc 57 args).run prog w=.ok (.enter 57 args) w:=enters func57 rfl (by kernel_rfl)
theorem ahB:Ty prog 124 2 32 [.pointer none,.slice none 0 0] true:=⟨by kernel_rfl,by kernel_rfl⟩
theorem abl:∀ args w,(callFunc 58 args).run prog w=.ok (.enter 58 args) w:=enters func58 rfl (by kernel_rfl)
theorem YD (G:GH) (w0:World) (hG:Hold G w0) (x:aB) (cs:List aj) (hv:aS G x.dat cs) :
  Calls prog 58 #[.agg cs.toArray] w0 (aZ w0 G fun u G'=>u=.string (oH x)):=by
 obtain ⟨pA,pn,pc,dA,dn,dc,yA,yn,yc,fA,fn,fc,rA,rn,rc,rfl,-⟩:=hv.item;refine eN [(0,_)] func58 rfl ntmps58 rfl rfl hG ?_;intro a H;refine bK (fun _ K1=>?_);refine dz (cs:=[_,_,_,_,_,_,_,_,_,_,_]) H wn rfl rfl rfl ?_;clear H;intro b1 a w hb1 H;refine kH H (ak K1 rfl (SQ fun _ K2=>SR fun _ K3=>aO kV aC 0 rfl rfl (Kz K3 (SB (SR fun _ K4=>Rc rfl (ak K4 rfl (Cd rfl ?_ ?_))))))) <;> clear H K1 K3 K4
 ·intro h5 a H
  try have p5:=dT h5
  refine kP H (SR fun _ K5=>ak K5 rfl ?_);clear H K5;intro a H;refine lr H results58 rfl ?_
  exact H.rt (ay Value.string (by
   unfold oH
   repeat (first|rw [au (by omega)]|rw [ah (by omega)])))
 intro h5 a H
 try have p5:=dF h5
 refine kP H (SR fun _ K6=>Rc rfl (ak K6 rfl (Cd rfl ?_ ?_))) <;> clear H K6
 ·intro h7 a H
  try have p7:=dT h7
  refine kP H (SR fun _ K7=>ak K7 rfl ?_);clear H K7;intro a H;refine lr H results58 rfl ?_
  exact H.rt (ay Value.string (by
   unfold oH
   repeat (first|rw [au (by omega)]|rw [ah (by omega)])))
 intro h7 a H
 try have p7:=dF h7
 refine kP H (SQ fun _ K8=>SR fun _ K9=>Rc rfl (ak K9 rfl (Cd rfl ?_ ?_))) <;> clear H K9
 ·intro h9 a H
  try have p9:=dT h9
  refine kP H (Kc K8 (Ct rfl h9 (SR fun _ aQ=>ak aQ rfl ?_)));clear H K8 aQ;intro a H;refine lr H results58 rfl ?_
  exact H.rt (ay Value.string (by
   unfold oH
   repeat (first|rw [au (by omega)]|rw [ah (by omega)])))
 intro h9 a H
 try have p9:=dF h9
 refine kP H (SR fun _ bH=>Rc rfl (ak bH rfl (Cd rfl ?_ ?_))) <;> clear H bH
 ·intro h9 a H
  try have p9:=dT h9
  refine kP H (Kc K8 (Ct rfl h9 (SR fun _ bR=>ak bR rfl ?_)));clear H K8 bR;intro a H;refine lr H results58 rfl ?_
  exact H.rt (ay Value.string (by
   unfold oH
   repeat (first|rw [au (by omega)]|rw [ah (by omega)])))
 intro h9 a H
 try have p9:=dF h9
 refine kP H (SR fun _ bY=>Rc rfl (ak bY rfl (Cd rfl ?_ ?_))) <;> clear H bY
 ·intro h9 a H
  try have p9:=dT h9
  refine kP H (Kc K8 (Ct rfl h9 (SR fun _ bX=>ak bX rfl ?_)));clear H K8 bX;intro a H;refine lr H results58 rfl ?_
  exact H.rt (ay Value.string (by
   unfold oH
   repeat (first|rw [au (by omega)]|rw [ah (by omega)])))
 intro h9 a H
 try have p9:=dF h9
 refine kP H (SC (Rc rfl (aU K8 rfl (Cd rfl ?_ ?_)))) <;> clear H K8
 ·intro h9 a H
  try have p9:=dT h9
  refine kP H (SR fun _ dO=>ak dO rfl ?_);clear H dO;intro a H;refine lr H results58 rfl ?_
  exact H.rt (ay Value.string (by
   unfold oH
   repeat (first|rw [au (by omega)]|rw [ah (by omega)])))
 intro h9 a H
 try have p9:=dF h9
 refine kP H (SR fun _ dJ=>Rc rfl (ak dJ rfl (Cd rfl ?_ ?_))) <;> clear H dJ
 ·intro dX a H
  try have kJ:=dT dX
  refine kP H (SR fun _ dD=>aO DY aC 0 rfl rfl (Kz dD (SB (SR fun _ dU=>Rc rfl (ak dU rfl (Cd rfl ?_ ?_)))))) <;> clear H dD dU
  ·intro h18 a H
   try have rZ:=dT h18
   refine kP H (SR fun _ fP=>ak fP rfl ?_);clear H fP;intro a H;refine lr H results58 rfl ?_
   exact H.rt (ay Value.string (by
    unfold oH
    repeat (first|rw [au (by omega)]|rw [ah (by omega)])))
  intro h18 a H
  try have rZ:=dF h18
  refine kP H (SR fun _ eG=>Rc rfl (ak eG rfl (Cd rfl ?_ ?_))) <;> clear H eG
  ·intro h20 a H
   try have vC:=dT h20
   refine kP H (SR fun _ fZ=>ak fZ rfl ?_);clear H fZ;intro a H;refine lr H results58 rfl ?_
   exact H.rt (ay Value.string (by
    unfold oH
    repeat (first|rw [au (by omega)]|rw [ah (by omega)])))
  intro h20 a H
  try have vC:=dF h20
  refine kP H (SR fun _ gN=>Rc rfl (ak gN rfl (Cd rfl ?_ ?_))) <;> clear H gN
  ·intro h22 a H
   try have iL:=dT h22
   refine kP H (SR fun _ iW=>ak iW rfl ?_);clear H iW;intro a H;refine lr H results58 rfl ?_
   exact H.rt (ay Value.string (by
    unfold oH
    repeat (first|rw [au (by omega)]|rw [ah (by omega)])))
  intro h22 a H
  try have iL:=dF h22
  refine kP H (Kc K2 (SR fun _ iN=>ak iN rfl ?_));clear H K2 iN;intro a H;refine lr H results58 rfl ?_
  exact H.rt (ay Value.string (by
   unfold oH
   repeat (first|rw [au (by omega)]|rw [ah (by omega)])))
 intro dX a H
 try have kJ:=dF dX
 refine kP H (Kc K2 (SR fun _ iO=>ak iO rfl ?_));clear H K2 iO;intro a H;refine lr H results58 rfl ?_
 exact H.rt (ay Value.string (by
  unfold oH
  repeat (first|rw [au (by omega)]|rw [ah (by omega)])))
theorem Yv {x:aB} (h:x.kind=1→x.text.size≠0):(nU x).data.toList.length≠0:=by
 have h3:(nU x).data.toList.length=(nU x).size:=rE;rw [h3]
 unfold nU
 split
 ·exact h (by assumption)
 exact (LU x).2.2
theorem Vh (G:GH) (w0:World) (hG:Hold G w0) (l:List aB) (v:aj) (hv:av G (.sl 11 (l.map aB.dat)) v) (hz:bG l≤1073741824) (hne:∀ x∈l,x.kind=1→x.text.size≠0) :
  Calls prog 17 #[v] w0 (aZ w0 G fun u G'=>u=.string ⟨(mI l).toArray⟩):=by
 obtain ⟨A,c,rfl,hc1,hc2,hg⟩:=hv.slice;rw [bW] at *;have hll:=E8 l;refine eN [(0,_)] func17 rfl ntmps17 rfl rfl hG ?_;intro a H;refine kP H (SR fun _ K1=>ak K1 rfl (SR fun _ K2=>?_));clear H K1;intro a H;refine dx ahB H wn rfl ?_;clear H;intro b3 a w hb3 H;refine K2 _ _ ?_;clear K2;refine kP H (SQ fun _ K3=>SR fun _ K4=>Rm rfl (Rl oq rfl (Rm rfl (Kz K4 (SB ?_)))));clear H K4;intro a H;skip;refine gq (ι:=Nat × aj × aj × OL × GH) (Tc:=[(3,_),(6,_),(7,_)]) (Lc:=[]) (fun gh=>[(8,vi gh.1)]) (fun gh=>[bB b3 gh.2.1 gh.2.2.1]++gh.2.2.2.1) (fun gh=>gh.2.2.2.2) (fun gh=>gh.1≤l.length∧(gh.2.1=.pointer none∨gh.2.1=(aJ b3 0))∧eF 5 1 gh.2.2.1 (mI (l.take gh.1)).length (Lib.byteCells (mI (l.take gh.1))) gh.2.2.2.1∧(mI (l.take gh.1)=[]→gh.2.2.1=.slice none 0 0)∧(∀ b o,G b=some o→gh.2.2.2.2 b=some o)) (fun gh=>l.length - gh.1) ((0,.pointer none,.slice none 0 0,[],G)) (by exact (H).sub ⟨rfl,rfl,rfl,rfl,aD⟩) ?_ ?_
 ·exact ⟨by omega,.inl rfl,eF.nil,fun _=>rfl,fun _ _ h=>h⟩
 clear H;intro gh a w hI H;obtain ⟨k,p,v,Lo,g⟩:=gh;dsimp only at hI H;obtain ⟨hk,hp,hrw,hnl,hgm⟩:=hI;dsimp only [lca,aV] at H;refine kP H (SR fun _ K5=>Rc rfl (Kz K5 (SQ fun _ K6=>Cd rfl ?_ ?_))) <;> clear H K5
 ·intro h9 a H
  try have p9:=dT h9
  have hk2:k < l.length:=by omega
  obtain ⟨b,o,cs,rfl,hcl,hrow,hrep⟩:=hg k l[k].dat (by simp [hk2]);obtain ⟨pA,pn,pc,dA,dn,dc,yA,yn,yc,fA,fn,fc,rA,rn,rc,rfl,-⟩:=hrep.item;replace hrow:=fun j u hj=>aL hgm (hrow j u hj);replace hrep:=hrep.mono hgm;have hbl:=Ky (l.take (k+1))
  have hzt:bG l=bG (l.take (k+1))+bG (l.drop (k+1)):=by
   have h:=VN ((l.take (k+1)).map aB.dat) ((l.drop (k+1)).map aB.dat);rw [← sN,List.take_append_drop] at h;exact h
  have hbs:=ahy hk2;have hbz:=ay List.length hbs;rw [lC] at hbz;have hts:(nU l[k]).data.toList.length=(nU l[k]).size:=rE;have hcb:=Yv (hne _ (jT hk2))
  have hen:∀ {v:aj},mI (l.take (k+1))=[]→v=.slice none 0 0:=fun e=>by
   rw [e] at hbz;simp only [List.length_nil] at hbz;omega
  refine kP H (Kc K6 (SQ fun _ K7=>SB (SR fun _ K8=>Ri oq eX rfl rfl ?_)));clear H K6;intro a H;refine aW eX (cs:=[_,_,_,_,_,_,_,_,_,_,_]) H wn rfl rfl (fun j v hj=>H.hp.aI (hrow j v hj)) rfl ?_;clear H;intro a H;refine dx eX H wn rfl ?_;clear H;intro b5 a w hb5 H;refine aX eX 0 (vs:=[_,_,_,_,_,_,_,_,_,_,_]) _ H wn rfl rfl rfl rfl rfl rfl rfl rfl ?_;clear H;intro w H;dsimp only [List.set,setRow] at H;refine K8 _ _ ?_;clear K8;refine kP H (SR fun _ K9=>aO kV aC 0 rfl rfl (Rc rfl (Kz K9 (Cd rfl ?_ ?_)))) <;> clear H K9
  ·intro dX a H
   try have kJ:=dT dX
   have hch:nU l[k]=l[k].text:=au kJ;refine kP H (SC (aO xE iB 0 rfl rfl ?_));clear H;intro a H
   first|rw [← hch] at H|skip
   refine gT Sg (Li:=[_]) (L:=bB b3 p v :: Lo) H wn rfl (WE _ _ _ b3 p v _ _ (nU l[k]) hp (Hp.owns (Li:=[_]) H.hp) hrw (by omega)) rfl ?_;clear H;rintro v_ _ Xv a w ⟨v17,KY,rfl,Od,rfl⟩ oM H;refine kH H (Kn K7 (SC (Rd rfl (Rm rfl ?_))));clear H K7;intro a H;refine aH ?_;refine eO ((k+1,(aJ b3 0),v17,KY,_)) (by exact (H.bU (Pl:=[_,_]) (bN:=[_]) [1] (by decide) rfl).sub ⟨rfl,rfl,rfl,rfl,aD⟩) ?_ ?_
   ·(try dsimp only);exact ⟨by omega,.inr rfl,by rw [hbs,QZ,lC,hts];exact Od,hen,by first|exact hgm|exact fun b o h=>Ci b o (hgm b o h)⟩
   first|omega|(dsimp only;omega)
  intro dX a H
  try have kJ:=dF dX
  have hch:nU l[k]=oH l[k]:=ah kJ;refine mh ?_;refine aW eX (cs:=[_,_,_,_,_,_,_,_,_,_,_]) H wn rfl rfl (H.hp.bT 0 rfl rfl) rfl ?_;clear H;intro a H;refine s_call abl H wn rfl (YD _ _ H.ro l[k] [_,_,_,_,_,_,_,_,_,_,_] hrep) rfl ?_;clear H;rintro v19 KR a w rfl Ci H;rw [← hch] at H
  first|rw [← hch] at H|skip
  refine gT Sg (Li:=[_]) (L:=bB b3 p v :: Lo) H wn rfl (WE _ _ _ b3 p v _ _ (nU l[k]) hp (Hp.owns (Li:=[_]) H.hp) hrw (by omega)) rfl ?_;clear H;rintro v_ _ Xv a w ⟨v17,KY,rfl,Od,rfl⟩ oM H;refine kH H (Kn K7 (SC (Rd rfl (Rm rfl ?_))));clear H K7;intro a H;refine aH ?_;refine eO ((k+1,(aJ b3 0),v17,KY,_)) (by exact (H.bU (Pl:=[_,_]) (bN:=[_]) [1] (by decide) rfl).sub ⟨rfl,rfl,rfl,rfl,aD⟩) ?_ ?_
  ·(try dsimp only);exact ⟨by omega,.inr rfl,by rw [hbs,QZ,lC,hts];exact Od,hen,by first|exact hgm|exact fun b o h=>Ci b o (hgm b o h)⟩
  first|omega|(dsimp only;omega)
 intro h9 a H
 try have p9:=dF h9
 refine fI ?_;refine K3 _ _ ?_;clear K3;refine bg (fun _ aQ=>?_);rw [show l.take k=l from jU (by omega)] at hrw hnl;refine mh ?_;refine gT Si (Li:=[]) (L:=bB b3 p v :: Lo) H wn rfl (aho _ _ _ b3 p v (mI l) (Hp.owns (Li:=[]) H.hp) hrw hnl) rfl ?_;clear H;rintro v22 Qb L22 a w rfl aiZ H;exact kH H (aU aQ rfl (LR results17 rfl fun H=>H.rt rfl))
end
section
open Go.RowKit
theorem IX {s:ByteArray} {a n:Nat}:∀ (f k:Nat) (low high p:Int),(lD s a n f k low high p).2.2=true→k≤n→n≤k+f →
  (lD s a n f k low high p).2.1=n∧∀ j,k≤j→j < n→a+j < s.size∧(if j=k then low≤dG s (a+j)∧dG s (a+j)≤high else 128≤dG s (a+j)∧dG s (a+j)≤191)
 | 0,k,low,high,p,_,h1,h2=>by
  have hk:k=n:=by omega
  subst hk;exact ⟨by rw [lD],fun j hj hj2=>by omega⟩
 | f+1,k,low,high,p,h,h1,h2=>by
  rw [lD] at h ⊢
  by_cases hn:n≤k
  ·rw [au hn];exact ⟨by dsimp only;omega,fun j hj hj2=>by omega⟩
  rw [ah hn] at h ⊢
  by_cases hb:s.size≤a+k∨dG s (a+k) < low∨high < dG s (a+k)
  ·rw [au hb] at h;cases h
  rw [ah hb] at h ⊢;obtain ⟨e1,e2⟩:=IX f (k+1) 128 191 _ h (by omega) (by omega);refine ⟨e1,fun j hj hj2=>?_⟩
  by_cases hjk:j=k
  ·subst hjk;rw [au rfl];omega
  rw [ah hjk];have:=e2 j (by omega) hj2
  split at this
  ·omega
  exact this
theorem BL {s:ByteArray} {i:Nat} (h:i < s.size):dG s i=((s.get! i).toNat:Int):=by
 have e:s.get! i=s[i]:=by
  unfold ByteArray.get!
  exact getElem!_pos s.data i h
 rw [iY h,e]
theorem BN {s:ByteArray} {i:Nat} (hi:i < s.size) (h:(gG s i).2.2=true):(Utf8.decode s i).2=(gG s i).2.1∧¬ ((Utf8.decode s i).1=65533∧(Utf8.decode s i).2=1) ∧
  (∀ j,0 < j→j < (gG s i).2.1→i+j < s.size∧128≤dG s (i+j)∧dG s (i+j)≤191)∧¬ (128≤dG s i∧dG s i≤191):=by
 have hb:=BL hi;have hlt:(s.get! i).toNat < 256:=(s.get! i).toNat_lt;obtain ⟨B,hB⟩:∃ B,B=(s.get! i).toNat:=⟨_,rfl⟩;rw [← hB] at hb hlt
 unfold gG at h ⊢
 simp only at h ⊢
 have ht:dN (dG s i)=dN (B:Int):=by rw [hb]
 rw [ht] at h ⊢
 by_cases c1:B < 128
 ·have e3:(dN (B:Int)).2.2=1:=by simp only [dN];rw [au (by omega)]
  rw [ah (by omega),au e3]
  have hd:Utf8.decode s i=(B,1):=by
   unfold Utf8.decode
   simp only [lZ,← hB]
   rw [au (by omega)]
  rw [hd];exact ⟨rfl,by simp;omega,fun j h1 h2=>by simp at h2;omega,by omega⟩
 by_cases c2:B < 194∨244 < B
 ·have e3:(dN (B:Int)).2.2=0:=by simp only [dN];rw [ah (by omega),au (by omega)]
  rw [au e3] at h;cases h
 by_cases c3:B < 224
 ·have e3:(dN (B:Int)).2.2=2:=by simp only [dN];rw [ah (by omega),ah (by omega),au (by omega)]
  have e1:(dN (B:Int)).1=128∧(dN (B:Int)).2.1=191:=by simp only [dN];refine ⟨?_,?_⟩ <;> (rw [ah (by omega),ah (by omega)])
  rw [ah (by omega),ah (by omega),e3,e1.1,e1.2] at h ⊢;obtain ⟨q1,q2⟩:=IX _ _ _ _ _ h (by decide) (by decide);have b1:=q2 1 (by decide) (by decide);rw [au rfl] at b1;have g1:=BL b1.1;obtain ⟨B1,hB1⟩:∃ B1,B1=(s.get! (i+1)).toNat:=⟨_,rfl⟩;rw [← hB1] at g1;rw [q1]
  have hd:Utf8.decode s i=((B % 32)*64+B1 % 64,2):=by
   unfold Utf8.decode
   simp only [lZ,← hB,← hB1]
   rw [ah (by omega),au (by simp [b1.1];omega),au (by omega)]
  rw [hd];refine ⟨rfl,by simp,fun j h1 h2=>?_,by omega⟩
  obtain rfl:j=1:=by have:j < 2:=h2;omega
  exact ⟨b1.1,b1.2⟩
 by_cases c4:B < 240
 ·have e3:(dN (B:Int)).2.2=3:=by simp only [dN];rw [ah (by omega),ah (by omega),ah (by omega),au (by omega)]
  have e1:128≤(dN (B:Int)).1∧(dN (B:Int)).2.1≤191∧(B=224→(dN (B:Int)).1=160)∧(B=237→(dN (B:Int)).2.1=159):=by
   simp only [dN]
   refine ⟨?_,?_,fun e=>?_,fun e=>?_⟩
   ·split
    ·omega
    split <;> omega
   ·split
    ·omega
    split <;> omega
   ·rw [au (by omega)]
   rw [au (by omega)]
  obtain ⟨lo,hlo⟩:∃ x,x=(dN (B:Int)).1:=⟨_,rfl⟩;obtain ⟨hi',hhi⟩:∃ x,x=(dN (B:Int)).2.1:=⟨_,rfl⟩;rw [ah (by omega),ah (by omega),e3,← hlo,← hhi] at h ⊢;rw [← hlo,← hhi] at e1;obtain ⟨q1,q2⟩:=IX _ _ _ _ _ h (by decide) (by decide);have b1:=q2 1 (by decide) (by decide);have b2:=q2 2 (by decide) (by decide);rw [au rfl] at b1;rw [ah (by decide)] at b2;have g1:=BL b1.1;have g2:=BL b2.1;obtain ⟨B1,hB1⟩:∃ B1,B1=(s.get! (i+1)).toNat:=⟨_,rfl⟩;obtain ⟨B2,hB2⟩:∃ B2,B2=(s.get! (i+2)).toNat:=⟨_,rfl⟩;rw [← hB1] at g1;rw [← hB2] at g2;rw [q1]
  have hv:Utf8.valid (((B % 16)*4096+(B1 % 64)*64+B2 % 64:Nat):Int)=true:=by
   simp only [Utf8.valid,Bool.or_eq_true,jS,lM]
   have aiG:=e1.2.2.2
   omega
  have hd:Utf8.decode s i=((B % 16)*4096+(B1 % 64)*64+B2 % 64,3):=by
   unfold Utf8.decode
   simp only [lZ,← hB,← hB1,← hB2]
   have aiF:=e1.2.2.1;rw [ah (by omega),ah (by simp;omega),au (by simp [b1.1,b2.1];omega),au (by simp only [jS,lM];exact ⟨by omega,hv⟩)]
  rw [hd];refine ⟨rfl,by simp,fun j h1 h2=>?_,by omega⟩;have h2':j < 3:=h2
  rcases (show j=1∨j=2 by omega) with rfl|rfl
  ·exact ⟨b1.1,by omega,by omega⟩
  exact ⟨b2.1,b2.2⟩
 have e3:(dN (B:Int)).2.2=4:=by simp only [dN];rw [ah (by omega),ah (by omega),ah (by omega),ah (by omega)]
 have e1:128≤(dN (B:Int)).1∧(dN (B:Int)).2.1≤191∧(B=240→(dN (B:Int)).1=144)∧(B=244→(dN (B:Int)).2.1=143):=by
  simp only [dN]
  refine ⟨?_,?_,fun e=>?_,fun e=>?_⟩
  ·split
   ·omega
   split <;> omega
  ·split
   ·omega
   split <;> omega
  ·rw [ah (by omega),au (by omega)]
  rw [ah (by omega),au (by omega)]
 obtain ⟨lo,hlo⟩:∃ x,x=(dN (B:Int)).1:=⟨_,rfl⟩;obtain ⟨hi',hhi⟩:∃ x,x=(dN (B:Int)).2.1:=⟨_,rfl⟩;rw [ah (by omega),ah (by omega),e3,← hlo,← hhi] at h ⊢;rw [← hlo,← hhi] at e1;obtain ⟨q1,q2⟩:=IX _ _ _ _ _ h (by decide) (by decide);have b1:=q2 1 (by decide) (by decide);have b2:=q2 2 (by decide) (by decide);have b3:=q2 3 (by decide) (by decide);rw [au rfl] at b1;rw [ah (by decide)] at b2 b3;have g1:=BL b1.1;have g2:=BL b2.1;have g3:=BL b3.1;obtain ⟨B1,hB1⟩:∃ B1,B1=(s.get! (i+1)).toNat:=⟨_,rfl⟩;obtain ⟨B2,hB2⟩:∃ B2,B2=(s.get! (i+2)).toNat:=⟨_,rfl⟩;obtain ⟨B3,hB3⟩:∃ B3,B3=(s.get! (i+3)).toNat:=⟨_,rfl⟩;rw [← hB1] at g1;rw [← hB2] at g2;rw [← hB3] at g3;rw [q1];have aiH:=e1.2.2.1;have aiI:=e1.2.2.2
 have hv:Utf8.valid (((B % 8)*262144+(B1 % 64)*4096+(B2 % 64)*64+B3 % 64:Nat):Int)=true:=by
  simp only [Utf8.valid,Bool.or_eq_true,jS,lM]
  omega
 have hd:Utf8.decode s i=((B % 8)*262144+(B1 % 64)*4096+(B2 % 64)*64+B3 % 64,4):=by
  unfold Utf8.decode
  simp only [lZ,← hB,← hB1,← hB2,← hB3]
  rw [ah (by omega),ah (by simp;omega),ah (by simp;omega),au (by simp [b1.1,b2.1,b3.1];omega),au (by simp only [jS,lM];exact ⟨by omega,hv⟩)]
 rw [hd];refine ⟨rfl,by simp,fun j h1 h2=>?_,by omega⟩;have h2':j < 4:=h2
 rcases (show j=1∨j=2∨j=3 by omega) with rfl|rfl|rfl
 ·exact ⟨b1.1,by omega,by omega⟩
 ·exact ⟨b2.1,b2.2⟩
 exact ⟨b3.1,b3.2⟩
end
section
open Go.RowKit
theorem uM {s:ByteArray} {i:Nat} (h:gH s i < 0) (hi:i < s.size):(gG s i).2.2=true∧gH s (i+(gG s i).2.1) < 0:=by
 rw [gH,dif_pos hi] at h
 split at h
 ·rename_i h2;exact ⟨h2,h⟩
 omega
theorem DJ {s:ByteArray} {i:Nat} (h:gH s i < 0) (hi:i < s.size):0 < (gG s i).2.1∧i+(gG s i).2.1≤s.size:=by
 have h1:=(uM h hi).1;have h2:=(FR s i hi).2 h1
 omega
theorem J8 {s:ByteArray} {f i:Nat} (hf:s.size - i≤f) (hi:i < s.size):oh s f i=(i,(Utf8.decode s i).1) :: oh s (f - 1) (i+(Utf8.decode s i).2):=by
 match f,hf with
 | 0,hf=>omega
 | f+1,_=>rw [oh,au hi];rfl
theorem Hw {s:ByteArray} {f i:Nat} (hi:¬ i < s.size):oh s f i=[]:=by
 match f with
 | 0=>rfl
 | f+1=>rw [oh,ah hi]
def xP (s:ByteArray) (i:Nat):Bool:=decide (¬ (128≤dG s i∧dG s i≤191))
theorem acr {s:ByteArray} {i n:Nat} (h0:xP s i=true) (h1:∀ j,0 < j→j < n→xP s (i+j)=false) (hn:0 < n):(List.range' i n).filter (xP s)=[i]:=by
 obtain ⟨k,rfl⟩:∃ k,n=k+1:=⟨n - 1,by omega⟩;rw [List.range'_succ,List.filter_cons,au h0]
 have:(List.range' (i+1) k).filter (xP s)=[]:=by
  rw [List.filter_eq_nil_iff];intro a ha;rw [List.mem_range'_1] at ha;have:=h1 (a - i) (by omega) (by omega);rw [show i+(a - i)=a by omega] at this
  simp [this]
 rw [this]
theorem QT {s:ByteArray}:∀ (q i f:Nat),s.size - i≤q→s.size - i≤f→gH s i < 0→i≤s.size→(List.range' i (s.size - i)).filter (xP s)=(oh s f i).map (·.1)
 | 0,i,f,hq,_,_,_=>by rw [Hw (by omega),show s.size - i=0 by omega];rfl
 | q+1,i,f,hq,hf,h,hle=>by
  by_cases hi:i < s.size
  ·have hs:=uM h hi;have hd:=DJ h hi;have he:=BN hi hs.1;obtain ⟨n,hn⟩:∃ n,n=(gG s i).2.1:=⟨_,rfl⟩;rw [← hn] at hs hd he;rw [J8 hf hi,fG,he.1,← QT q (i+n) (f - 1) (by omega) (by omega) hs.2 (by omega)];rw [show s.size - i=n+(s.size - (i+n)) by omega,← List.range'_append_1,List.filter_append]
   rw [acr (by simp only [xP,lM];exact he.2.2.2) (fun j h1 h2=>by
    have:=he.2.2.1 j h1 h2
    simp only [xP,sO,mR];exact this.2) hd.1]
   rfl
  rw [Hw (by omega),show s.size - i=0 by omega];rfl
def Ev (s:ByteArray):List Nat:=(kN s).map (·.1)++[s.size]
def LD (s:ByteArray):List Nat:=(List.range s.size).filter (xP s)++[s.size]
theorem XZ {s:ByteArray} (hv:gU s=true):LD s=Ev s:=by
 have hf:gH s 0 < 0:=by simpa [gU] using hv
 rw [LD,Ev,kN,← QT _ 0 s.size (bP _) (by omega) hf (gW _),List.range_eq_range']
 rfl
theorem abE (r:Nat):(Utf8.encode (r:Int)).data.toList=Go.Lib.encodeRune (r:Int):=by
 have big:∀ x:Nat,(x:Int).toNat=x:=fun x=>Int.toNat_natCast x
 unfold Utf8.encode Go.Lib.encodeRune
 simp only
 by_cases c1:r≤127
 ·have hv:Utf8.valid (r:Int)=true:=by simp only [Utf8.valid,Bool.or_eq_true,jS,lM];omega
  rw [au hv,Go.Lib.encodeRuneZ_one (by omega) (by omega),big,au (by omega)]
  rfl
 by_cases c2:r≤2047
 ·have hv:Utf8.valid (r:Int)=true:=by simp only [Utf8.valid,Bool.or_eq_true,jS,lM];omega
  rw [au hv,Go.Lib.encodeRuneZ_two (by omega) (by omega),big,ah (by omega),au (by omega)]
  simp only [fG,pI]
  rw [show (192+(r:Int) / 64).toNat=192+r / 64 by omega,show (128+(r:Int) % 64).toNat=128+r % 64 by omega]
 by_cases c3:r≤65535∧¬ (55296≤r∧r≤57343)
 ·have hv:Utf8.valid (r:Int)=true:=by simp only [Utf8.valid,Bool.or_eq_true,jS,lM];omega
  rw [au hv,Go.Lib.encodeRuneZ_three (by omega),big,ah (by omega),ah (by omega),au (by omega)]
  simp only [fG,pI]
  rw [show (224+(r:Int) / 4096).toNat=224+r / 4096 by omega,show (128+(r:Int) / 64 % 64).toNat=128+r / 64 % 64 by omega,show (128+(r:Int) % 64).toNat=128+r % 64 by omega]
 by_cases c4:65536≤r∧r≤1114111
 ·have hv:Utf8.valid (r:Int)=true:=by simp only [Utf8.valid,Bool.or_eq_true,jS,lM];omega
  rw [au hv,Go.Lib.encodeRuneZ_four (by omega) (by omega),big,ah (by omega),ah (by omega),ah (by omega)]
  simp only [fG,pI]
  rw [show (240+(r:Int) / 262144).toNat=240+r / 262144 by omega,show (128+(r:Int) / 4096 % 64).toNat=128+r / 4096 % 64 by omega,show (128+(r:Int) / 64 % 64).toNat=128+r / 64 % 64 by omega,show (128+(r:Int) % 64).toNat=128+r % 64 by omega]
 have hv:¬ Utf8.valid (r:Int)=true:=by simp only [Utf8.valid,Bool.or_eq_true,jS,lM];omega
 rw [ah hv,Go.Lib.encodeRuneZ_bad (by omega)]
 decide
theorem abD {s:ByteArray} {i:Nat} (h:gH s i < 0) (hi:i < s.size):(Utf8.encode ((Utf8.decode s i).1:Int)).data.toList=(s.data.toList.drop i).take (Utf8.decode s i).2:=by
 have hne:s.data.toList.drop i≠[]:=by
  intro e;have:=ay List.length e;rw [List.length_drop,← Go.Lib.size_eq] at this
  simp at this;omega
 have he:=BN hi (uM h hi).1;have h1:=Go.Lib.encode_decode _ hne (by rw [Go.Lib.decodeL_drop];exact he.2.1);rw [Go.Lib.decodeL_drop] at h1;rw [← h1,abE]
theorem Vn:∀ (ns:List Int) (b:ByteArray),(ns.foldl (fun r n=>r++Utf8.encode n) b).data.toList=b.data.toList++ns.flatMap fun n=>(Utf8.encode n).data.toList
 | [],b=>by simp
 | n :: ns,b=>by
  rw [List.foldl_cons,Vn ns]
  simp [ByteArray.data_append]
theorem agj (ns:List Int):(runesBytes ns).data.toList=ns.flatMap fun n=>(Utf8.encode n).data.toList:=by
 rw [runesBytes,Vn];rfl
def fO (s:ByteArray):Nat→Nat→Nat
 | i,0=>i
 | i,j+1=>if i < s.size then fO s (i+(Utf8.decode s i).2) j else i
theorem Dq {s:ByteArray}:∀ (j i:Nat),gH s i < 0→i≤s.size→i≤fO s i j∧fO s i j≤s.size
 | 0,i,_,h=>⟨bP _,h⟩
 | j+1,i,hf,h=>by
  rw [fO]
  split
  ·rename_i hi
   have hd:=DJ hf hi;have he:=BN hi (uM hf hi).1;have:=Dq j (i+(Utf8.decode s i).2) (by rw [he.1];exact (uM hf hi).2) (by omega)
   omega
  omega
theorem QM {s:ByteArray}:∀ (j i f:Nat),s.size - i≤f→gH s i < 0→i≤s.size→j≤(oh s f i).length→((oh s f i).map (·.1)++[s.size])[j]?=some (fO s i j)
 | j,i,f,hf,h,hle,hj=>by
  by_cases hi:i < s.size
  ·have hd:=DJ h hi;have he:=BN hi (uM h hi).1;rw [J8 hf hi] at hj ⊢
   cases j with
   | zero=>rfl
   | succ j =>
    rw [fO,au hi,fG,lN,List.getElem?_cons_succ];exact QM j (i+(Utf8.decode s i).2) (f - 1) (by omega) (by rw [he.1];exact (uM h hi).2) (by omega) (by simpa using hj)
  rw [Hw hi] at hj ⊢
  simp at hj;subst hj
  have:i=s.size:=by omega
  simp [fO,this]
theorem VX {s:ByteArray}:∀ (j i f:Nat),s.size - i≤f→gH s i < 0→i≤s.size→(((oh s f i).take j).map fun x=>(x.2:Int)).flatMap (fun n=>(Utf8.encode n).data.toList)=(s.data.toList.drop i).take (fO s i j - i)
 | 0,i,f,_,_,_=>by simp [fO]
 | j+1,i,f,hf,h,hle=>by
  by_cases hi:i < s.size
  ·have hd:=DJ h hi;have he:=BN hi (uM h hi).1
   have hs2:gH s (i+(Utf8.decode s i).2) < 0:=by rw [he.1];exact (uM h hi).2
   have ha:=Dq j (i+(Utf8.decode s i).2) hs2 (by omega);rw [J8 hf hi,List.take_succ_cons,fG,List.flatMap_cons,abD h hi,VX j (i+(Utf8.decode s i).2) (f - 1) (by omega) hs2 (by omega),fO,au hi,← List.drop_drop,← List.take_add]
   congr 1;omega
  rw [Hw hi,fO,ah hi];simp
theorem Ve {s:ByteArray}:∀ (u i f:Nat),s.size - i≤f→gH s i < 0→i≤s.size→∃ g,s.size - fO s i u≤g∧(oh s f i).drop u=oh s g (fO s i u)
 | 0,i,f,hf,_,_=>⟨f,hf,rfl⟩
 | u+1,i,f,hf,h,hle=>by
  by_cases hi:i < s.size
  ·have hd:=DJ h hi;have he:=BN hi (uM h hi).1;rw [J8 hf hi,fO,au hi,xq];exact Ve u (i+(Utf8.decode s i).2) (f - 1) (by omega) (by rw [he.1];exact (uM h hi).2) (by omega)
  rw [Hw hi,fO,ah hi];exact ⟨0,by omega,by simp [oh]⟩
theorem Lm {s:ByteArray}:∀ (u i:Nat),gH s i < 0→i≤s.size→gH s (fO s i u) < 0
 | 0,i,h,_=>h
 | u+1,i,h,hle=>by
  rw [fO];split
  ·rename_i hi
   have hd:=DJ h hi;have he:=BN hi (uM h hi).1;exact Lm u _ (by rw [he.1];exact (uM h hi).2) (by omega)
  exact h
theorem Ll {s:ByteArray}:∀ (u i v:Nat),fO s i (u+v)=fO s (fO s i u) v
 | 0,i,v=>by rw [mQ];rfl
 | u+1,i,v=>by
  rw [show u+1+v=(u+v)+1 by omega,fO,fO]
  split
  ·exact Ll u _ v
  rename_i hi
  cases v with
  | zero=>rfl
  | succ v=>rw [fO,ah hi]
theorem abR (s:ByteArray) (a b:Nat):(s.extract a b).data.toList=(s.data.toList.drop a).take (b - a):=by
 simp [ByteArray.data_extract]
theorem ahL {s:ByteArray} (hv:gU s=true) {u v:Nat} (huv:u≤v):runesBytes ((((kN s).map fun x=>(x.2:Int)).drop u).take (v - u))=s.extract (fO s 0 u) (fO s 0 v):=by
 have hf:gH s 0 < 0:=by simpa [gU] using hv
 obtain ⟨g,hg,e⟩:=Ve u 0 s.size (by omega) hf (gW _);have ha:=Dq u 0 hf (gW _);have hok:=Lm u 0 hf (gW _);have h1:=VX (v - u) (fO s 0 u) g hg hok ha.2;rw [← Ll,show u+(v - u)=v by omega] at h1
 have h2:(runesBytes ((((kN s).map fun x=>(x.2:Int)).drop u).take (v - u))).data.toList=(s.extract (fO s 0 u) (fO s 0 v)).data.toList:=by
  rw [agj,← List.map_drop,← List.map_take,kN,e,h1,abR]
 exact ByteArray.ext (Array.ext' h2)
theorem UL {s:ByteArray} (hv:gU s=true) {u:Nat} (hu:u≤(kN s).length):(Ev s)[u]?=some (fO s 0 u):=by
 have hf:gH s 0 < 0:=by simpa [gU] using hv
 exact QM u 0 s.size (by omega) hf (gW _) hu
end
section
open Go.RowKit
section
variable {N:Nat} {D:List Deferred} {w0:World} {F:Nat→Prop} {G0 G:GH} {L:OL} {T:List (Nat × aj)}
variable {r:Option Nat} {P:Program} {ops:Array Oper} {Q:Exit→Act→World→Prop} {rest:List Oper} {a:Act} {w:World}
variable {d:Nat} {ty:TypeId} {pos:String} {aK:Array Edge} {g:Option (Nat × Bool)}
theorem ahT {w:World} {b:Nat} {c c':Array aj} {e:TypeId} (h:w.heap[b]?=some (.cells c e (0,0))):rD b (.cells c' e (0,0)) w (w.setRow b c'):=by
 have hlt:b < w.heap.size:=(Array.getElem?_eq_some_iff.1 h).1
 refine ⟨rfl,rfl,rfl,by simp [World.setRow],?_,fun k hk=>?_⟩
 ·simp only [World.setRow,Array.getElem?_modify,au,h,Option.map_some]
 ·simp only [World.setRow,Array.getElem?_modify,ah (Ne.symm hk)]
theorem ags {t u e:TypeId} (hs:P.underlying t=some (.slice e)) (hz:(P.info? e).map (·.size)=some 1) {x y:Operand} {b i n:Nat} {s:ByteArray} {c:List aj} (H:St N D w0 F G0 G L T a w)
  (hw:Region.wanted ⟨some d,.call { callee:=.builtin .copy,args:=#[x,y],argTypes:=#[t,u] },ty,pos,aK,g⟩ (yielded ops a.tmps)=true) (hx:ev T x=some (.slice (some ⟨b,0,none⟩) n n)) (hy:ev T y=some (.string s)) (hi:L[i]?=some (b,.cells c.toArray e (0,0)))
  (hn:s.size=n) (hc:c.length=n) (hd:Nat.blt d N=true)
  (k:∀ a' w',St N D w0 F G0 G (L.set i (b,.cells (Lib.byteCells s.data.toList).toArray e (0,0))) ((d,.int .i64 n) :: T) a' w'→WL r P ops Q rest a' w') :
  WL r P ops Q (⟨some d,.call { callee:=.builtin .copy,args:=#[x,y],argTypes:=#[t,u] },ty,pos,aK,g⟩ :: rest) a w:=by
 have hb:=H.hp.own _ (kR hi)
 have hr:=Lib.run_copy_row_string (P:=P) w t u ty e b 0 n n s c.toArray e hs hz hb (by omega) (by simp;omega)
 have e1:(c.toArray.toList.take 0++Lib.byteCells s.data.toList++c.toArray.toList.drop (0+s.size))=Lib.byteCells s.data.toList:=by
  simp;omega
 rw [e1] at hr
 refine eY (v:=.int .i64 n) (w':=w.setRow b (Lib.byteCells s.data.toList).toArray) hw rfl ?_ (k _ _ (H.put hd _ (H.hp.upd hi (ahT hb))))
 simp [execOp,resolve,invoke,builtin,H.ev hx,H.ev hy,cO,hr,goInt,hn]
end
end
section
open Go.RowKit
theorem ZU:∀ args w,(callFunc 114 args).run prog w=.ok (.enter 114 args) w:=enters func114 rfl (by kernel_rfl)
theorem abj:∀ args w,(callFunc 55 args).run prog w=.ok (.enter 55 args) w:=enters func55 rfl (by kernel_rfl)
theorem abk:∀ args w,(callFunc 56 args).run prog w=.ok (.enter 56 args) w:=enters func56 rfl (by kernel_rfl)
theorem ahc:(prog.info? 5).map (·.size)=some 1:=by kernel_rfl
theorem ahr (G:GH) (w0:World) (hG:Hold G w0) (s:ByteArray) (hs:s.size≤1073741824):Calls prog 114 #[.string s] w0 (aZ w0 G fun u G'=>u=.string s):=by
 refine eN [(0,_)] func114 rfl ntmps114 rfl rfl hG ?_;intro a H;refine kP H (SR fun _ K1=>ak K1 rfl (SQ fun _ K2=>SR fun _ K3=>Rm rfl (Rv fC rfl (Rc rfl (Kz K3 (Cd rfl ?_ ?_)))))) <;> clear H K1 K3
 ·intro h6 a H
  try have p6:=dT h6
  have he:s=⟨#[]⟩:=by
   have h0:s.size=0:=by omega
   have h1:s.data.size=0:=h0;exact ByteArray.ext (Array.eq_empty_of_size_eq_zero h1)
  exact kP H (SR fun _ K4=>ak K4 rfl (LR results114 rfl fun H=>H.rt (by rw [he])))
 intro h6 a H
 try have p6:=dF h6
 refine kP H (Kc K2 (SR fun _ K5=>Rm rfl (Rv fC rfl ?_)));clear H K2;intro a H;refine agv s.size tN ES H wn rfl rfl rfl (by omega) (by omega) rfl ?_;clear H;intro b9 a w um H;refine kH H (ak K5 rfl (SR fun _ K6=>Rm rfl (Rm rfl ?_)));clear H K5;intro a H;refine ags (i:=0) tN ahc H wn rfl rfl rfl rfl (by simp) rfl ?_;clear H;intro a w H;dsimp only [List.set] at H;refine K6 _ _ ?_;clear K6;refine kP H (SR fun _ K7=>Rm rfl ?_);clear H;intro a H;refine EG tN ES 0 H wn rfl rfl rfl (by omega) rfl ?_;clear H;intro a H;refine kH H (Rm rfl (Rl tN rfl ?_));clear H;intro a H;have hl:s.data.toList.length=s.size:=(Go.Lib.size_eq s).symm;refine Pm (i:=0) s.data.toList PL (by kernel_rfl) (by intro e;rw [e] at hl;simp at hl;omega) (by omega) H wn rfl (by rw [hl];rfl) rfl (by rw [List.toList_toArray];exact jU (by rw [Go.Lib.byteCells_length];exact bP _)) rfl ?_;clear H;intro fz a w H;exact kH H (ak K7 rfl (LR results114 rfl fun H=>H.rt (by simp)))
theorem agJ (G:GH) (w0:World) (hG:Hold G w0) (s:ByteArray) (hs:s.size≤1073741824):Calls prog 56 #[.string s] w0 (aZ w0 G fun u G'=>u=.string s):=by
 refine eN [(0,_)] func56 rfl ntmps56 rfl rfl hG ?_;intro a H;refine kP H (SR fun _ K1=>ak K1 rfl (SR fun _ K2=>Rm rfl ?_));clear H K1;intro a H;refine s_call ZU H wn rfl (ahr _ _ H.ro s hs) rfl ?_;clear H;rintro v4 G4 a w rfl JC H;exact kH H (ak K2 rfl (LR results56 rfl fun H=>H.rt rfl))
def Al (s:ByteArray) (i:Nat):Bool:=decide (¬ mU .and .u8 (dG s i) 192=128)
def vQ (s:ByteArray) (k:Nat):List Nat:=(List.range k).filter (Al s)
theorem LG (s:ByteArray) (k:Nat):vQ s (k+1)=vQ s k++(if Al s k=true then [k] else []):=by
 rw [vQ,List.range_succ,List.filter_append,List.filter_cons]
 rfl
theorem X6 (s:ByteArray) (k:Nat):(vQ s k).length≤k:=by
 have:=List.length_filter_le (Al s) (List.range k)
 rwa [List.length_range] at this
def vR (s:ByteArray):List Int:=(vQ s s.size++[s.size]).map fun x:Nat=>(x:Int)
theorem QW (s:ByteArray):∀ (n k:Nat),s.size - k=n→k≤s.size→(vQ s s.size).length=(vQ s k).length+iw s k
 | 0,k,h,hk=>by
  obtain rfl:k=s.size:=by omega
  rw [iw,ah (by omega)];rfl
 | n+1,k,h,hk=>by
  rw [QW s n (k+1) (by omega) (by omega),LG,lC];have hc:=iw.eq_def s k;rw [au (show k < s.size by omega)] at hc;rw [hc]
  unfold Al
  by_cases hc:mU .and .u8 (dG s k) 192=128
  ·rw [au hc,ah (by rw [kF (fun h'=>h' hc)];decide)];simp only [List.length_nil];omega
  rw [ah hc,au (aG hc)];simp only [List.length_singleton];omega
theorem X4 (G:GH) (w0:World) (hG:Hold G w0) (s:ByteArray) (hs:s.size≤1073741824):Calls prog 55 #[.string s] w0 (aZ w0 G fun u G'=>av G' (.sl 1 ((vR s).map fun x=>[li x])) u):=by
 have hml:maxLen=9223372036854775807:=rfl;refine eN [(0,_)] func55 rfl ntmps55 rfl rfl hG ?_;intro a H;refine kP H (SR fun _ K1=>ak K1 rfl (SR fun _ K2=>ak K2 rfl (SQ fun _ K3=>SR fun _ K4=>Rm rfl (Rv fC rfl (Rm rfl (Kz K4 (SB ?_)))))));clear H K1 K2 K4;intro a H;skip;refine gq (ι:=Nat × aj × OL) (Tc:=[(0,_),(6,_)]) (Lc:=[]) (fun gh=>[(3,gh.2.1),(7,vi gh.1)]) (fun gh=>[]++gh.2.2) (fun gh=>G) (fun gh=>gh.1≤s.size∧eF 3 1 gh.2.1 (vQ s gh.1).length (((vQ s gh.1).map fun x:Nat=>(x:Int)).map vi) gh.2.2) (fun gh=>s.size - gh.1) ((0,.slice none 0 0,[])) (by exact (H).sub ⟨rfl,rfl,rfl,rfl,aD⟩) ?_ ?_
 ·exact ⟨gW _,eF.nil⟩
 clear H;intro gh a w hI H;obtain ⟨k,v,Lo⟩:=gh;dsimp only at hI H;obtain ⟨hk,hrw⟩:=hI;have hbl:=X6 s k;dsimp only [lca,aV] at H;refine kP H (SR fun _ K5=>Rc rfl (Kz K5 (SQ fun _ K6=>Cd rfl ?_ ?_))) <;> clear H K5
 ·intro h8 a H
  try have p8:=dT h8
  have hk1:k < s.size:=by omega
  refine kP H (Kc K6 (SQ fun _ K7=>SB (SR fun _ K8=>Rm rfl (ak K8 rfl (SR fun _ K9=>Rm rfl (Rm rfl ?_))))));clear H K6 K8;intro a H;refine mF _ fC H wn rfl rfl rfl (by first|assumption|omega) rfl ?_;clear H;intro a H;refine Hz rfl H wn rfl rfl rfl ?_;clear H;intro a H;refine kH H (Rc rfl (Kz K9 (Cd rfl ?_ ?_))) <;> clear H K9
  ·intro dX a H
   try have kJ:=dT dX
   refine kP H (SC (Rm rfl (Rm rfl ?_)));clear H;intro a H;refine ig nM aC [_] [_] H wn rfl rfl rfl rfl rfl (by intro i q h;match i,h with|0,h=>exact h|n+1,h=>simp at h) rfl rfl ?_;clear H;intro b17 a w adi H;refine tJ (Li:=[_]) (Lo:=Lo) (news:=[vi k]) nM aC rfl rfl H wn rfl rfl hrw rfl (H.hp.bT 0 rfl rfl) rfl (by omega) (by omega) rfl ?_;clear H;intro v18 Xy a w Ba H;refine kH H (aU K7 rfl (SC (Rd rfl (Rm rfl ?_))));clear H K7;intro a H;refine aH ?_;refine eO ((k+1,v18,Xy)) (by exact (H.bU (Pl:=[_]) (bN:=[]) [] (by decide) rfl).sub ⟨rfl,rfl,rfl,rfl,aD⟩) ?_ ?_
   ·(try dsimp only);exact ⟨by omega,by rw [LG,au (by unfold Al;rw [iY hk1];exact aG kJ),lC,sN,sN];exact Ba⟩
   first|omega|(dsimp only;omega)
  intro dX a H
  try have kJ:=dF dX
  refine kP H (Kc K7 (SC (Rd rfl (Rm rfl ?_))));clear H K7;intro a H;refine aH ?_;refine eO ((k+1,v,Lo)) (by exact (H).sub ⟨rfl,rfl,rfl,rfl,aD⟩) ?_ ?_
  ·(try dsimp only);exact ⟨by omega,by rw [LG,ah (by unfold Al;rw [iY hk1,kF kJ];decide),vN];exact hrw⟩
  first|omega|(dsimp only;omega)
 intro h8 a H
 try have p8:=dF h8
 refine fI ?_;refine K3 _ _ ?_;clear K3;refine kP H (SR fun _ aQ=>Rm rfl (Rm rfl (Rv fC rfl ?_)));clear H;intro a H;refine ig nM aC [_] [_] H wn rfl rfl rfl rfl rfl (by intro i q h;match i,h with|0,h=>exact h|n+1,h=>simp at h) rfl rfl ?_;clear H;intro XM a w adk H
 obtain rfl:k=s.size:=by omega
 refine tJ (Li:=[_]) (Lo:=Lo) (news:=[vi s.size]) nM aC rfl rfl H wn rfl rfl hrw rfl (H.hp.bT 0 rfl rfl) rfl (by omega) (by omega) rfl ?_;clear H;intro v24 Xz a w aeg H;obtain ⟨Gr,hmr,hrep,H⟩:=St.Au (Li:=[_]) (Lo:=Xz) H aeg (rows:=(vR s).map fun x=>[li x]) (by simp [vR]) (by have:=eD G (vR s);unfold vR at this ⊢;simpa using this);exact kH H (ak aQ rfl (LR results55 rfl fun H=>H.rt hrep))
theorem QV {G:GH} {l:List Int} {A:Option Addr} {n c k:Nat} {x:Int} (h:av G (.sl 1 (l.map fun x=>[li x])) (.slice A n c)) (hk:l[k]?=some x):∃ b o,A=some ⟨b,o,none⟩∧aI G b (o+k*1)=some (vi x):=by
 obtain ⟨b,o,cs,rfl,hcl,hrow,hr⟩:=h.at_ k [li x] (by rw [mM,hk];rfl);obtain ⟨v1,vs,rfl,⟨h1,-⟩,-⟩:=hr;subst h1;exact ⟨b,o,rfl,hrow 0 _ rfl⟩
end
section
open Go.RowKit
set_option maxRecDepth 10000 in
theorem XL:∀ X:Fin 256,mU .and .u8 ((X.val:Nat):Int) 192=128↔(128≤X.val∧X.val≤191):=by decide
theorem X5 {s:ByteArray} {i:Nat} (h:i < s.size):Al s i=xP s i:=by
 have h1:=XL ⟨s[i].toNat,s[i].toNat_lt⟩;dsimp only at h1
 unfold Al xP
 rw [iY h];exact decide_eq_decide.2 (by rw [h1];omega)
theorem IE {s:ByteArray} (hv:gU s=true):vR s=(Ev s).map fun x:Nat=>(x:Int):=by
 rw [← XZ hv,vR,LD,vQ,List.filter_congr fun i hi=>X5 (qP.1 hi)]
theorem Vd {s:ByteArray} (hv:gU s=true):(kN s).length=jg s:=by
 have h1:=ay List.length (IE hv);have h2:=QW s s.size 0 rfl (gW _);rw [show (vQ s 0).length=0 from rfl,mQ] at h2
 unfold jg
 rw [au hv,← h2]
 simp [vR,Ev] at h1
 omega
theorem ahe (G:GH) (w0:World) (hG:Hold G w0) (s:ByteArray) (hs:s.size≤1073741824) (hv:gU s=true) (u vv:Nat) (huv:u≤vv) (hvl:vv≤jg s) :
  Calls prog 16 #[.string s,vi u,vi vv] w0 (aZ w0 G fun r G'=>r=.tuple #[.string (s.extract (fO s 0 u) (fO s 0 vv)),vi 0]):=by
 have hf:gH s 0 < 0:=by simpa [gU] using hv
 have hrn:=Vd hv
 have hol:(vR s).length=jg s+1:=by rw [IE hv];simp [Ev,hrn]
 have hau:=Dq u 0 hf (gW _);have hav:=Dq vv 0 hf (gW _)
 have aer:fO s 0 u≤fO s 0 vv:=by
  have h1:=Ll (s:=s) u 0 (vv - u);rw [show u+(vv - u)=vv by omega] at h1;rw [h1];exact (Dq (vv - u) (fO s 0 u) (Lm u 0 hf (gW _)) hau.2).1
 have eu:(vR s)[u]?=some ((fO s 0 u:Nat):Int):=by rw [IE hv,mM,UL hv (show u≤(kN s).length by omega)];rfl
 have ev:(vR s)[vv]?=some ((fO s 0 vv:Nat):Int):=by rw [IE hv,mM,UL hv (show vv≤(kN s).length by omega)];rfl
 have hcz:=yL s;refine eN [(0,_),(1,_),(2,_)] func16 rfl ntmps16 rfl rfl hG ?_;intro a H;refine kP H (SR fun _ K1=>Ra rfl (ak K1 rfl (SQ fun _ K2=>SR fun _ K3=>Rm rfl ?_)));clear H K1;intro a H;refine s_call DL H wn rfl (EY _ _ H.ro s (by omega)) rfl ?_;clear H;rintro v10 _ a w ⟨rfl,rfl⟩ - H;rw [hv] at H;refine kH H (Rn rfl (Kz K3 (Cd rfl ?_ ?_))) <;> clear H K3
 ·intro h11 a H
  exact absurd h11 (by decide)
 intro h11 a H
 try have qC:=dF h11
 refine kP H (Kc K2 (SR fun _ K4=>Rm rfl ?_));clear H K2;intro a H;refine s_call abj H wn rfl (X4 _ _ H.ro s hs) rfl ?_;clear H;rintro v13 vK a w JI pR H;obtain ⟨bA,bn,bc,rfl⟩:=JI.form;have hbn:=JI.len;rw [bW,hol] at hbn;subst hbn;refine kH H (ak K4 rfl (SQ fun _ K5=>SR fun _ K6=>Rm rfl (Rc rfl (Rm rfl (Sp 16 rfl ?_ ?_))))) <;> clear H K4
 ·intro h16 a H
  try have p16:=dT h16
  exfalso;omega
 intro h16 a H
 try have p16:=dF h16
 refine kH H (YM h16 rfl (YM h16 rfl (YC h16 rfl (Pf h16 rfl (Rm rfl (Sp 21 rfl ?_ ?_)))))) <;> clear H
 ·intro h21 a H
  try have nI:=dT h21
  exfalso;omega
 intro h21 a H
 try have nI:=dF h21
 refine kH H (YM h21 rfl (YM h21 rfl (YL nM h21 rfl (YC h21 rfl (Pf h21 rfl (Kz K6 (Cd rfl ?_ ?_))))))) <;> clear H K6
 ·intro iH a H
  try have p26:=dT iH
  exfalso;omega
 intro iH a H
 try have p26:=dF iH
 refine fQ ?_;refine K5 _ _ ?_;clear K5;refine bg (fun _ K7=>?_);obtain ⟨lb,lo,rfl,gu⟩:=QV JI eu;obtain ⟨_,_,e1,gv⟩:=QV JI ev
 injection e1 with e1;injection e1 with e2 e3;subst e2;subst e3
 refine dI hmx [[],[],[],[1,2],[1,2,3],[],[],[5,6],[5,6,7],(ra 0 9),(ra 0 10),(ra 0 11),(ra 0 12)] [11,12] (by kernel_rfl) [.string s,.slice (some ⟨lb,lo,none⟩) (jg s+1) bc,vi u,(aJ lb (lo+u*1)),vi ((fO s 0 u:Nat):Int),.slice (some ⟨lb,lo,none⟩) (jg s+1) bc,vi vv,(aJ lb (lo+vv*1)),vi ((fO s 0 vv:Nat):Int),.string (s.extract (fO s 0 u) (fO s 0 vv)),.string (s.extract (fO s 0 u) (fO s 0 vv))] H (aF ?_ ?_ ?_ ?_ (aF ?_ ?_ ?_ ?_ (aF ?_ ?_ ?_ (bJ rfl) (bM (bJ rfl) dP)))) ?_
 ·intro dW a w G1 _ dw hc hG HT hv;have H:=HT;clear dw;have Hb:=H.full;have H:=Hb;clear hc;refine kH H (Rm rfl ?_);clear H;intro a H;refine aH ⟨rfl,?_⟩;exact lT (by kernel_rfl) (fun _ _ _ _ _ h=>h) rfl rfl HT Hb hG hv (fun _ _ h=>h) (rfl) H
 ·intro dW a w G1 _ dw hc hG HT hv;have H:=HT;clear dw;have Hb:=H.full;have H:=Hb;clear hc;refine kH H (Rm rfl ?_);clear H;intro a H;refine aH ⟨rfl,?_⟩;exact lT (by kernel_rfl) (fun _ _ _ _ _ h=>h) rfl rfl HT Hb hG hv (fun _ _ h=>h) (rfl) H
 ·intro dW a w G1 _ dw hc hG HT hv;have H:=HT;clear dw;have Hb:=H.full;have H:=Hb;clear hc;refine kH H (Rm rfl ?_);clear H;intro a H;refine aH ⟨rfl,?_⟩;exact lT (by kernel_rfl) (fun _ _ _ _ _ h=>h) rfl rfl HT Hb hG hv (fun _ _ h=>h) (rfl) H
 ·intro dW a w G1 _ dw hc hG HT hv;have H:=HT;clear dw;have H:=H.aT (hv 1 28 (hc 1 (by decide)) rfl) rfl;have H:=H.aT (hv 2 29 (hc 2 (by decide)) rfl) rfl;have Hb:=H.full;have H:=Hb;clear hc;refine EG nM aC u H wn rfl rfl rfl (by omega) rfl ?_;clear H;intro a H;refine aH ⟨rfl,?_⟩;exact lT (by kernel_rfl) (fun _ _ _ _ _ h=>h) rfl rfl HT Hb hG hv (fun _ _ h=>h) (rfl) H
 ·intro dW a w G1 _ dw hc hG HT hv;have H:=HT;clear dw;have H:=H.aT (hv 3 30 (hc 3 (by decide)) rfl) rfl;have Hb:=H.full;have H:=Hb;clear hc;refine kH H (Rg aC rfl (aL hG gu) ?_);clear H;intro a H;refine aH ⟨rfl,?_⟩;exact lT (by kernel_rfl) (fun _ _ _ _ _ h=>h) rfl rfl HT Hb hG hv (fun _ _ h=>h) (rfl) H
 ·intro dW a w G1 _ dw hc hG HT hv;have H:=HT;clear dw;have Hb:=H.full;have H:=Hb;clear hc;refine kH H (Rm rfl ?_);clear H;intro a H;refine aH ⟨rfl,?_⟩;exact lT (by kernel_rfl) (fun _ _ _ _ _ h=>h) rfl rfl HT Hb hG hv (fun _ _ h=>h) (rfl) H
 ·intro dW a w G1 _ dw hc hG HT hv;have H:=HT;clear dw;have Hb:=H.full;have H:=Hb;clear hc;refine kH H (Rm rfl ?_);clear H;intro a H;refine aH ⟨rfl,?_⟩;exact lT (by kernel_rfl) (fun _ _ _ _ _ h=>h) rfl rfl HT Hb hG hv (fun _ _ h=>h) (rfl) H
 ·intro dW a w G1 _ dw hc hG HT hv;have H:=HT;clear dw;have H:=H.aT (hv 5 32 (hc 5 (by decide)) rfl) rfl;have H:=H.aT (hv 6 33 (hc 6 (by decide)) rfl) rfl;have Hb:=H.full;have H:=Hb;clear hc;refine EG nM aC vv H wn rfl rfl rfl (by omega) rfl ?_;clear H;intro a H;refine aH ⟨rfl,?_⟩;exact lT (by kernel_rfl) (fun _ _ _ _ _ h=>h) rfl rfl HT Hb hG hv (fun _ _ h=>h) (rfl) H
 ·intro dW a w G1 _ dw hc hG HT hv;have H:=HT;clear dw;have H:=H.aT (hv 7 34 (hc 7 (by decide)) rfl) rfl;have Hb:=H.full;have H:=Hb;clear hc;refine kH H (Rg aC rfl (aL hG gv) ?_);clear H;intro a H;refine aH ⟨rfl,?_⟩;exact lT (by kernel_rfl) (fun _ _ _ _ _ h=>h) rfl rfl HT Hb hG hv (fun _ _ h=>h) (rfl) H
 ·intro dW a w G1 _ dw hc hG HT hv;have H:=HT;clear dw;have H:=H.aT (hv 0 27 (hc 0 (by decide)) rfl) rfl;have H:=H.aT (hv 4 31 (hc 4 (by decide)) rfl) rfl;have H:=H.aT (hv 8 35 (hc 8 (by decide)) rfl) rfl;have Hb:=H.full;have H:=Hb;clear hc;refine agE (fO s 0 u) (fO s 0 vv) fC H wn rfl rfl rfl rfl rfl aer hav.2 rfl ?_;clear H;intro a H;refine aH ⟨rfl,?_⟩;exact lT (by kernel_rfl) (fun _ _ _ _ _ h=>h) rfl rfl HT Hb hG hv (fun _ _ h=>h) (rfl) H
 ·intro dW a w G1 _ dw hc hG HT hv;have H:=HT;clear dw;have H:=H.aT (hv 9 36 (hc 9 (by decide)) rfl) rfl;have Hb:=H.full;have H:=Hb;clear hc;refine s_call abk H wn rfl (agJ _ _ H.ro _ (by rw [ByteArray.size_extract];omega)) rfl ?_;clear H;rintro v37 G37 a w rfl acR H;refine aH ⟨rfl,?_⟩;exact lT (by kernel_rfl) (fun _ _ _ _ _ h=>h) rfl rfl HT Hb hG hv acR (rfl) H
 clear H;intro a w G jF H hv;have H:=H.aT (hv 10 37 rfl rfl) rfl;clear hv;refine kH H (Ra rfl (Ra rfl ?_));clear H;intro a H;refine aH ⟨rfl,?_⟩;refine K7 _ _ ?_;clear K7;refine bF ?_;refine (dL H results16 (.cons (aN H rfl) (.cons (aN H rfl) .nil)) ?_).1;exact H.rt rfl
end
section
open Go.RowKit
mutual
theorem aiu (note:Bool) (t:Int) {F:jf}:∀ x:aB,Ad x→F∈wS note t x→iG F.items
 | .mk k c i tx h fl r,hx,hF=>by
  have hf:=KM true t (F:=F) fl hx.fl;have hr:=WC note t (F:=F) r hx.rw;have hok:=hx.fl;rw [wS] at hF
  by_cases h6:k=6
  ·rw [au h6] at hF
   rcases nS.1 hF with rfl|hF
   ·exact hok
   exact hf hF
  rw [ah h6] at hF
  by_cases h7:k=7
  ·rw [au h7] at hF;exact hr hF
  rw [ah h7] at hF;cases hF
theorem KM (note:Bool) (t:Int) {F:jf}:∀ l:List aB,iG l→F∈iT note t l→iG F.items
 | [],_,hF=>by rw [iT] at hF;cases hF
 | x :: l,hl,hF=>by
  obtain ⟨hx,hl⟩:=hl.head;rw [iT] at hF
  rcases sK.1 hF with hF|hF
  ·exact aiu note t x hx hF
  exact KM note t l hl hF
theorem WC (note:Bool) (t:Int) {F:jf}:∀ l:List bC,(∀ r∈l,∀ c∈r.cells,iG c.flow)→F∈pz note t l→iG F.items
 | [],_,hF=>by rw [pz] at hF;cases hF
 | x :: l,hl,hF=>by
  rw [pz] at hF
  rcases sK.1 hF with hF|hF
  ·exact aiv note t x (hl x jC) hF
  exact WC note t l (fun r hr=>hl r (rG _ hr)) hF
theorem aiv (note:Bool) (t:Int) {F:jf}:∀ x:bC,(∀ c∈x.cells,iG c.flow)→F∈wT note t x→iG F.items
 | .mk h cs,hx,hF=>by rw [wT] at hF;exact WB note t cs hx hF
theorem WB (note:Bool) (t:Int) {F:jf}:∀ l:List aY,(∀ c∈l,iG c.flow)→F∈pV note t l→iG F.items
 | [],_,hF=>by rw [pV] at hF;cases hF
 | x :: l,hl,hF=>by
  rw [pV] at hF
  rcases sK.1 hF with hF|hF
  ·exact ait note t x (hl x jC) hF
  exact WB note t l (fun c hc=>hl c (rG _ hc)) hF
theorem ait (note:Bool) (t:Int) {F:jf}:∀ x:aY,iG x.flow→F∈wR note t x→iG F.items
 | .mk i h fl,hx,hF=>by
  have hok:iG fl:=hx;rw [wR] at hF
  rcases nS.1 hF with rfl|hF
  ·exact hok
  exact KM note (t+1) fl hok hF
end
theorem acD {l:List aB} (h:iG l) {id:Int} {L:List aB} (hf:jW l id=some L):iG L:=by
 unfold jW at hf
 obtain ⟨F,hF,rfl⟩:=kS.1 hf;have hm:=List.mem_of_find?_eq_some hF
 rcases nS.1 hm with rfl|hm
 ·exact h
 exact KM false 0 l h hm
end
section
open Go.RowKit
theorem UM:∀ {l:List aB} {x:aB},iG l→x∈l→mq x=0
 | y :: l,x,h,hx=>by
  obtain ⟨C,body,note,t,s,s',e⟩:=h;rw [jk] at e;obtain ⟨e1,e⟩:=nu e
  rcases nS.1 hx with rfl|hx
  ·have e2:dV C body note t x s=(0,(dV C body note t x s).2):=Prod.ext e1 rfl
   generalize (dV C body note t x s).2=s2 at e2
   rw [OA] at e2;exact (nu e2).1
  exact UM ⟨C,body,note,t,_,_,e⟩ hx
theorem Zc:∀ b:Fin 256,mU .and .u8 (b.val:Int) 192=128→128≤b.val∧b.val < 194:=by decide +kernel
theorem acy {s:ByteArray} (hv:gU s=true) (hs:0 < s.size):¬ mU .and .u8 (dG s 0) 192=128:=by
 intro h;rw [iY hs] at h;obtain ⟨h1,h2⟩:=Zc ⟨_,UInt8.toNat_lt _⟩ h;dsimp only at h1 h2
 unfold gU at hv
 rw [gH,dif_pos hs] at hv
 have hd:(gG s 0).2.2=false:=by
  unfold gG
  simp only [iY hs]
  rw [au (by simp only [dN];rw [ah (by omega),au (by omega)])]
 rw [dif_neg (by rw [hd];decide)] at hv
 simp at hv
theorem ahJ {l:List aB} {x:aB} (h:iG l) (hx:x∈l):1≤fF x:=by
 have hf:=UM h hx;have hv:=(h.mem hx).txt
 unfold fF
 by_cases h1:x.kind=1
 ·rw [au h1]
  unfold mq at hf
  split at hf
  ·cases hf
  split at hf
  ·cases hf
  split at hf
  ·cases hf
  split at hf
  ·cases hf
  rename_i h2
  rw [kT (Or.inl h1),Ai] at h2
  have hs:0 < x.text.size:=by
   rcases Nat.eq_zero_or_pos x.text.size with h0|h0
   ·exfalso;apply h2
    have:x.text=⟨#[]⟩:=by
     apply ByteArray.ext
     exact Array.eq_empty_of_size_eq_zero h0
    rw [this];unfold uY;exact beq_self_eq_true _
   exact h0
  have hb:=acy hv hs
  unfold jg
  rw [au hv,iw,au hs,ah hb]
  omega
 rw [ah h1];exact bP _
theorem UN {l:List aB} (h:iG l):∀ x∈l,x.kind=1→x.text.size≠0:=by
 intro x hx h1 h0;have hu:=ahJ h hx
 unfold fF at hu
 rw [au h1] at hu;have:=yL x.text
 omega
end
section
open Go.RowKit
section
variable {N:Nat} {D:List Deferred} {w0:World} {F:Nat→Prop} {G0 G:GH} {L Lo:OL} {T:List (Nat × aj)}
variable {r:Option Nat} {P:Program} {ops:Array Oper} {Q:Exit→Act→World→Prop} {rest:List Oper} {a:Act} {w:World}
variable {d:Nat} {ty:TypeId} {pos:String} {aK:Array Edge} {g:Option (Nat × Bool)}
end
end
section
open Go.RowKit
theorem eF.ptr {e sz n c:Nat} {A:Option Addr} {xs:List aj} {Lo:OL} (h:eF e sz (.slice A n c) n xs Lo) (hn:0 < n):∃ b,A=some ⟨b,0,none⟩:=by
 rcases h.2 with ⟨_,h0,_⟩|⟨b,cap,cur,he,_⟩
 ·omega
 ·injection he with e1;exact ⟨b,e1⟩
theorem eF.at {w0 w:World} {F:Nat→Prop} {G0 G:GH} {L Lo:OL} {e sz n c b o:Nat} {xs:List aj} (h:eF e sz (.slice (some ⟨b,o,none⟩) n c) n xs Lo) (H:Hp w0 F G0 G L w) (hsub:∀ x∈Lo,x∈L) {i:Nat} {u:aj} (hi:xs[i]?=some u):w.cell? ⟨b,i,none⟩=some u:=by
 rcases h.2 with ⟨h1,_⟩|⟨b2,cap,cur,he,hl,h1,h2,h3,h4⟩
 ·cases h1
 ·injection he with e1
  injection e1 with e1
  injection e1 with e1
  subst e1
  refine H.UD (c:=cur) (e:=e) (fz:=(0,0)) (hsub _ (by rw [hl];exact List.mem_singleton_self _)) ?_
  have hx:i < xs.length:=(jr.1 hi).1
  rw [h.1] at hx
  rw [← h4,uR,au hx,Array.getElem?_toList] at hi
  exact hi
theorem flat_get {sz:Nat}:∀ {css:List (List aj)} {k:Nat} (hk:k < css.length) (h:∀ cs∈css,cs.length=sz) (j:Nat),j < sz→css.flatten[k*sz+j]?=css[k][j]?
 | c :: css,0,_,h,j,hj=>by
  rw [List.flatten_cons,Nat.zero_mul,mQ,List.getElem_cons_zero,yH (by rw [h c jC];exact hj)]
 | c :: css,k+1,hk,h,j,hj=>by
  have ih:=flat_get (css:=css) (k:=k) (by simpa using hk) (fun cs hc=>h cs (rG _ hc)) j hj
  rw [List.flatten_cons,List.getElem_cons_succ,xk (by rw [h c jC,Nat.succ_mul];omega),h c jC,show (k+1)*sz+j - sz=k*sz+j by rw [Nat.succ_mul];omega]
  exact ih
theorem gJ.at {G:GH} {sz:Nat} {rows:List (List Dat)} {xs:List aj} (h:gJ G sz rows xs) {k:Nat} {r:List Dat} (hk:rows[k]?=some r):∃ cs,cs.length=sz∧(∀ j u,cs[j]?=some u→xs[k*sz+j]?=some u)∧aS G r cs:=by
 obtain ⟨css,rfl,h2,h3⟩:=h
 have hkl:k < css.length:=by rw [h2];exact (jr.1 hk).1
 obtain ⟨hr,hl⟩:=h3 k r css[k] hk (gy hkl)
 refine ⟨css[k],hl,fun j u hj=>?_,hr⟩
 rw [flat_get hkl (fun cs hc=>?_) j (by rw [← hl];exact (jr.1 hj).1)]
 ·exact hj
 ·obtain ⟨i,hi,rfl⟩:=List.getElem_of_mem hc
  exact (h3 i rows[i] css[i] (gy (by omega)) (gy hi)).2
end
section
open Go.RowKit
theorem Jp {G:GH} {b:Nat} {cs:List aj} {e:TypeId} {q:Nat × Nat} (h:G b=some (.cells cs.toArray e q)) (k:Nat) (ds:List aj) (hd:ds=(cs.drop k).take ds.length) (j:Nat) (v:aj) (hj:ds[j]?=some v):aI G b (k+j)=some v:=by
 unfold aI
 rw [h]
 show cs.toArray[k+j]?=some v
 rw [hd,uR] at hj
 split at hj
 ·simpa using hj
 cases hj
end
section
open Go.RowKit
theorem PG:Ty prog 51 3 24 [.int .i64 0,.int .i64 0,.int .i64 0] true:=⟨by kernel_rfl,by kernel_rfl⟩
theorem PK:prog.underlying 110=some (.slice 21):=by kernel_rfl
theorem VU:prog.underlying 21=some (.int .i32):=by kernel_rfl
theorem ahC:Ty prog 21 1 4 [.int .i32 0] false:=⟨by kernel_rfl,by kernel_rfl⟩
theorem R5:∀ args w,(callFunc 17 args).run prog w=.ok (.enter 17 args) w:=enters func17 rfl (by kernel_rfl)
section
variable {N:Nat} {D:List Deferred} {w0:World} {F:Nat→Prop} {G0 G:GH} {L:OL} {T:List (Nat × aj)}
variable {r:Option Nat} {P:Program} {ops:Array Oper} {Q:Exit→Act→World→Prop} {rest:List Oper} {a:Act} {w:World}
variable {d:Nat} {ty:TypeId} {pos:String} {aK:Array Edge} {g:Option (Nat × Bool)}
theorem agy {t u e:TypeId} {x:Operand} {A:Option Addr} {n c:Nat} (zs:List Int) (ht:P.underlying t=some (.slice e)) (he:P.underlying e=some (.int .i32)) (hu:P.underlying u=some .string) (H:St N D w0 F G0 G L T a w) (hw:Region.wanted ⟨some d,.convert t u x,ty,pos,aK,g⟩ (yielded ops a.tmps)=true) (hx:ev T x=some (.slice A n c)) (hn:zs.length=n)
  (hc:n≠0→∃ b o,A=some ⟨b,o,none⟩∧∀ j (h:j < zs.length),w.cell? ⟨b,o+j,none⟩=some (.int .i32 zs[j])) (hd:Nat.blt d N=true)
  (k:∀ a',St N D w0 F G0 G L ((d,.string (runesBytes zs)) :: T) a' w→WL r P ops Q rest a' w):WL r P ops Q (⟨some d,.convert t u x,ty,pos,aK,g⟩ :: rest) a w:=by
 by_cases h0:n=0
 ·subst h0;obtain rfl:=List.eq_nil_of_length_eq_zero hn
  have hr:(convert t u (.slice A 0 c)).run P w=.ok (.string (runesBytes [])) w:=by
   cases A with
   | none=>exact run_convert_runes_nil (P:=P) w t u e 0 c ht he hu
   | some q=>exact run_convert_runes (P:=P) w t u e q 0 c [] (bP _) ht he hu (fun j hj=>by cases hj)
  refine eY (v:=.string (runesBytes [])) (w':=w) hw rfl ?_ (k _ (H.put hd _ H.hp))
  simp only [execOp,H.ev hx,cO,hr,kE,mO]
 obtain ⟨b,o,rfl,hcell⟩:=hc h0;exact agx zs ht he hu H hw hx hn hcell hd k
end
def CW (l:List aB) (f:Int):ByteArray:=⟨(mI ((jW l f).getD [])).toArray⟩
def CJ (l:List aB) (f fr jB:Int):ByteArray:=if lS l f fr jB=0 then (CW l f).extract (fO (CW l f) 0 fr.toNat) (fO (CW l f) 0 jB.toNat) else ⟨#[]⟩
theorem Rq {l:List aB} (hok:iG l) {f fr jB:Int} (h:lS l f fr jB=0):∃ L,jW l f=some L∧iG L∧0≤fr∧fr≤jB∧jB≤(oW L:Int):=by
 unfold lS at h
 split at h
 ·rename_i h1
  obtain ⟨L,hL⟩:=Option.isSome_iff_exists.1 h1;have AZ:=acD hok hL;rw [hL] at h
  split at h
  ·cases h
  rename_i h2
  have h3:qV L=oW L:=AZ.len
  simp only [Option.getD_some] at h2
  exact ⟨L,rfl.trans hL,AZ,by omega,by omega,by omega⟩
 cases h
set_option maxHeartbeats 1000000 in
theorem afM (G:GH) (w0:World) (hG:Hold G w0) (D:jQ) (l:List aB) (f fr jB:Int) (hv:av G (.sl 11 (l.map aB.dat)) (fJ D.f)) (hok:iG l) (hz:bG l≤1073741824) :
  Calls prog 13 #[D.val,.agg #[vi f,vi fr,vi jB]] w0 (aZ w0 G fun u G'=>u=.tuple #[.string (CJ l f fr jB),vi (lS l f fr jB)]):=by
 refine eN [(0,_),(1,_)] func13 rfl ntmps13 rfl rfl hG ?_;intro a H;refine bK (fun _ K1=>?_);refine dz (cs:=[_,_,_,_,_,_,_,_,_,_,_]) H wn rfl rfl rfl ?_;clear H;intro b2 a w hb2 H;refine dz (cs:=[_,_,_]) H wn rfl rfl rfl ?_;clear H;intro b3 a w hb3 H;refine kH H (Ra rfl (ak K1 rfl (SQ fun _ K2=>SQ fun _ K3=>?_)));clear H K1;intro a H;obtain ⟨Xq,NV,wu,H⟩:=H.dQ;obtain ⟨Ga,GQ,hb2',H⟩:=H.dQ;have hga:=fun j v hj=>Jp hb2' 0 D.cells rfl j v hj;have kX:∀ j v,[vi f,vi fr,vi jB][j]?=some v→aI Ga b3 (0+j)=some v:=fun j v hj=>aL GQ (Jp wu 0 [vi f,vi fr,vi jB] rfl j v hj);replace hv:=(hv.mono NV).mono GQ;refine mh ?_;refine aW jl (cs:=D.cells) H wn rfl rfl (fun j v hj=>H.hp.aI (hga j v hj)) rfl ?_;clear H;intro a H;refine aW PG (cs:=[vi f,vi fr,vi jB]) H wn rfl rfl (fun j v hj=>H.hp.aI (kX j v hj)) rfl ?_;clear H;intro a H;refine s_call Sd H wn rfl (Rj _ _ H.ro D l f fr jB hv (by omega)) rfl ?_;clear H;rintro v12 yx a w rfl uq H;replace hv:=hv.mono uq;replace hga:=fun j v hj=>aL uq (hga j v hj);replace kX:=fun j v hj=>aL uq (kX j v hj);refine kH H (aU K3 rfl (SR fun _ K4=>Rm rfl (Rc rfl (Kz K4 (Cd rfl ?_ ?_))))) <;> clear H K3 K4
 ·intro dX a H
  try have kJ:=dT dX
  refine kP H (SR fun _ K5=>Rm rfl (Ra rfl (ak K5 rfl ?_)));clear H K5;intro a H;refine bF ?_;refine (dL H results13 (.cons (aN H rfl) (.cons (aN H rfl) .nil)) ?_).1;exact H.rt (by rw [CJ,ah kJ])
 intro dX a H
 try have kJ:=dF dX
 have hc0:lS l f fr jB=0:=by omega
 obtain ⟨L,hL,AZ,hr1,hr2,hr3⟩:=Rq hok hc0;have hLz:=Nat.le_trans (Jm hL) hz;obtain ⟨Em,Ed⟩:=Pz AZ;have hrn:=Vd Em;have hTl:=Ky L;have hTs:(⟨(mI L).toArray⟩:ByteArray).size=(mI L).length:=List.size_toArray;obtain ⟨T,hT⟩:∃ T:ByteArray,T=⟨(mI L).toArray⟩:=⟨_,rfl⟩
 have htx:CW l f=T:=by rw [CW,hL,hT];rfl
 rw [← hT] at Em Ed hrn hTs;obtain ⟨u,hu⟩:∃ u:Nat,fr=(u:Int):=⟨fr.toNat,by omega⟩;obtain ⟨vv,hvv⟩:∃ u:Nat,jB=(u:Int):=⟨jB.toNat,by omega⟩;have hut:=ahL Em (u:=u) (v:=vv) (by omega)
 have hps:CJ l f fr jB=T.extract (fO T 0 u) (fO T 0 vv):=by
  rw [CJ,au hc0,htx,hu,hvv,Int.toNat_natCast,Int.toNat_natCast]
 refine fQ ?_;refine K2 _ _ ?_;clear K2;refine bK (fun _ K6=>?_);refine aW jl (cs:=D.cells) H wn rfl rfl (fun j v hj=>H.hp.aI (hga j v hj)) rfl ?_;clear H;intro a H;refine kH H (Rf Jh rfl (Rg aC rfl (kX 0 _ rfl) ?_));clear H;intro a H;refine s_call FT H wn rfl (Gf _ _ H.ro D l f hv (by omega)) rfl ?_;clear H;rintro v20 Db a w ⟨x20,rfl,Ot⟩ AL H;rw [hL,Option.getD_some] at Ot;obtain ⟨A20,n20,c20,rfl⟩:=Ot.form;replace kX:=fun j v hj=>aL AL (kX j v hj);refine kH H (Rm rfl ?_);clear H;intro a H;(iterate 2 refine jy H wn rfl rfl rfl ?_;clear H;intro a H);refine kH H (Ra rfl (ak K6 rfl (SR fun _ K7=>Rm rfl ?_)));clear H K6;intro a H;refine s_call R5 H wn rfl (Vh _ _ H.ro L _ Ot hLz (UN AZ)) rfl ?_;clear H;rintro v24 Dc a w rfl xL H;rw [← hT] at H;replace kX:=fun j v hj=>aL xL (kX j v hj);refine agz fC PK VU H wn rfl (by omega) rfl ?_;clear H;intro v25 aiA a w Oe H;obtain ⟨A25,c25,rfl,hc25,-⟩:=Oe.shape;rw [hrn,Ed] at hc25;refine kH H (ak K7 rfl (SR fun _ K8=>Rm rfl (Rf DZ rfl (Rg aC rfl (kX 1 _ rfl) (Rf D5 rfl (Rg aC rfl (kX 2 _ rfl) ?_))))));clear H K7;intro a H;refine agC PK ahC u vv H wn rfl rfl rfl hu hvv (by omega) (by omega) rfl ?_;clear H;intro a H
 refine agy ((((kN T).map fun x=>(x.2:Int)).drop u).take (vv - u)) PK VU fC H wn rfl (by simp only [List.length_take,List.length_drop,bW,hrn,Ed];omega) (fun hne=>by
   obtain ⟨b,rfl⟩:=Oe.ptr (by rw [hrn,Ed];omega);refine ⟨b,u,by rw [ah (by omega),Option.map_some,add_lit,mQ,Nat.mul_one],fun j hj=>?_⟩;refine Oe.at H.hp (fun x hx=>by simpa using hx) ?_
   simp only [List.length_take,List.length_drop,bW] at hj
   rw [mM,gy (by omega)]
   simp) rfl ?_;clear H;intro a H
 rw [hut] at H;refine kH H (Ra rfl (ak K8 rfl ?_));clear H K8;intro a H;refine bF ?_;refine (dL H results13 (.cons (aN H rfl) (.cons (aN H rfl) .nil)) ?_).1;exact H.rt (by rw [hps,hc0])
end
section
open Go.RowKit
theorem RY:∀ args w,(callFunc 11 args).run prog w=.ok (.enter 11 args) w:=enters func11 rfl (by kernel_rfl)
theorem Z7:∀ args w,(callFunc 12 args).run prog w=.ok (.enter 12 args) w:=enters func12 rfl (by kernel_rfl)
theorem aaf:∀ args w,(callFunc 13 args).run prog w=.ok (.enter 13 args) w:=enters func13 rfl (by kernel_rfl)
theorem aam:∀ args w,(callFunc 14 args).run prog w=.ok (.enter 14 args) w:=enters func14 rfl (by kernel_rfl)
theorem aay:∀ args w,(callFunc 16 args).run prog w=.ok (.enter 16 args) w:=enters func16 rfl (by kernel_rfl)
set_option maxHeartbeats 1000000 in
theorem ahw (G:GH) (w0:World) (hG:Hold G w0) (D:jQ) (d:vJ) (hR:Bv G D d) (hz:Ii d) (f fr jB:Int) :
  Calls prog 4 #[D.val,.agg #[vi f,vi fr,vi jB]] w0 (aZ w0 G fun u G'=>u=.bool true):=by
 have zu:=hz.fl;refine eN [(0,_),(1,_)] func4 rfl ntmps4 rfl rfl hG ?_;intro a H;refine bK (fun _ K1=>?_);refine dz (cs:=[_,_,_,_,_,_,_,_,_,_,_]) H wn rfl rfl rfl ?_;clear H;intro b2 a w hb2 H;refine dz (cs:=[_,_,_]) H wn rfl rfl rfl ?_;clear H;intro b3 a w hb3 H;refine kH H (ak K1 rfl (SQ fun _ K2=>SQ fun _ K3=>?_));clear H K1;intro a H;obtain ⟨Xq,NV,wu,H⟩:=H.dQ;obtain ⟨Ga,GQ,hb2',H⟩:=H.dQ;have hga:=fun j v hj=>Jp hb2' 0 D.cells rfl j v hj;have kX:∀ j v,[vi f,vi fr,vi jB][j]?=some v→aI Ga b3 (0+j)=some v:=fun j v hj=>aL GQ (Jp wu 0 [vi f,vi fr,vi jB] rfl j v hj);replace hR:=(hR.mono NV).mono GQ;refine mh ?_;refine s_call RY H wn rfl (Uo _ _ H.ro) rfl ?_;clear H;rintro v12 yx a w rfl uq H;replace hR:=hR.mono uq;replace hga:=fun j v hj=>aL uq (hga j v hj);replace kX:=fun j v hj=>aL uq (kX j v hj);refine kH H (Rn rfl (Rm rfl (Sp 14 rfl ?_ ?_))) <;> clear H
 ·intro dX a H
  exact absurd dX (by decide)
 intro dX a H
 try have kJ:=dF dX
 refine aW jl (cs:=D.cells) H (wg H rfl rfl dX) rfl rfl (fun j v hj=>H.hp.aI (hga j v hj)) rfl ?_;clear H;intro a H;refine s_call Z7 H (wg H rfl rfl dX) rfl (ahf _ _ H.ro D d hR hz) rfl ?_;clear H;rintro v16 sG a w ⟨b16,rfl,Tx⟩ qw H;replace hR:=hR.mono qw;replace hga:=fun j v hj=>aL qw (hga j v hj);replace kX:=fun j v hj=>aL qw (kX j v hj);refine kH H (YN dX rfl (Pf dX rfl (Kn K3 (Cd rfl ?_ ?_)))) <;> clear H K3
 ·intro h18 a H
  try have rZ:=dT h18
  refine bK (fun _ K4=>?_);refine s_call RY H wn rfl (Uo _ _ H.ro) rfl ?_;clear H;rintro v19 KR a w rfl Ci H;exact kH H (ak K4 rfl (LR results4 rfl fun H=>H.rt (by first|rfl|simp)))
 intro h18 a H
 try have rZ:=dF h18
 refine fQ ?_;refine K2 _ _ ?_;clear K2;refine bg (fun _ K5=>?_)
 have hc:lQ d=0:=by first|exact Tx (by assumption)|(simp_all;done)
 have hok:=afn hc;obtain ⟨l,hl⟩:∃ l,l=d.flow:=⟨_,rfl⟩;have hfl:=hR.fl;rw [← hl] at hok zu hfl;refine mh ?_;refine aW jl (cs:=D.cells) H wn rfl rfl (fun j v hj=>H.hp.aI (hga j v hj)) rfl ?_;clear H;intro a H;refine aW PG (cs:=[vi f,vi fr,vi jB]) H wn rfl rfl (fun j v hj=>H.hp.aI (kX j v hj)) rfl ?_;clear H;intro a H;refine s_call aaf H wn rfl (afM _ _ H.ro D l f fr jB hfl hok.ok (by omega)) rfl ?_;clear H;rintro v23 Qc a w rfl GK H;replace hfl:=hfl.mono GK;replace hga:=fun j v hj=>aL GK (hga j v hj);replace kX:=fun j v hj=>aL GK (kX j v hj);refine kH H (Rm rfl ?_);clear H;intro a H;(iterate 2 refine jy H wn rfl rfl rfl ?_;clear H;intro a H);refine kH H (Ra rfl (aU K5 rfl (SQ fun _ K6=>SR fun _ K7=>?_)));clear H K5;intro a H;refine aW jl (cs:=D.cells) H wn rfl rfl (fun j v hj=>H.hp.aI (hga j v hj)) rfl ?_;clear H;intro a H;refine aW PG (cs:=[vi f,vi fr,vi jB]) H wn rfl rfl (fun j v hj=>H.hp.aI (kX j v hj)) rfl ?_;clear H;intro a H;refine s_call aam H wn rfl (afj _ _ H.ro D l f fr jB hfl (by omega)) rfl ?_;clear H;rintro v28 Xf a w rfl NR H;replace hfl:=hfl.mono NR;replace hga:=fun j v hj=>aL NR (hga j v hj);replace kX:=fun j v hj=>aL NR (kX j v hj);refine kH H (ak K7 rfl (SR fun _ K8=>Rm rfl (Rc rfl (Kz K8 (Cd rfl ?_ ?_))))) <;> clear H K7 K8
 ·intro lG a H
  try have p30:=dT lG
  have hps:CJ l f fr jB=⟨#[]⟩:=ah (by assumption);rw [hps] at H;refine kP H (SR fun _ K9=>Rm rfl ?_);clear H;intro a H;refine CQ H wn rfl rfl rfl ?_;clear H;intro a H;rw [show ((⟨#[]⟩:ByteArray).toList == (⟨#[]⟩:ByteArray).toList)=true from beq_self_eq_true _] at H;refine kH H (Rm rfl (Sp 33 rfl ?_ ?_)) <;> clear H
  ·intro BU a H
   try have p33:=dT BU
   exact kH H (YM BU rfl (YM BU rfl (YC BU rfl (Pt BU rfl (ak K9 rfl (LR results4 rfl fun H=>H.rt (by first|rfl|simp)))))))
  intro BU a H
  exact absurd BU (by decide)
 intro lG a H
 try have p30:=dF lG
 have hc0:lS l f fr jB=0:=by omega
 obtain ⟨L,hL,AZ,hr1,hr2,hr3⟩:=Rq hok.ok hc0;have hLz:=Nat.le_trans (Jm hL) zu;obtain ⟨Em,Ed⟩:=Pz AZ;have hTl:=Ky L;have hTs:(⟨(mI L).toArray⟩:ByteArray).size=(mI L).length:=List.size_toArray;obtain ⟨T,hT⟩:∃ T:ByteArray,T=⟨(mI L).toArray⟩:=⟨_,rfl⟩
 have htx:CW l f=T:=by rw [CW,hL,hT];rfl
 rw [← hT] at Em Ed hTs;obtain ⟨u,rfl⟩:∃ u:Nat,fr=(u:Int):=⟨fr.toNat,by omega⟩;obtain ⟨vv,rfl⟩:∃ u:Nat,jB=(u:Int):=⟨jB.toNat,by omega⟩
 have hps:CJ l f u vv=T.extract (fO T 0 u) (fO T 0 vv):=by
  rw [CJ,au hc0,htx,Int.toNat_natCast,Int.toNat_natCast]
 rw [hps,hc0] at H;refine fQ ?_;refine K6 _ _ ?_;clear K6;refine bK (fun _ aQ=>?_);refine aW jl (cs:=D.cells) H wn rfl rfl (fun j v hj=>H.hp.aI (hga j v hj)) rfl ?_;clear H;intro a H;refine kH H (Rf Jh rfl (Rg aC rfl (kX 0 _ rfl) ?_));clear H;intro a H;refine s_call FT H wn rfl (Gf _ _ H.ro D l f hfl (by omega)) rfl ?_;clear H;rintro v42 KT a w ⟨x42,rfl,Ou⟩ adL H;rw [hL,Option.getD_some] at Ou;obtain ⟨A42,n42,c42,rfl⟩:=Ou.form;replace kX:=fun j v hj=>aL adL (kX j v hj);refine kH H (Rm rfl ?_);clear H;intro a H;(iterate 2 refine jy H wn rfl rfl rfl ?_;clear H;intro a H);refine kH H (Ra rfl (ak aQ rfl (SQ fun _ bH=>?_)));clear H aQ;intro a H;refine dI hmx [[],[0],[],[2],[],[4],(ra 0 6),(ra 0 7),(ra 0 8),(ra 0 8),(ra 0 9),(ra 0 11)] [11] (by kernel_rfl) [_,.string T,_,_,_,_,.tuple #[.string (T.extract (fO T 0 u) (fO T 0 vv)),vi 0],_,.string (T.extract (fO T 0 u) (fO T 0 vv)),vi 0,_] H (aF (Z0 rfl (Rm rfl)) ?_ (Z0 rfl (Rf DZ rfl)) (X1 2 48 rfl fun hG=>Rg aC rfl (aL hG (kX 1 _ rfl))) (aF (Z0 rfl (Rf D5 rfl)) (X1 4 50 rfl fun hG=>Rg aC rfl (aL hG (kX 2 _ rfl))) ?_ (Z1 6 52 rfl (Rm rfl)) (aF ?_ ?_ (Z1 8 53 rfl (Ra rfl)) (bJ rfl) dP))) ?_
 ·refine eH 0 46 rfl rfl fun _ a w G1 hG HT H fin=>?_;refine s_call R5 H wn rfl (Vh _ _ H.ro L _ (Ou.mono hG) (by omega) (UN AZ)) rfl ?_;clear H;rintro v47 Ik a w rfl Gq H;rw [← hT] at H;exact fin H Gq (rfl)
 ·refine wY 1 47 3 49 5 51 rfl rfl fun _ a w G1 hG HT H fin=>?_;refine s_call aay H wn rfl (ahe _ _ H.ro T (by omega) Em u vv (by omega) (by omega)) rfl ?_;clear H;rintro v52 Im a w rfl acU H;exact fin H acU (rfl)
 ·refine eH 7 45 rfl rfl fun _ a w G1 hG HT H fin=>?_;refine jy H wn rfl rfl rfl ?_;clear H;intro a H;exact fin H iJ rfl
 ·refine eH 7 45 rfl rfl fun _ a w G1 hG HT H fin=>?_;refine jy H wn rfl rfl rfl ?_;clear H;intro a H;exact fin H iJ rfl
 clear H;intro a w G ql H hv;have H:=H.aT (hv 10 10 rfl rfl) rfl;have H:=H.aT (hv 9 54 rfl rfl) rfl;clear hv;refine kH H (Ra rfl ?_);clear H;intro a H;refine aH ⟨rfl,?_⟩;refine bH _ _ ?_;clear bH;refine kP H (SR fun _ bR=>Rm rfl (Rc rfl (Rm rfl (Sp 57 rfl ?_ ?_)))) <;> clear H
 ·intro h57 a H
  try have p57:=dT h57
  refine kH H (YM h57 rfl (YC h57 rfl (Pt h57 rfl (Rm rfl (Sp 61 rfl ?_ ?_))))) <;> clear H
  ·intro rR a H
   try have p61:=dT rR
   refine kH H (YM rR rfl (YM rR rfl ?_));clear H;intro a H;refine CQ H (wg H rfl rfl rR) rfl rfl rfl ?_;clear H;intro a H;rw [beq_self_eq_true] at H;exact kH H (Pt rR rfl (ak bR rfl (LR results4 rfl fun H=>H.rt (by first|rfl|simp))))
  intro rR a H
  exact absurd rR (by decide)
 intro h57 a H
 exact absurd h57 (by decide)
end
section
open Go.ChangeShapes Go.RowKit Go.Deep
abbrev nW (W:World):GH:=fun k=>W.heap[k]?
theorem acI {W:World} {b o:Nat} {v:aj} (h:W.cell? ⟨b,o,none⟩=some v):aI (nW W) b o=some v:=by
 unfold World.cell? at h
 unfold aI nW
 split at h
 ·rename_i c e f hh
  simp only at hh
  rw [hh];simpa using h
 cases h
theorem Ut {α:Type} {p:Nat→α→Prop}:∀ n:Nat,(∀ i,i < n→∃ x,p i x)→∃ l:List α,l.length=n∧∀ i x,l[i]?=some x→p i x
 | 0,_=>⟨[],rfl,fun i x h=>by simp at h⟩
 | n+1,h=>by
  obtain ⟨l,hl,hp⟩:=Ut n (fun i hi=>h i (by omega));obtain ⟨x,hx⟩:=h n (by omega);refine ⟨l++[x],by simp [hl],fun i y hy=>?_⟩
  by_cases hi:i < l.length
  ·exact hp i y (by rwa [yH hi] at hy)
  rw [xk (by omega)] at hy
  have hin:i - l.length=0:=by
   have:=(jr.1 hy).1
   simp at this;omega
  rw [hin] at hy
  simp only [Ah,lq] at hy
  subst hy;rw [show i=n by omega];exact hx
theorem X8 {H:Type} (d:DataW H):1≤Rows.uptoBulk d:=by
 cases d <;> (try simp only [Rows.uptoBulk]) <;> (try omega)
 rename_i x;cases x <;> simp only [Rows.uptoBulk] <;> omega
theorem QY {H ρ:Type} {dat:ρ→List Dat}:∀ (rs:List ρ) (D:Nat→DataW H),(∀ i r,rs[i]?=some r→cB (dat r)+1≤8*Rows.uptoBulk (D i))→dZ (rs.map dat)≤8*Rows.uptoBulkAll ((List.range rs.length).map D)
 | [],D,_=>gW _
 | r :: rs,D,h=>by
  have h0:=h 0 r rfl;have hp:=X8 (D 0);have ih:=QY rs (fun i=>D (i+1)) (fun i r hr=>h (i+1) r (by simpa using hr));rw [lX,List.range_succ_eq_map]
  simp only [fG,List.map_map,dZ,Rows.uptoBulkAll]
  have e:(List.map (D ∘ Nat.succ) (List.range rs.length))=(List.map (fun i=>D (i+1)) (List.range rs.length)):=rfl;rw [e];omega
theorem QX {H:Type} {D:Nat→DataW H}:∀ {n i:Nat},i < n→Rows.uptoBulk (D i)≤Rows.uptoBulkAll ((List.range n).map D)
 | 0,i,h=>absurd h (by omega)
 | n+1,i,h=>by
  have key:∀ (l m:List (DataW H)),Rows.uptoBulkAll (l++m)=Rows.uptoBulkAll l+Rows.uptoBulkAll m:=by
   intro l m
   induction l with
   | nil=>simp [Rows.uptoBulkAll]
   | cons x l ih=>simp only [lN,Rows.uptoBulkAll,ih];omega
  rw [List.range_succ,sN,key]
  by_cases hi:i < n
  ·have:=QX (D:=D) hi;omega
  have:i=n:=by omega
  subst this
  simp only [fG,pI,Rows.uptoBulkAll];omega
section
variable {H:Type} {enc:TypeId × aj→H} {P:Program} {W:World} {base:Nat} {spare:Nat→Bool} {held:Bool}
theorem sj {ρ:Type} {dat:ρ→List Dat} {t e:TypeId} {sz:Nat} (hsz:0 < sz) {fuel:Nat} {cs:List aj} {x:DataW H × List MemPlace} (ht:P.underlying t=some (.slice e)) (hc:P.cellsOf e=sz) (h:DataW.trod enc P W base spare held fuel t cs=some x)
  (row:∀ n cs' D Pl,DataW.trod enc P W base spare held n e cs'=some (D,Pl)→Rows.uptoBulk D < Rows.uptoBulk x.1→∃ r:ρ,aS (nW W) (dat r) cs'∧cB (dat r)+1≤8*Rows.uptoBulk D) :
  ∃ (rs:List ρ) (v:aj),cs=[v]∧av (nW W) (.sl sz (rs.map dat)) v∧dZ (rs.map dat)+8≤8*Rows.uptoBulk x.1:=by
 rcases open_slice ht h with ⟨rfl,rfl⟩|⟨a,len,cap,m,n,D,Pl,rfl,hb,hl,hm,hmm,rfl,hx⟩
 ·exact ⟨[],_,rfl,av.iQ rfl (by decide),by simp [dZ,Rows.uptoBulk]⟩
 obtain ⟨rs,hrl,hrs⟩:=Ut (p:=fun i (r:ρ)=>∃ cs',W.cells? base (a.add (i*sz)) sz=some cs'∧aS (nW W) (dat r) cs'∧cB (dat r)+1≤8*Rows.uptoBulk (D i)) len (fun i hi=>by
  have him:i < m:=by rw [hmm];split <;> omega
  obtain ⟨cs',h1,h2⟩:=hx i him;rw [hc] at h1;have hb1:=QX (D:=D) hi;obtain ⟨r,hr1,hr2⟩:=row n cs' (D i) (Pl i) h2 (by simp only [Rows.uptoBulk];omega)
  exact ⟨r,cs',h1,hr1,hr2⟩)
 refine ⟨rs,_,rfl,?_,?_⟩
 ·simp only [av,bW]
  refine ⟨some a,cap,by rw [hrl],by omega,hm,fun hne=>?_⟩;obtain ⟨b,off,spot⟩:=a
  have hlen:0 < rs.length:=by cases rs with|nil=>simp at hne|cons _ _=>simp
  obtain ⟨cs0,h1,-,-⟩:=hrs 0 rs[0] (gy hlen);obtain ⟨-,hl0,hg0⟩:=World.cells?_some h1
  have hspot:spot=none:=by
   have h3:=hg0 0 hsz;rw [gy (by omega)] at h3
   simpa [Addr.add] using World.cell?_spot h3
  subst hspot;refine ⟨b,off,rfl,kD.mk fun k r hk=>?_⟩;rw [mM] at hk;obtain ⟨y,hy,rfl⟩:=kS.1 hk;obtain ⟨cs',h2,h3,-⟩:=hrs k y hy;obtain ⟨-,hl1,hg1⟩:=World.cells?_some h2;refine ⟨cs',hl1,fun j u hj=>acI ?_,h3⟩
  have hj2:j < sz:=by rw [← hl1];exact (jr.1 hj).1
  have:=hg1 j hj2;rw [add_add,Go.WideShapes.add_plain] at this;rw [show off+k*sz+j=off+(k*sz+j) by omega,this];exact hj
 have:=QY rs D (fun i r hr=>(hrs i r hr).choose_spec.2.2);rw [hrl] at this
 simp only [Rows.uptoBulk];omega
end
structure pG (P:Program) (t:TypeId) (sz:Nat) (fs:List (TypeId × Nat × Nat)):Prop where
 und:P.underlying t=some (.struct (P.fieldsOf t))
 cells:P.cellsOf t=sz
 Gc:(P.fieldsOf t).toList.map (fun f=>(f.type,f.offset,P.cellsOf f.type))=fs
theorem qF {P:Program} {H:Type} {enc:TypeId × aj→H} {W:World} {base:Nat} {spare:Nat→Bool} {held:Bool} {t:TypeId} {sz fuel:Nat} {fs:List (TypeId × Nat × Nat)} {cs:List aj} {x:DataW H × List MemPlace} (hs:pG P t sz fs) (h:DataW.trod enc P W base spare held fuel t cs=some x) :
  ∃ (xs:List (DataW H × List MemPlace)) (n:Nat),x.1=.agg (xs.map (·.1))∧cs.length=sz∧xs.length=fs.length∧∀ (i:Nat) (ti:TypeId) (off k:Nat),fs[i]?=some (ti,off,k)→DataW.trod enc P W base spare held n ti ((cs.drop off).take k)=xs[i]?:=by
 obtain ⟨xs,n,-,rfl,hl,hxl,hf⟩:=DataW.trod_struct hs.und h;refine ⟨xs,n,rfl,by rw [hl,hs.cells],by rw [hxl,← hs.Gc];simp,fun i ti off k hi=>?_⟩;rw [← hs.Gc,mM] at hi;obtain ⟨f,hf1,hf2⟩:=kS.1 hi
 simp only [gF] at hf2
 obtain ⟨rfl,rfl,rfl⟩:=hf2;exact hf i f (by simpa using hf1)
section
variable {H:Type} {enc:TypeId × aj→H} {W:World} {base:Nat} {spare:Nat→Bool} {held:Bool}
theorem agW:pG prog 166 2 [(3,0,1),(3,1,1)]:=⟨by kernel_rfl,by kernel_rfl,by kernel_rfl⟩
theorem U9 {n:Nat} {cs:List aj} {D:DataW H} {Pl:List MemPlace} (h:DataW.trod enc prog W base spare held n 166 cs=some (D,Pl)):∃ r:jq,aS (nW W) r.dat cs∧cB r.dat+1≤8*Rows.uptoBulk D:=by
 obtain ⟨xs,m,hx,hl,hxl,hf⟩:=qF agW h
 match cs,hl,xs,hxl with
 | [c0,c1],_,[y0,y1],_ =>
  have h0:=hf 0 _ _ _ rfl;have h1:=hf 1 _ _ _ rfl;obtain ⟨k0,e0,d0,-⟩:=DataW.trod_int underlying3 h0;obtain ⟨k1,e1,d1,-⟩:=DataW.trod_int underlying3 h1
  simp at e0 e1
  subst e0 e1
  simp only at hx
  refine ⟨⟨k0,k1⟩,?_,?_⟩
  ·simp [aS,jq.dat,av,Value.oneCell']
  rw [hx];simp [d0,d1,jq.dat,cB,oo,Rows.uptoBulk,Rows.uptoBulkAll]
theorem agP:pG prog 169 2 [(3,0,1),(3,1,1)]:=⟨by kernel_rfl,by kernel_rfl,by kernel_rfl⟩
theorem afO {n:Nat} {cs:List aj} {D:DataW H} {Pl:List MemPlace} (h:DataW.trod enc prog W base spare held n 169 cs=some (D,Pl)):∃ r:kZ,aS (nW W) r.dat cs∧cB r.dat+1≤8*Rows.uptoBulk D:=by
 obtain ⟨xs,m,hx,hl,hxl,hf⟩:=qF agP h
 match cs,hl,xs,hxl with
 | [c0,c1],_,[y0,y1],_ =>
  have h0:=hf 0 _ _ _ rfl;have h1:=hf 1 _ _ _ rfl;obtain ⟨k0,e0,d0,-⟩:=DataW.trod_int underlying3 h0;obtain ⟨k1,e1,d1,-⟩:=DataW.trod_int underlying3 h1
  simp at e0 e1
  subst e0 e1
  simp only at hx
  refine ⟨⟨k0,k1⟩,?_,?_⟩
  ·simp [aS,kZ.dat,av,Value.oneCell']
  rw [hx];simp [d0,d1,kZ.dat,cB,oo,Rows.uptoBulk,Rows.uptoBulkAll]
theorem agS:pG prog 171 4 [(3,0,1),(3,1,1),(3,2,1),(4,3,1)]:=⟨by kernel_rfl,by kernel_rfl,by kernel_rfl⟩
theorem afR {n:Nat} {cs:List aj} {D:DataW H} {Pl:List MemPlace} (h:DataW.trod enc prog W base spare held n 171 cs=some (D,Pl)):∃ r:kg,aS (nW W) r.dat cs∧cB r.dat+1≤8*Rows.uptoBulk D:=by
 obtain ⟨xs,m,hx,hl,hxl,hf⟩:=qF agS h
 match cs,hl,xs,hxl with
 | [c0,c1,c2,c3],_,[y0,y1,y2,y3],_ =>
  have h0:=hf 0 _ _ _ rfl;have h1:=hf 1 _ _ _ rfl;have h2:=hf 2 _ _ _ rfl;have h3:=hf 3 _ _ _ rfl;obtain ⟨k0,e0,d0,-⟩:=DataW.trod_int underlying3 h0;obtain ⟨k1,e1,d1,-⟩:=DataW.trod_int underlying3 h1;obtain ⟨k2,e2,d2,-⟩:=DataW.trod_int underlying3 h2;obtain ⟨k3,e3,d3⟩:=DataW.trod_bool underlying4 h3
  simp at e0 e1 e2 e3
  subst e0 e1 e2 e3
  simp only at hx
  refine ⟨⟨k0,k1,k2,k3⟩,?_,?_⟩
  ·simp [aS,kg.dat,av,Value.oneCell']
  rw [hx];simp [d0,d1,d2,d3,kg.dat,cB,oo,Rows.uptoBulk,Rows.uptoBulkAll]
theorem agV:pG prog 27 4 [(3,0,1),(3,1,1),(24,2,1),(25,3,1)]:=⟨by kernel_rfl,by kernel_rfl,by kernel_rfl⟩
theorem agQ:pG prog 29 5 [(23,0,1),(27,1,4)]:=⟨by kernel_rfl,by kernel_rfl,by kernel_rfl⟩
theorem Q9:prog.cellsOf 166=2:=by kernel_rfl
theorem Yl:prog.cellsOf 169=2:=by kernel_rfl
theorem Ym:prog.cellsOf 171=4:=by kernel_rfl
theorem J7 {n:Nat} {cs:List aj} {x:DataW H × List MemPlace} (h:DataW.trod enc prog W base spare held n 29 cs=some x):∃ (r:jm) (p d l:aj),cs=[p,vi r.marks.ins,vi r.marks.move,d,l]∧jR (nW W) r p d l∧pE r+15≤8*Rows.uptoBulk x.1:=by
 obtain ⟨xs,m,hx,hl,hxl,hf⟩:=qF agQ h
 match cs,hl,xs,hxl with
 | [c0,c1,c2,c3,c4],_,[y0,y1],_ =>
  have h0:=hf 0 _ _ _ rfl;have h1:=hf 1 _ _ _ rfl;obtain ⟨ps,pv,e0,rp,sp⟩:=sj (dat:=jq.dat) (sz:=2) (by omega) underlying23 Q9 h0 (fun n cs' D Pl hh _=>U9 hh);obtain ⟨zs,m2,hz,hzl,hzx,zu⟩:=qF agV h1
  match zs,hzx with
  | [z0,z1,z2,z3],_ =>
   have g0:=zu 0 _ _ _ rfl;have g1:=zu 1 _ _ _ rfl;have g2:=zu 2 _ _ _ rfl;have g3:=zu 3 _ _ _ rfl;obtain ⟨k0,e1,d0,-⟩:=DataW.trod_int underlying3 g0;obtain ⟨k1,e2,d1,-⟩:=DataW.trod_int underlying3 g1;obtain ⟨ds,dv,e3,rd,sd⟩:=sj (dat:=kZ.dat) (sz:=2) (by omega) underlying24 Yl g2 (fun n cs' D Pl hh _=>afO hh);obtain ⟨ls,lv,e4,rl,sl⟩:=sj (dat:=kg.dat) (sz:=4) (by omega) underlying25 Ym g3 (fun n cs' D Pl hh _=>afR hh)
   simp at e0 e1 e2 e3 e4
   subst e0 e1 e2 e3 e4;refine ⟨⟨ps,⟨k0,k1,ds,ls⟩⟩,_,_,_,rfl,⟨rp,rd,rl⟩,?_⟩;have hzh:=Ie ⟨ps,⟨k0,k1,ds,ls⟩⟩
   simp only at hzh
   rw [hx]
   simp only [fG,pI,Rows.uptoBulk,Rows.uptoBulkAll,hz,d0,d1]
   omega
theorem agR:pG prog 47 11 [(3,0,1),(3,1,1),(3,2,1),(9,3,1),(29,4,5),(22,9,1),(45,10,1)]:=⟨by kernel_rfl,by kernel_rfl,by kernel_rfl⟩
theorem agX:pG prog 135 6 [(29,0,5),(133,5,1)]:=⟨by kernel_rfl,by kernel_rfl,by kernel_rfl⟩
theorem agN:pG prog 132 7 [(3,0,1),(29,1,5),(22,6,1)]:=⟨by kernel_rfl,by kernel_rfl,by kernel_rfl⟩
theorem LQ:prog.cellsOf 47=11:=by kernel_rfl
theorem Yp:prog.cellsOf 135=6:=by kernel_rfl
theorem Yj:prog.cellsOf 132=7:=by kernel_rfl
theorem U7:∀ (N:Nat) (n:Nat) (cs:List aj) (D:DataW H) (Pl:List MemPlace),DataW.trod enc prog W base spare held n 47 cs=some (D,Pl)→Rows.uptoBulk D < N→∃ r:aB,aS (nW W) r.dat cs∧cB r.dat+1≤8*Rows.uptoBulk D
 | 0,_,_,_,_,_,hN=>absurd hN (by omega)
 | N+1,n,cs,D,Pl,h,hN=>by
  have ih:=U7 N;obtain ⟨xs,m,hx,hl,hxl,hf⟩:=qF agR h
  match cs,hl,xs,hxl with
  | [c0,c1,c2,c3,c4,c5,c6,c7,c8,c9,c10],_,[y0,y1,y2,y3,y4,y5,y6],_ =>
   have h0:=hf 0 _ _ _ rfl;have h1:=hf 1 _ _ _ rfl;have h2:=hf 2 _ _ _ rfl;have h3:=hf 3 _ _ _ rfl;have h4:=hf 4 _ _ _ rfl;have h5:=hf 5 _ _ _ rfl;have h6:=hf 6 _ _ _ rfl
   simp only at hx
   have hD:Rows.uptoBulk D=Rows.uptoBulk y0.1+(Rows.uptoBulk y1.1+(Rows.uptoBulk y2.1+(Rows.uptoBulk y3.1+(Rows.uptoBulk y4.1+(Rows.uptoBulk y5.1+(Rows.uptoBulk y6.1+0))))))+1:=by
    rw [hx];simp only [fG,pI,Rows.uptoBulk,Rows.uptoBulkAll]
   obtain ⟨k0,e0,d0,-⟩:=DataW.trod_int underlying3 h0;obtain ⟨k1,e1,d1,-⟩:=DataW.trod_int underlying3 h1;obtain ⟨k2,e2,d2,-⟩:=DataW.trod_int underlying3 h2;obtain ⟨s,e3,d3,-⟩:=DataW.trod_string underlying9 h3;obtain ⟨hd,p,d,l,e4,rh,sh⟩:=J7 h4;obtain ⟨fl,fv,e5,rf,sf⟩:=sj (dat:=aB.dat) (sz:=11) (by omega) underlying22 LQ h5 (fun n cs' D' bN hh hlt=>ih n cs' D' bN hh (by omega))
   obtain ⟨rs,rv,e6,rr,sr⟩:=sj (dat:=bC.dat) (sz:=6) (by omega) underlying45 Yp h6 (fun n cs' D' bN hh hlt=>by
    obtain ⟨xs,m,hx,hl,hxl,hf⟩:=qF agX hh
    match cs',hl,xs,hxl with
    | [a0,a1,a2,a3,a4,a5],_,[w0,w1],_ =>
     have g0:=hf 0 _ _ _ rfl;have g1:=hf 1 _ _ _ rfl
     simp only at hx
     have hD':Rows.uptoBulk D'=Rows.uptoBulk w0.1+(Rows.uptoBulk w1.1+0)+1:=by
      rw [hx];simp only [fG,pI,Rows.uptoBulk,Rows.uptoBulkAll]
     obtain ⟨hd2,p2,d2',l2,q0,rh2,sh2⟩:=J7 g0
     obtain ⟨cl,cv,q1,rc,sc⟩:=sj (dat:=aY.dat) (sz:=7) (by omega) underlying133 Yj g1 (fun n cs'' Xa aiC hh2 hlt2=>by
      obtain ⟨xs,m,hx2,hl2,aey,hf2⟩:=qF agN hh2
      match cs'',hl2,xs,aey with
      | [b0,b1,b2,b3,b4,b5,b6],_,[v0,v1,v2],_ =>
       have u0:=hf2 0 _ _ _ rfl;have u1:=hf2 1 _ _ _ rfl;have u2:=hf2 2 _ _ _ rfl
       simp only at hx2
       have aiJ:Rows.uptoBulk Xa=Rows.uptoBulk v0.1+(Rows.uptoBulk v1.1+(Rows.uptoBulk v2.1+0))+1:=by
        rw [hx2];simp only [fG,pI,Rows.uptoBulk,Rows.uptoBulkAll]
       obtain ⟨j0,t0,z0,-⟩:=DataW.trod_int underlying3 u0;obtain ⟨hd3,p3,d3',l3,t1,rh3,sh3⟩:=J7 u1;obtain ⟨MV,fv3,t2,rf3,sf3⟩:=sj (dat:=aB.dat) (sz:=11) (by omega) underlying22 LQ u2 (fun n Zn D3 XF hh3 hlt3=>ih n Zn D3 XF hh3 (by omega))
       simp at t0 t1 t2
       obtain ⟨rfl,rfl,rfl,rfl,rfl⟩:=t1;subst t0 t2;have hz:=zT (aY.mk j0 hd3 MV)
       simp only [aY.head,aY.flow] at hz
       have bz:Rows.uptoBulk v0.1=1:=by rw [z0];rfl
       exact ⟨aY.mk j0 hd3 MV,aS.OH (x:=aY.mk j0 hd3 MV) rh3 rf3,by simp only [bG] at hz;omega⟩)
     simp at q0 q1
     obtain ⟨rfl,rfl,rfl,rfl,rfl⟩:=q0;subst q1;have hz:=yu (bC.mk hd2 cl)
     simp only [bC.head,bC.cells] at hz
     exact ⟨bC.mk hd2 cl,aS.UE (x:=bC.mk hd2 cl) rh2 rc,by simp only [lW] at hz;omega⟩)
   simp at e0 e1 e2 e3 e4 e5 e6
   obtain ⟨rfl,rfl,rfl,rfl,rfl⟩:=e4;subst e0 e1 e2 e3 e5 e6;have hz:=ou (aB.mk k0 k1 k2 s hd fl rs)
   simp only [aB.text,aB.head,aB.flow,aB.rows] at hz
   have b0:Rows.uptoBulk y0.1=1:=by rw [d0];rfl
   have b1:Rows.uptoBulk y1.1=1:=by rw [d1];rfl
   have b2:Rows.uptoBulk y2.1=1:=by rw [d2];rfl
   have b3:Rows.uptoBulk y3.1=s.size+1:=by rw [d3];show s.data.toList.length+1=s.data.size+1;rw [rE]
   exact ⟨aB.mk k0 k1 k2 s hd fl rs,aS.mkItem (x:=aB.mk k0 k1 k2 s hd fl rs) rh rf rr,by simp only [bG,iV] at hz;omega⟩
theorem afQ {n:Nat} {cs:List aj} {x:DataW H × List MemPlace} (h:DataW.trod enc prog W base spare held n 22 cs=some x):∃ (l:List aB) (v:aj),cs=[v]∧av (nW W) (.sl 11 (l.map aB.dat)) v∧bG l+8≤8*Rows.uptoBulk x.1 :=
 sj (dat:=aB.dat) (sz:=11) (by omega) underlying22 LQ h (fun n cs' D' bN hh _=>U7 _ n cs' D' bN hh (Nat.lt_succ_self _))
end
end
section
open Go.ChangeShapes Go.RowKit Go.Deep
theorem CV {ρ:Type} {dat:ρ→List Dat}:∀ {l:List ρ} {x:ρ},x∈l→cB (dat x)+1≤dZ (l.map dat)
 | y :: l,x,h=>by
  rw [fG,dZ]
  rcases nS.1 h with rfl|h
  ·omega
  have:=CV (dat:=dat) h;omega
section
variable {H:Type} {enc:TypeId × aj→H} {W:World} {base:Nat} {spare:Nat→Bool} {held:Bool}
theorem aha:pG prog 159 6 [(3,0,1),(3,1,1),(9,2,1),(3,3,1),(3,4,1),(23,5,1)]:=⟨by kernel_rfl,by kernel_rfl,by kernel_rfl⟩
theorem Yr:prog.cellsOf 159=6:=by kernel_rfl
theorem afW {n:Nat} {cs:List aj} {D:DataW H} {Pl:List MemPlace} (h:DataW.trod enc prog W base spare held n 159 cs=some (D,Pl)):∃ r:bL,aS (nW W) r.dat cs∧cB r.dat+1≤8*Rows.uptoBulk D:=by
 obtain ⟨xs,m,hx,hl,hxl,hf⟩:=qF aha h
 match cs,hl,xs,hxl with
 | [c0,c1,c2,c3,c4,c5],_,[y0,y1,y2,y3,y4,y5],_ =>
  have h0:=hf 0 _ _ _ rfl;have h1:=hf 1 _ _ _ rfl;have h2:=hf 2 _ _ _ rfl;have h3:=hf 3 _ _ _ rfl;have h4:=hf 4 _ _ _ rfl;have h5:=hf 5 _ _ _ rfl
  simp only at hx
  have hD:Rows.uptoBulk D=Rows.uptoBulk y0.1+(Rows.uptoBulk y1.1+(Rows.uptoBulk y2.1+(Rows.uptoBulk y3.1+(Rows.uptoBulk y4.1+(Rows.uptoBulk y5.1+0)))))+1:=by rw [hx];simp only [fG,pI,Rows.uptoBulk,Rows.uptoBulkAll]
  obtain ⟨k0,e0,d0,-⟩:=DataW.trod_int underlying3 h0;obtain ⟨k1,e1,d1,-⟩:=DataW.trod_int underlying3 h1;obtain ⟨k2,e2,d2,-⟩:=DataW.trod_string underlying9 h2;obtain ⟨k3,e3,d3,-⟩:=DataW.trod_int underlying3 h3;obtain ⟨k4,e4,d4,-⟩:=DataW.trod_int underlying3 h4;obtain ⟨k5,q5,e5,r5,d5⟩:=sj (dat:=jq.dat) (sz:=2) (by omega) underlying23 Q9 h5 (fun n cs' D Pl hh _=>U9 hh)
  simp at e0 e1 e2 e3 e4 e5
  subst e0 e1 e2 e3 e4 e5
  have b0:Rows.uptoBulk y0.1=1:=by rw [d0];rfl
  have b1:Rows.uptoBulk y1.1=1:=by rw [d1];rfl
  have b2:Rows.uptoBulk y2.1=k2.size+1:=by rw [d2];show k2.data.toList.length+1=k2.data.size+1;rw [rE]
  have b3:Rows.uptoBulk y3.1=1:=by rw [d3];rfl
  have b4:Rows.uptoBulk y4.1=1:=by rw [d4];rfl
  refine ⟨⟨k0,k1,k2,k3,k4,k5⟩,?_,?_⟩
  ·exact ⟨_,_,rfl,(by simp [av,Value.oneCell']),⟨_,_,rfl,(by simp [av,Value.oneCell']),⟨_,_,rfl,(by simp [av,Value.oneCell']),⟨_,_,rfl,(by simp [av,Value.oneCell']),⟨_,_,rfl,(by simp [av,Value.oneCell']),⟨_,_,rfl,r5,rfl⟩⟩⟩⟩⟩⟩
  simp only [bL.dat,cB,oo];omega
theorem agU:pG prog 87 4 [(3,0,1),(3,1,1),(9,2,1),(3,3,1)]:=⟨by kernel_rfl,by kernel_rfl,by kernel_rfl⟩
theorem Yo:prog.cellsOf 87=4:=by kernel_rfl
theorem afS {n:Nat} {cs:List aj} {D:DataW H} {Pl:List MemPlace} (h:DataW.trod enc prog W base spare held n 87 cs=some (D,Pl)):∃ r:nR,aS (nW W) r.dat cs∧cB r.dat+1≤8*Rows.uptoBulk D:=by
 obtain ⟨xs,m,hx,hl,hxl,hf⟩:=qF agU h
 match cs,hl,xs,hxl with
 | [c0,c1,c2,c3],_,[y0,y1,y2,y3],_ =>
  have h0:=hf 0 _ _ _ rfl;have h1:=hf 1 _ _ _ rfl;have h2:=hf 2 _ _ _ rfl;have h3:=hf 3 _ _ _ rfl
  simp only at hx
  have hD:Rows.uptoBulk D=Rows.uptoBulk y0.1+(Rows.uptoBulk y1.1+(Rows.uptoBulk y2.1+(Rows.uptoBulk y3.1+0)))+1:=by rw [hx];simp only [fG,pI,Rows.uptoBulk,Rows.uptoBulkAll]
  obtain ⟨k0,e0,d0,-⟩:=DataW.trod_int underlying3 h0;obtain ⟨k1,e1,d1,-⟩:=DataW.trod_int underlying3 h1;obtain ⟨k2,e2,d2,-⟩:=DataW.trod_string underlying9 h2;obtain ⟨k3,e3,d3,-⟩:=DataW.trod_int underlying3 h3
  simp at e0 e1 e2 e3
  subst e0 e1 e2 e3
  have b0:Rows.uptoBulk y0.1=1:=by rw [d0];rfl
  have b1:Rows.uptoBulk y1.1=1:=by rw [d1];rfl
  have b2:Rows.uptoBulk y2.1=k2.size+1:=by rw [d2];show k2.data.toList.length+1=k2.data.size+1;rw [rE]
  have b3:Rows.uptoBulk y3.1=1:=by rw [d3];rfl
  refine ⟨⟨k0,k1,k2,k3⟩,?_,?_⟩
  ·exact ⟨_,_,rfl,(by simp [av,Value.oneCell']),⟨_,_,rfl,(by simp [av,Value.oneCell']),⟨_,_,rfl,(by simp [av,Value.oneCell']),⟨_,_,rfl,(by simp [av,Value.oneCell']),rfl⟩⟩⟩⟩
  simp only [nR.dat,cB,oo];omega
theorem agT:pG prog 84 2 [(3,0,1),(82,1,1)]:=⟨by kernel_rfl,by kernel_rfl,by kernel_rfl⟩
theorem Yn:prog.cellsOf 84=2:=by kernel_rfl
theorem afT {n:Nat} {cs:List aj} {D:DataW H} {Pl:List MemPlace} (h:DataW.trod enc prog W base spare held n 84 cs=some (D,Pl)):∃ r:fK,aS (nW W) r.dat cs∧cB r.dat+1≤8*Rows.uptoBulk D:=by
 obtain ⟨xs,m,hx,hl,hxl,hf⟩:=qF agT h
 match cs,hl,xs,hxl with
 | [c0,c1],_,[y0,y1],_ =>
  have h0:=hf 0 _ _ _ rfl;have h1:=hf 1 _ _ _ rfl
  simp only at hx
  have hD:Rows.uptoBulk D=Rows.uptoBulk y0.1+(Rows.uptoBulk y1.1+0)+1:=by rw [hx];simp only [fG,pI,Rows.uptoBulk,Rows.uptoBulkAll]
  obtain ⟨k0,e0,d0,-⟩:=DataW.trod_int underlying3 h0;obtain ⟨k1,q1,e1,r1,d1⟩:=sj (dat:=nR.dat) (sz:=4) (by omega) underlying82 Yo h1 (fun n cs' D Pl hh _=>afS hh)
  simp at e0 e1
  subst e0 e1
  have b0:Rows.uptoBulk y0.1=1:=by rw [d0];rfl
  refine ⟨⟨k0,k1⟩,?_,?_⟩
  ·exact ⟨_,_,rfl,(by simp [av,Value.oneCell']),⟨_,_,rfl,r1,rfl⟩⟩
  simp only [fK.dat,cB,oo];omega
theorem agO:pG prog 96 6 [(3,0,1),(3,1,1),(9,2,1),(3,3,1),(9,4,1),(4,5,1)]:=⟨by kernel_rfl,by kernel_rfl,by kernel_rfl⟩
theorem Yk:prog.cellsOf 96=6:=by kernel_rfl
theorem afN {n:Nat} {cs:List aj} {D:DataW H} {Pl:List MemPlace} (h:DataW.trod enc prog W base spare held n 96 cs=some (D,Pl)):∃ r:iC,aS (nW W) r.dat cs∧cB r.dat+1≤8*Rows.uptoBulk D:=by
 obtain ⟨xs,m,hx,hl,hxl,hf⟩:=qF agO h
 match cs,hl,xs,hxl with
 | [c0,c1,c2,c3,c4,c5],_,[y0,y1,y2,y3,y4,y5],_ =>
  have h0:=hf 0 _ _ _ rfl;have h1:=hf 1 _ _ _ rfl;have h2:=hf 2 _ _ _ rfl;have h3:=hf 3 _ _ _ rfl;have h4:=hf 4 _ _ _ rfl;have h5:=hf 5 _ _ _ rfl
  simp only at hx
  have hD:Rows.uptoBulk D=Rows.uptoBulk y0.1+(Rows.uptoBulk y1.1+(Rows.uptoBulk y2.1+(Rows.uptoBulk y3.1+(Rows.uptoBulk y4.1+(Rows.uptoBulk y5.1+0)))))+1:=by rw [hx];simp only [fG,pI,Rows.uptoBulk,Rows.uptoBulkAll]
  obtain ⟨k0,e0,d0,-⟩:=DataW.trod_int underlying3 h0;obtain ⟨k1,e1,d1,-⟩:=DataW.trod_int underlying3 h1;obtain ⟨k2,e2,d2,-⟩:=DataW.trod_string underlying9 h2;obtain ⟨k3,e3,d3,-⟩:=DataW.trod_int underlying3 h3;obtain ⟨k4,e4,d4,-⟩:=DataW.trod_string underlying9 h4;obtain ⟨k5,e5,d5⟩:=DataW.trod_bool underlying4 h5
  simp at e0 e1 e2 e3 e4 e5
  subst e0 e1 e2 e3 e4 e5
  have b0:Rows.uptoBulk y0.1=1:=by rw [d0];rfl
  have b1:Rows.uptoBulk y1.1=1:=by rw [d1];rfl
  have b2:Rows.uptoBulk y2.1=k2.size+1:=by rw [d2];show k2.data.toList.length+1=k2.data.size+1;rw [rE]
  have b3:Rows.uptoBulk y3.1=1:=by rw [d3];rfl
  have b4:Rows.uptoBulk y4.1=k4.size+1:=by rw [d4];show k4.data.toList.length+1=k4.data.size+1;rw [rE]
  have b5:Rows.uptoBulk y5.1=1:=by rw [d5];rfl
  refine ⟨⟨k0,k1,k2,k3,k4,k5⟩,?_,?_⟩
  ·exact ⟨_,_,rfl,(by simp [av,Value.oneCell']),⟨_,_,rfl,(by simp [av,Value.oneCell']),⟨_,_,rfl,(by simp [av,Value.oneCell']),⟨_,_,rfl,(by simp [av,Value.oneCell']),⟨_,_,rfl,(by simp [av,Value.oneCell']),⟨_,_,rfl,(by simp [av,Value.oneCell']),rfl⟩⟩⟩⟩⟩⟩
  simp only [iC.dat,cB,oo];omega
theorem ahb:pG prog 99 2 [(9,0,1),(9,1,1)]:=⟨by kernel_rfl,by kernel_rfl,by kernel_rfl⟩
theorem Yt:prog.cellsOf 99=2:=by kernel_rfl
theorem afX {n:Nat} {cs:List aj} {D:DataW H} {Pl:List MemPlace} (h:DataW.trod enc prog W base spare held n 99 cs=some (D,Pl)):∃ r:lg,aS (nW W) r.dat cs∧cB r.dat+1≤8*Rows.uptoBulk D:=by
 obtain ⟨xs,m,hx,hl,hxl,hf⟩:=qF ahb h
 match cs,hl,xs,hxl with
 | [c0,c1],_,[y0,y1],_ =>
  have h0:=hf 0 _ _ _ rfl;have h1:=hf 1 _ _ _ rfl
  simp only at hx
  have hD:Rows.uptoBulk D=Rows.uptoBulk y0.1+(Rows.uptoBulk y1.1+0)+1:=by rw [hx];simp only [fG,pI,Rows.uptoBulk,Rows.uptoBulkAll]
  obtain ⟨k0,e0,d0,-⟩:=DataW.trod_string underlying9 h0;obtain ⟨k1,e1,d1,-⟩:=DataW.trod_string underlying9 h1
  simp at e0 e1
  subst e0 e1
  have b0:Rows.uptoBulk y0.1=k0.size+1:=by rw [d0];show k0.data.toList.length+1=k0.data.size+1;rw [rE]
  have b1:Rows.uptoBulk y1.1=k1.size+1:=by rw [d1];show k1.data.toList.length+1=k1.data.size+1;rw [rE]
  refine ⟨⟨k0,k1⟩,?_,?_⟩
  ·exact ⟨_,_,rfl,(by simp [av,Value.oneCell']),⟨_,_,rfl,(by simp [av,Value.oneCell']),rfl⟩⟩
  simp only [lg.dat,cB,oo];omega
theorem agY:pG prog 49 3 [(3,0,1),(9,1,1),(3,2,1)]:=⟨by kernel_rfl,by kernel_rfl,by kernel_rfl⟩
theorem Yq:prog.cellsOf 49=3:=by kernel_rfl
theorem afU {n:Nat} {cs:List aj} {D:DataW H} {Pl:List MemPlace} (h:DataW.trod enc prog W base spare held n 49 cs=some (D,Pl)):∃ r:eZ,aS (nW W) r.dat cs∧cB r.dat+1≤8*Rows.uptoBulk D:=by
 obtain ⟨xs,m,hx,hl,hxl,hf⟩:=qF agY h
 match cs,hl,xs,hxl with
 | [c0,c1,c2],_,[y0,y1,y2],_ =>
  have h0:=hf 0 _ _ _ rfl;have h1:=hf 1 _ _ _ rfl;have h2:=hf 2 _ _ _ rfl
  simp only at hx
  have hD:Rows.uptoBulk D=Rows.uptoBulk y0.1+(Rows.uptoBulk y1.1+(Rows.uptoBulk y2.1+0))+1:=by rw [hx];simp only [fG,pI,Rows.uptoBulk,Rows.uptoBulkAll]
  obtain ⟨k0,e0,d0,-⟩:=DataW.trod_int underlying3 h0;obtain ⟨k1,e1,d1,-⟩:=DataW.trod_string underlying9 h1;obtain ⟨k2,e2,d2,-⟩:=DataW.trod_int underlying3 h2
  simp at e0 e1 e2
  subst e0 e1 e2
  have b0:Rows.uptoBulk y0.1=1:=by rw [d0];rfl
  have b1:Rows.uptoBulk y1.1=k1.size+1:=by rw [d1];show k1.data.toList.length+1=k1.data.size+1;rw [rE]
  have b2:Rows.uptoBulk y2.1=1:=by rw [d2];rfl
  refine ⟨⟨k0,k1,k2⟩,?_,?_⟩
  ·exact ⟨_,_,rfl,(by simp [av,Value.oneCell']),⟨_,_,rfl,(by simp [av,Value.oneCell']),⟨_,_,rfl,(by simp [av,Value.oneCell']),rfl⟩⟩⟩
  simp only [eZ.dat,cB,oo];omega
theorem agZ:pG prog 36 4 [(31,0,1),(32,1,1),(33,2,1),(34,3,1)]:=⟨by kernel_rfl,by kernel_rfl,by kernel_rfl⟩
structure Ld (s:yF) (n:Nat):Prop where
 st:dZ (s.styles.map bL.dat)≤n
 li:dZ (s.lists.map fK.dat)≤n
 cm:dZ (s.comments.map iC.dat)≤n
 va:dZ (s.vars.map lg.dat)≤n
theorem Ld.zn {s:yF} {n:Nat} (h:Ld s n) (hn:n≤4294967296):Le s∧s.styles.length≤4294967296:=by
 obtain ⟨h1,h2,h3,h4⟩:=h;have l1:=qY (s.styles.map bL.dat);have l2:=qY (s.lists.map fK.dat);have l3:=qY (s.comments.map iC.dat);have l4:=qY (s.vars.map lg.dat);rw [bW] at l1 l2 l3 l4;refine ⟨⟨fun x hx=>?_,by omega,fun x hx y hy=>?_,by omega,fun x hx=>?_,by omega,fun x hx=>?_⟩,by omega⟩
 ·have:=CV (dat:=bL.dat) hx
  simp only [bL.dat,cB,oo] at this;omega
 ·have:=CV (dat:=fK.dat) hx
  simp only [fK.dat,cB,oo] at this
  have h5:=CV (dat:=nR.dat) hy
  simp only [nR.dat,cB,oo] at h5;omega
 ·have:=CV (dat:=iC.dat) hx
  simp only [iC.dat,cB,oo] at this;omega
 have:=CV (dat:=lg.dat) hx
 simp only [lg.dat,cB,oo] at this;omega
theorem afV {n:Nat} {cs:List aj} {x:DataW H × List MemPlace} (h:DataW.trod enc prog W base spare held n 36 cs=some x):∃ (s:yF) (a b c d:aj),cs=[a,b,c,d]∧Dn (nW W) s a b c d∧Ld s (8*Rows.uptoBulk x.1):=by
 obtain ⟨xs,m,hx,hl,hxl,hf⟩:=qF agZ h
 match cs,hl,xs,hxl with
 | [c0,c1,c2,c3],_,[y0,y1,y2,y3],_ =>
  have h0:=hf 0 _ _ _ rfl;have h1:=hf 1 _ _ _ rfl;have h2:=hf 2 _ _ _ rfl;have h3:=hf 3 _ _ _ rfl;obtain ⟨k0,q0,e0,r0,d0⟩:=sj (dat:=bL.dat) (sz:=6) (by omega) underlying31 Yr h0 (fun n cs' D Pl hh _=>afW hh);obtain ⟨k1,q1,e1,r1,d1⟩:=sj (dat:=fK.dat) (sz:=2) (by omega) underlying32 Yn h1 (fun n cs' D Pl hh _=>afT hh);obtain ⟨k2,q2,e2,r2,d2⟩:=sj (dat:=iC.dat) (sz:=6) (by omega) underlying33 Yk h2 (fun n cs' D Pl hh _=>afN hh);obtain ⟨k3,q3,e3,r3,d3⟩:=sj (dat:=lg.dat) (sz:=2) (by omega) underlying34 Yt h3 (fun n cs' D Pl hh _=>afX hh)
  simp at e0 e1 e2 e3
  subst e0 e1 e2 e3
  have hD:Rows.uptoBulk x.1=Rows.uptoBulk y0.1+(Rows.uptoBulk y1.1+(Rows.uptoBulk y2.1+(Rows.uptoBulk y3.1+0)))+1:=by rw [hx];simp only [fG,pI,Rows.uptoBulk,Rows.uptoBulkAll]
  exact ⟨⟨k0,k1,k2,k3⟩,_,_,_,_,rfl,⟨r0,r1,r2,r3⟩,⟨by show dZ (k0.map _)≤_;omega,by show dZ (k1.map _)≤_;omega,by show dZ (k2.map _)≤_;omega,by show dZ (k3.map _)≤_;omega⟩⟩
theorem VD:pG prog 38 11 [(22,0,1),(29,1,5),(30,6,1),(36,7,4)]:=⟨by kernel_rfl,by kernel_rfl,by kernel_rfl⟩
theorem zH {G:GH} {sz:Nat} {rs:List (List Dat)} {v:aj} (h:av G (.sl sz rs) v):∃ x,v=fJ x:=by
 obtain ⟨a,n,c,rfl⟩:=h.form;exact ⟨(a,n,c),rfl⟩
theorem afP {n:Nat} {cs:List aj} {x:DataW H × List MemPlace} (h:DataW.trod enc prog W base spare held n 38 cs=some x) (hb:Rows.uptoBulk x.1≤1048576):∃ (D:jQ) (d:vJ),cs=D.cells∧Bv (nW W) D d∧Ii d:=by
 obtain ⟨xs,m,hx,hl,hxl,hf⟩:=qF VD h
 match cs,hl,xs,hxl with
 | [c0,c1,c2,c3,c4,c5,c6,c7,c8,c9,c10],_,[y0,y1,y2,y3],_ =>
  have h0:=hf 0 _ _ _ rfl;have h1:=hf 1 _ _ _ rfl;have h2:=hf 2 _ _ _ rfl;have h3:=hf 3 _ _ _ rfl;obtain ⟨l,q0,e0,r0,d0⟩:=afQ h0;obtain ⟨hd,p,dd,ll,e1,r1,d1⟩:=J7 h1;obtain ⟨rv,q2,e2,r2,d2⟩:=sj (dat:=eZ.dat) (sz:=3) (by omega) underlying30 Yq h2 (fun n cs' D Pl hh _=>afU hh);obtain ⟨s,a,b,c,d,e3,r3,d3⟩:=afV h3
  simp at e0 e1 e2 e3
  obtain ⟨rfl,rfl,rfl,rfl,rfl⟩:=e1;obtain ⟨rfl,rfl,rfl,rfl⟩:=e3;subst e0 e2
  have hD:Rows.uptoBulk x.1=Rows.uptoBulk y0.1+(Rows.uptoBulk y1.1+(Rows.uptoBulk y2.1+(Rows.uptoBulk y3.1+0)))+1:=by rw [hx];simp only [fG,pI,Rows.uptoBulk,Rows.uptoBulkAll]
  obtain ⟨x0,rfl⟩:=zH r0;obtain ⟨x1,rfl⟩:=zH r1.props;obtain ⟨x2,rfl⟩:=zH r1.dH;obtain ⟨x3,rfl⟩:=zH r1.layers;obtain ⟨x4,rfl⟩:=zH r2;obtain ⟨x5,rfl⟩:=zH r3.st;obtain ⟨x6,rfl⟩:=zH r3.li;obtain ⟨x7,rfl⟩:=zH r3.cm;obtain ⟨x8,rfl⟩:=zH r3.va;obtain ⟨hz1,hz2⟩:=d3.zn (by omega);have l2:=qY (rv.map eZ.dat);rw [bW] at l2;refine ⟨⟨x0,x1,x2,x3,x4,x5,x6,x7,x8,hd.marks.ins,hd.marks.move⟩,⟨l,hd,rv,s⟩,rfl,⟨r0,r1,rfl,rfl,r2,r3⟩,⟨by show bG l≤_;omega,by show pE hd≤_;omega,by show rv.length≤_;omega,fun x hx=>?_,hz2,hz1⟩⟩;have:=CV (dat:=eZ.dat) hx
  simp only [eZ.dat,cB,oo] at this
  omega
end
end
end Go.Proofs.YtdacibabefnabaaGreat
