/-
  What the claim stands on, part 3: Prc Fst Nam Pn De Dj Mp Dk Dw Lsc Dm Dl Lfl Dv Lpc Scn By Lps Lcl Dst Sty Mk Stz.
-/
import Derived.Test.YtdacibabefnabaaGreatWkb
import Derived.MapKept
import Derived.Lib.ConvBytes
import Derived.Laws.MakeOwn
namespace Go.Proofs.YtdacibabefnabaaGreat
open Go.Proofs.Tryz
section
open Go.RowKit
theorem xO:dV prog 166 0 0:=⟨by kernel_rfl⟩
theorem Rz:∀ args w,(callFunc 81 args).run prog w=.ok (.enter 81 args) w:=enters func81 rfl (by kernel_rfl)
theorem RB:dV prog 166 1 1:=⟨by kernel_rfl⟩
theorem GN:∀ args w,(callFunc 82 args).run prog w=.ok (.enter 82 args) w:=enters func82 rfl (by kernel_rfl)
def JM (q:Option Int) (k:Int):Bool:=match q with|some j=>decide (k < j)|none=>false
def Dz (e:Int):Option Int→List gV→Int
 | _,[]=>0
 | q,p :: r=>if Bh e p.key=false then 4 else if q=some p.key then 7 else if JM q p.key=true then 6 else if tH p.key p.value=0 then Dz e (some p.key) r else tH p.key p.value
def BQ (l:List gV) (k:Nat):Option Int:=if k=0 then none else l[k - 1]?.map gV.key
def iU (e:Int) (l:List gV):Int:=if e < 1∨10 < e then 3 else Dz e none l
theorem adz {e:Int} {l:List gV} {k:Nat} (h:k < l.length):Dz e (BQ l k) (l.drop k)=if Bh e l[k].key=false then 4 else if BQ l k=some l[k].key then 7 else if JM (BQ l k) l[k].key=true then 6 else if tH l[k].key l[k].value=0 then Dz e (BQ l (k+1)) (l.drop (k+1)) else tH l[k].key l[k].value:=by
 rw [nD h,Dz]
 have:BQ l (k+1)=some l[k].key:=by rw [BQ,ah (by omega),Nat.add_sub_cancel,fT h];rfl
 rw [this]
theorem PK {l:List gV} {k:Nat} (h:k=0):BQ l k=none:=av h
theorem U2 (G:GH) (w0:World) (hG:Hold G w0) (e:Int) (l:List gV) (v:ak) (hv:au G (.sl 2 (l.map gV.dat)) v) :
  Calls prog 78 #[vi e,v] w0 (bJ w0 G fun u G'=>u=vi (iU e l)):=by
 obtain ⟨A,c,rfl,hc1,hc2,-⟩:=hv.slice;have hml:maxLen=9223372036854775807:=rfl;rw [bV] at *;refine eN [(0,_),(1,_)] func78 rfl ntmps78 rfl rfl hG ?_;intro a H;refine kP H (SR fun _ K1=>aj K1 rfl (SQ fun _ K2=>SR fun _ K3=>Rm rfl (Rc rfl (Rm rfl (Sp 10 rfl ?_ ?_))))) <;> clear H K1
 ·intro h10 a H
  try have jw:=dT h10
  refine kH H (aN h10 rfl (Pt h10 rfl (Kz K3 (Ct rfl rfl (SR fun _ K4=>aj K4 rfl ?_)))));clear H K3 K4;intro a H;refine lr H results78 rfl ?_
  first
   | exact H.rt (aB vi (by rw [ah (by simpa using p61)] at heq;rw [iU,ah (by omega)];exact heq))
   | exact H.rt (aB vi (by rw [av (by simpa using h21)] at heq;rw [iU,ah (by omega)];exact heq))
   | exact H.rt (aB vi (by rw [iU,ah (by omega)];exact heq))
   | exact H.rt (aB vi (by rw [iU,ah (by omega),← heq,show l.drop k=[] from iw (by omega)];rfl))
   | exact H.rt (aB vi (by rw [iU,av (by omega)]))
 intro h10 a H
 try have jw:=dF h10
 refine kH H (YM h10 rfl (YC h10 rfl (Pf h10 rfl (Kz K3 (Cd rfl ?_ ?_))))) <;> clear H K3
 ·intro gG a H
  try have rR:=dT gG
  refine kP H (SR fun _ K5=>aj K5 rfl ?_);clear H K5;intro a H;refine lr H results78 rfl ?_
  first
   | exact H.rt (aB vi (by rw [ah (by simpa using p61)] at heq;rw [iU,ah (by omega)];exact heq))
   | exact H.rt (aB vi (by rw [av (by simpa using h21)] at heq;rw [iU,ah (by omega)];exact heq))
   | exact H.rt (aB vi (by rw [iU,ah (by omega)];exact heq))
   | exact H.rt (aB vi (by rw [iU,ah (by omega),← heq,show l.drop k=[] from iw (by omega)];rfl))
   | exact H.rt (aB vi (by rw [iU,av (by omega)]))
 intro gG a H
 try have rR:=dF gG
 refine kP H (Kc K2 (SQ fun _ K6=>SR fun _ K7=>Rm rfl (Rl nW rfl (Rm rfl (Kz K7 (SB ?_))))));clear H K2 K7;intro a H;skip;refine eH (ι:=Nat × GH) (Tc:=[(0,_),(1,_),(14,_),(15,_)]) (Lc:=[]) (fun gh=>[(16,vi gh.1)]) (fun gh=>[]) (fun gh=>gh.2) (fun gh=>gh.1≤l.length∧Dz e (BQ l gh.1) (l.drop gh.1)=Dz e none l∧(∀ b o,G b=some o→gh.2 b=some o)) (fun gh=>l.length - gh.1) ((0,G)) (by exact (H).sub ⟨rfl,rfl,rfl,rfl,rfl,aC⟩) ?_ ?_
 ·exact ⟨iF _,rfl,fun _ _ h=>h⟩
 clear H;intro gh a w hI H;obtain ⟨k,g⟩:=gh;dsimp only at hI H;obtain ⟨hk,heq,hgm⟩:=hI;dsimp only [lca,aV] at H;refine kP H (SR fun _ K8=>Rc rfl (Kz K8 (SQ fun _ K9=>Cd rfl ?_ ?_))) <;> clear H K8
 ·intro bX a H
  try have kQ:=dT bX
  have hk2:k < l.length:=by omega
  have Ib:=hv.mono hgm;obtain ⟨b,o,rfl,hrow⟩:=MN Ib hk2
  obtain ⟨pk,hpk⟩:∃ pk,0 < k→aF g b (o+(k - 1)*2+0)=some (vi pk)∧BQ l k=some pk:=by
   by_cases h0:0 < k
   ·obtain ⟨b',o',he,hr'⟩:=MN Ib (show k - 1 < l.length by omega)
    injection he with he
    injection he with e1 e2 e3
    subst e1;subst e2;exact ⟨_,fun _=>⟨hr' 0 _ rfl,by rw [BQ,ah (by omega),fT (by omega)];rfl⟩⟩
   exact ⟨0,fun h=>absurd h h0⟩
  rw [adz hk2] at heq;have apb:=heq;refine kP H (Kc K9 (SQ fun _ aT=>SB (SR fun _ bB=>Rm rfl (Ri nW oN rfl rfl ?_))));clear H K9;intro a H;refine aW oN (cs:=[_,_]) H wn rfl rfl (fun j v hj=>H.hp.aF (hrow j v hj)) rfl ?_;clear H;intro a H;refine dU oN H wn rfl ?_;clear H;intro b6 a w hb6 H;refine kH H (Ra rfl ?_);clear H;intro a H;refine bN oN 0 (vs:=[_,_]) _ H wn rfl rfl rfl rfl rfl rfl rfl rfl ?_;clear H;intro w H;dsimp only [List.set,setRow] at H;refine bB _ _ ?_;clear bB;refine qL (ι:=GH) (Tc:=[(0,_),(1,_),(6,_),(14,_),(15,_),(16,_)]) (Lc:=[(_,_)]) (fun gh=>[]) (fun gh=>[]) (fun gh=>gh) (fun gh=>(if tH l[k].key l[k].value=0 then Dz e (BQ l (k+1)) (l.drop (k+1)) else tH l[k].key l[k].value)=Dz e none l∧(∀ b o,g b=some o→gh b=some o)) (by exact (H).sub ⟨rfl,rfl,rfl,rfl,rfl,rfl,aC⟩) ?_ ?_
  ·skip;refine kP H (SB (SR fun _ bC=>Rm rfl (bg xO aD 0 rfl rfl ?_)));clear H;intro a H;refine s_call Rz H wn rfl (RL _ _ H.ro e l[k].key) rfl ?_;clear H;rintro v25 G25 a w rfl H6 H;replace hrow:=fun j u hj=>ay H6 (hrow j u hj);refine kH H (Rn rfl (aj bC rfl (Cd rfl ?_ ?_))) <;> clear H bC
   ·intro h21 a H
    try have oM:=dT h21
    refine kP H (SR fun _ bK=>aj bK rfl ?_);clear H bK;intro a H;refine lr H results78 rfl ?_
    first
     | exact H.rt (aB vi (by rw [ah (by simpa using p61)] at heq;rw [iU,ah (by omega)];exact heq))
     | exact H.rt (aB vi (by rw [av (by simpa using h21)] at heq;rw [iU,ah (by omega)];exact heq))
     | exact H.rt (aB vi (by rw [iU,ah (by omega)];exact heq))
     | exact H.rt (aB vi (by rw [iU,ah (by omega),← heq,show l.drop k=[] from iw (by omega)];rfl))
     | exact H.rt (aB vi (by rw [iU,av (by omega)]))
   intro h21 a H
   try have oM:=dF h21
   rw [ah (by simpa using h21)] at heq;refine aS (fun _ bP=>?_)
   by_cases c0:0 < (k:Int)
   ·skip
    by_cases c1:l[k].key=pk
    ·skip;refine dI hmx [[],[0],[0,1],[0,1,2],(ra 0 4),[0,1,2],[0,1,2],[0,1,2,6],[0,1,2,5,6,7],[0,1,2,5,6,7,8],[0,1,2,5,6,7,8,9],(ra 0 11),(ra 0 12),(ra 0 13)] [13] (by kernel_rfl) [_,_,_,_,vi l[k].key,_,_,vi ((k - 1:Nat):Int),_,_,_,_,_] H (aG (Z0 rfl (Rm rfl)) (Z1 0 28 rfl (Rc rfl)) (Z1 1 29 rfl (Rm rfl)) (Z1 2 30 rfl (YF xO (aI c0) rfl)) (aG (Z2 3 31 2 30 rfl (YO aD 0 (aI c0) rfl)) (Z1 2 30 rfl (YM (aI c0) rfl)) (Z1 2 30 rfl (YM (aI c0) rfl)) ?_ (aG (Z3 5 33 7 35 2 30 rfl (YI nW oN (aI c0) rfl rfl)) (Z2 8 36 2 30 rfl (YF xO (aI c0) rfl)) (X2 9 37 2 30 rfl fun hG=>YR aD (aI c0) rfl (ay hG (ay H6 (hpk (by omega)).1))) (Z3 4 32 10 38 2 30 rfl (YC (aI c0) rfl)) (bq (Z2 2 30 11 39 rfl (Pt (aI c0) rfl)) (bq (bY rfl) dD))))) ?_
     ·refine eu 6 34 2 30 rfl rfl fun _ a w G1 hG HT H fin=>?_;refine nU _ H (wg H rfl rfl (aI c0)) rfl rfl rfl (by omega) (by omega) rfl ?_;clear H;intro a H;exact fin H iJ (by show _=_;first|rfl|exact aB vi (by omega))
     clear H;intro a w G rG H hv;have H:=H.aZ (hv 12 40 rfl rfl) rfl;clear hv;refine kH H (Ra rfl ?_);clear H;intro a H;refine aH ⟨rfl,?_⟩;refine bP _ _ ?_;clear bP;refine yV H rfl (aI c1) ?_;refine aS (fun _ dx=>?_);rw [av (by rw [(hpk (by omega)).2,c1])] at heq;refine kP H (SC (aO dx rfl ?_));clear H dx;intro a H;refine lr H results78 rfl ?_
     first
      | exact H.rt (aB vi (by rw [ah (by simpa using p61)] at heq;rw [iU,ah (by omega)];exact heq))
      | exact H.rt (aB vi (by rw [av (by simpa using h21)] at heq;rw [iU,ah (by omega)];exact heq))
      | exact H.rt (aB vi (by rw [iU,ah (by omega)];exact heq))
      | exact H.rt (aB vi (by rw [iU,ah (by omega),← heq,show l.drop k=[] from iw (by omega)];rfl))
      | exact H.rt (aB vi (by rw [iU,av (by omega)]))
    skip;refine dI hmx [[],[0],[0,1],[0,1,2],(ra 0 4),[0,1,2],[0,1,2],[0,1,2,6],[0,1,2,5,6,7],[0,1,2,5,6,7,8],[0,1,2,5,6,7,8,9],(ra 0 11),(ra 0 12),(ra 0 13)] [13] (by kernel_rfl) [_,_,_,_,vi l[k].key,_,_,vi ((k - 1:Nat):Int),_,_,_,_,_] H (aG (Z0 rfl (Rm rfl)) (Z1 0 28 rfl (Rc rfl)) (Z1 1 29 rfl (Rm rfl)) (Z1 2 30 rfl (YF xO (aI c0) rfl)) (aG (Z2 3 31 2 30 rfl (YO aD 0 (aI c0) rfl)) (Z1 2 30 rfl (YM (aI c0) rfl)) (Z1 2 30 rfl (YM (aI c0) rfl)) ?_ (aG (Z3 5 33 7 35 2 30 rfl (YI nW oN (aI c0) rfl rfl)) (Z2 8 36 2 30 rfl (YF xO (aI c0) rfl)) (X2 9 37 2 30 rfl fun hG=>YR aD (aI c0) rfl (ay hG (ay H6 (hpk (by omega)).1))) (Z3 4 32 10 38 2 30 rfl (YC (aI c0) rfl)) (bq (Z2 2 30 11 39 rfl (Pt (aI c0) rfl)) (bq (bY rfl) dD))))) ?_
    ·refine eu 6 34 2 30 rfl rfl fun _ a w G1 hG HT H fin=>?_;refine nU _ H (wg H rfl rfl (aI c0)) rfl rfl rfl (by omega) (by omega) rfl ?_;clear H;intro a H;exact fin H iJ (by show _=_;first|rfl|exact aB vi (by omega))
    clear H;intro a w G rG H hv;have H:=H.aZ (hv 12 40 rfl rfl) rfl;clear hv;refine kH H (Ra rfl ?_);clear H;intro a H;refine aH ⟨rfl,?_⟩;refine bP _ _ ?_;clear bP;refine om H rfl (aR c1) ?_;refine aS (fun _ dP=>?_)
    have q1:¬ (0 < (k:Int)∧l[k].key=pk):=by first|exact fun h=>c1 h.2|exact fun h=>c0 h.1
    rw [ah (fun h=>q1 (by
     by_cases h0:0 < k
     ·rw [(hpk h0).2] at h
      injection h with h
      exact ⟨by omega,h.symm⟩
     rw [PK (by omega)] at h
     cases h))] at heq
    by_cases c3:l[k].key < pk
    ·skip;refine dI hmx [[],[0],[0,1],[0,1,2],(ra 0 4),[0,1,2],[0,1,2],[0,1,2,6],[0,1,2,5,6,7],[0,1,2,5,6,7,8],[0,1,2,5,6,7,8,9],(ra 0 11),(ra 0 12),(ra 0 13)] [13] (by kernel_rfl) [_,_,_,_,vi l[k].key,_,_,vi ((k - 1:Nat):Int),_,_,vi pk,_,_] H (aG (Z0 rfl (Rm rfl)) (Z1 0 42 rfl (Rc rfl)) (Z1 1 43 rfl (Rm rfl)) (Z1 2 44 rfl (YF xO (aI c0) rfl)) (aG (Z2 3 45 2 44 rfl (YO aD 0 (aI c0) rfl)) (Z1 2 44 rfl (YM (aI c0) rfl)) (Z1 2 44 rfl (YM (aI c0) rfl)) ?_ (aG (Z3 5 47 7 49 2 44 rfl (YI nW oN (aI c0) rfl rfl)) (Z2 8 50 2 44 rfl (YF xO (aI c0) rfl)) ?_ (Z3 4 46 10 52 2 44 rfl (YC (aI c0) rfl)) (bq (Z2 2 44 11 53 rfl (Pt (aI c0) rfl)) (bq (bY rfl) dD))))) ?_
     ·refine eu 6 48 2 44 rfl rfl fun _ a w G1 hG HT H fin=>?_;refine nU _ H (wg H rfl rfl (aI c0)) rfl rfl rfl (by omega) (by omega) rfl ?_;clear H;intro a H;exact fin H iJ (by show _=_;first|rfl|exact aB vi (by omega))
     ·refine eu 9 51 2 44 rfl rfl fun _ a w G1 hG HT H fin=>?_;refine zT aD H (wg H rfl rfl (aI c0)) rfl (H.hp.aF (ay hG (ay rG (ay H6 (hpk (by omega)).1)))) rfl ?_;clear H;intro a H;exact fin H iJ rfl
     clear H;intro a w G pW H hv;have H:=H.aZ (hv 12 54 rfl rfl) rfl;clear hv;refine kH H (Ra rfl ?_);clear H;intro a H;refine aH ⟨rfl,?_⟩;refine dP _ _ ?_;clear dP;refine yV H rfl (aI c3) ?_;refine aS (fun _ dB=>?_);rw [av (by rw [(hpk (by omega)).2];exact aI c3)] at heq;refine kP H (SC (aO dB rfl ?_));clear H dB;intro a H;refine lr H results78 rfl ?_
     first
      | exact H.rt (aB vi (by rw [ah (by simpa using p61)] at heq;rw [iU,ah (by omega)];exact heq))
      | exact H.rt (aB vi (by rw [av (by simpa using h21)] at heq;rw [iU,ah (by omega)];exact heq))
      | exact H.rt (aB vi (by rw [iU,ah (by omega)];exact heq))
      | exact H.rt (aB vi (by rw [iU,ah (by omega),← heq,show l.drop k=[] from iw (by omega)];rfl))
      | exact H.rt (aB vi (by rw [iU,av (by omega)]))
    skip;refine dI hmx [[],[0],[0,1],[0,1,2],(ra 0 4),[0,1,2],[0,1,2],[0,1,2,6],[0,1,2,5,6,7],[0,1,2,5,6,7,8],[0,1,2,5,6,7,8,9],(ra 0 11),(ra 0 12),(ra 0 13)] [13] (by kernel_rfl) [_,_,_,_,vi l[k].key,_,_,vi ((k - 1:Nat):Int),_,_,vi pk,_,_] H (aG (Z0 rfl (Rm rfl)) (Z1 0 42 rfl (Rc rfl)) (Z1 1 43 rfl (Rm rfl)) (Z1 2 44 rfl (YF xO (aI c0) rfl)) (aG (Z2 3 45 2 44 rfl (YO aD 0 (aI c0) rfl)) (Z1 2 44 rfl (YM (aI c0) rfl)) (Z1 2 44 rfl (YM (aI c0) rfl)) ?_ (aG (Z3 5 47 7 49 2 44 rfl (YI nW oN (aI c0) rfl rfl)) (Z2 8 50 2 44 rfl (YF xO (aI c0) rfl)) ?_ (Z3 4 46 10 52 2 44 rfl (YC (aI c0) rfl)) (bq (Z2 2 44 11 53 rfl (Pt (aI c0) rfl)) (bq (bY rfl) dD))))) ?_
    ·refine eu 6 48 2 44 rfl rfl fun _ a w G1 hG HT H fin=>?_;refine nU _ H (wg H rfl rfl (aI c0)) rfl rfl rfl (by omega) (by omega) rfl ?_;clear H;intro a H;exact fin H iJ (by show _=_;first|rfl|exact aB vi (by omega))
    ·refine eu 9 51 2 44 rfl rfl fun _ a w G1 hG HT H fin=>?_;refine zT aD H (wg H rfl rfl (aI c0)) rfl (H.hp.aF (ay hG (ay rG (ay H6 (hpk (by omega)).1)))) rfl ?_;clear H;intro a H;exact fin H iJ rfl
    clear H;intro a w G pW H hv;have H:=H.aZ (hv 12 54 rfl rfl) rfl;clear hv;refine kH H (Ra rfl ?_);clear H;intro a H;refine aH ⟨rfl,?_⟩;refine dP _ _ ?_;clear dP;refine om H rfl (aR c3) ?_;refine fu ?_;refine ⟨_,by exact (H).sub ⟨rfl,rfl,rfl,rfl,rfl,rfl,aC⟩,?_⟩
    have q2:¬ (0 < (k:Int)∧l[k].key < pk):=by first|exact fun h=>c3 h.2|exact fun h=>c0 h.1
    rw [ah (fun h=>q2 (by
     by_cases h0:0 < k
     ·rw [(hpk h0).2] at h;exact ⟨by omega,tC h⟩
     rw [PK (by omega)] at h
     cases h))] at heq
    exact ⟨heq,fun b o h=>pW b o (rG b o (H6 b o h))⟩
   skip;refine dI hmx [[],[0],[0,1],[0,1,2],(ra 0 4),[0,1,2],[0,1,2],[0,1,2,6],[0,1,2,5,6,7],[0,1,2,5,6,7,8],[0,1,2,5,6,7,8,9],(ra 0 11),(ra 0 12),(ra 0 13)] [13] (by kernel_rfl) [_,_,_,undef,undef,undef,undef,undef,undef,undef,undef,undef,_] H (aG (Z0 rfl (Rm rfl)) (Z1 0 28 rfl (Rc rfl)) (Z1 1 29 rfl (Rm rfl)) (aX (j:=2) (by kernel_rfl) (fun _ _ _ _ _ h=>h) rfl rfl rfl rfl rfl (fun _ _ h=>aY h (aL (aR c0))) rfl (fun _=>rfl)) (aG (aX (j:=2) (by kernel_rfl) (fun _ _ _ _ _ h=>h) rfl rfl rfl rfl rfl (fun _ _ h=>aY h (aL (aR c0))) rfl (fun _=>rfl)) (aX (j:=2) (by kernel_rfl) (fun _ _ _ _ _ h=>h) rfl rfl rfl rfl rfl (fun _ _ h=>aY h (aL (aR c0))) rfl (fun _=>rfl)) (aX (j:=2) (by kernel_rfl) (fun _ _ _ _ _ h=>h) rfl rfl rfl rfl rfl (fun _ _ h=>aY h (aL (aR c0))) rfl (fun _=>rfl)) (aX (j:=2) (by kernel_rfl) (fun _ _ _ _ _ h=>h) rfl rfl rfl rfl rfl (fun _ _ h=>aY h (aL (aR c0))) rfl (fun _=>rfl)) (aG (aX (j:=2) (by kernel_rfl) (fun _ _ _ _ _ h=>h) rfl rfl rfl rfl rfl (fun _ _ h=>aY h (aL (aR c0))) rfl (fun _=>rfl)) (aX (j:=2) (by kernel_rfl) (fun _ _ _ _ _ h=>h) rfl rfl rfl rfl rfl (fun _ _ h=>aY h (aL (aR c0))) rfl (fun _=>rfl)) (aX (j:=2) (by kernel_rfl) (fun _ _ _ _ _ h=>h) rfl rfl rfl rfl rfl (fun _ _ h=>aY h (aL (aR c0))) rfl (fun _=>rfl)) (aX (j:=2) (by kernel_rfl) (fun _ _ _ _ _ h=>h) rfl rfl rfl rfl rfl (fun _ _ h=>aY h (aL (aR c0))) rfl (fun _=>rfl)) (bq (Z2 2 30 11 39 rfl (Pf (aR c0) rfl)) (bq (bY rfl) dD))))) ?_
   clear H;intro a w G rG H hv;have H:=H.aZ (hv 12 40 rfl rfl) rfl;clear hv;refine kH H (Ra rfl ?_);clear H;intro a H;refine aH ⟨rfl,?_⟩;refine bP _ _ ?_;clear bP;refine om H rfl rfl ?_;refine aS (fun _ dY=>?_)
   have q1:¬ (0 < (k:Int)∧l[k].key=pk):=by first|exact fun h=>c1 h.2|exact fun h=>c0 h.1
   rw [ah (fun h=>q1 (by
    by_cases h0:0 < k
    ·rw [(hpk h0).2] at h
     injection h with h
     exact ⟨by omega,h.symm⟩
    rw [PK (by omega)] at h
    cases h))] at heq
   refine dI hmx [[],[0],[0,1],[0,1,2],(ra 0 4),[0,1,2],[0,1,2],[0,1,2,6],[0,1,2,5,6,7],[0,1,2,5,6,7,8],[0,1,2,5,6,7,8,9],(ra 0 11),(ra 0 12),(ra 0 13)] [13] (by kernel_rfl) [_,_,_,undef,undef,undef,undef,undef,undef,undef,undef,undef,_] H (aG (Z0 rfl (Rm rfl)) (Z1 0 42 rfl (Rc rfl)) (Z1 1 43 rfl (Rm rfl)) (aX (j:=2) (by kernel_rfl) (fun _ _ _ _ _ h=>h) rfl rfl rfl rfl rfl (fun _ _ h=>aY h (aL (aR c0))) rfl (fun _=>rfl)) (aG (aX (j:=2) (by kernel_rfl) (fun _ _ _ _ _ h=>h) rfl rfl rfl rfl rfl (fun _ _ h=>aY h (aL (aR c0))) rfl (fun _=>rfl)) (aX (j:=2) (by kernel_rfl) (fun _ _ _ _ _ h=>h) rfl rfl rfl rfl rfl (fun _ _ h=>aY h (aL (aR c0))) rfl (fun _=>rfl)) (aX (j:=2) (by kernel_rfl) (fun _ _ _ _ _ h=>h) rfl rfl rfl rfl rfl (fun _ _ h=>aY h (aL (aR c0))) rfl (fun _=>rfl)) (aX (j:=2) (by kernel_rfl) (fun _ _ _ _ _ h=>h) rfl rfl rfl rfl rfl (fun _ _ h=>aY h (aL (aR c0))) rfl (fun _=>rfl)) (aG (aX (j:=2) (by kernel_rfl) (fun _ _ _ _ _ h=>h) rfl rfl rfl rfl rfl (fun _ _ h=>aY h (aL (aR c0))) rfl (fun _=>rfl)) (aX (j:=2) (by kernel_rfl) (fun _ _ _ _ _ h=>h) rfl rfl rfl rfl rfl (fun _ _ h=>aY h (aL (aR c0))) rfl (fun _=>rfl)) (aX (j:=2) (by kernel_rfl) (fun _ _ _ _ _ h=>h) rfl rfl rfl rfl rfl (fun _ _ h=>aY h (aL (aR c0))) rfl (fun _=>rfl)) (aX (j:=2) (by kernel_rfl) (fun _ _ _ _ _ h=>h) rfl rfl rfl rfl rfl (fun _ _ h=>aY h (aL (aR c0))) rfl (fun _=>rfl)) (bq (Z2 2 44 11 53 rfl (Pf (aR c0) rfl)) (bq (bY rfl) dD))))) ?_
   clear H;intro a w G pW H hv;have H:=H.aZ (hv 12 54 rfl rfl) rfl;clear hv;refine kH H (Ra rfl ?_);clear H;intro a H;refine aH ⟨rfl,?_⟩;refine dY _ _ ?_;clear dY;refine om H rfl rfl ?_;refine fu ?_;refine ⟨_,by exact (H).sub ⟨rfl,rfl,rfl,rfl,rfl,rfl,aC⟩,?_⟩
   have q2:¬ (0 < (k:Int)∧l[k].key < pk):=by first|exact fun h=>c3 h.2|exact fun h=>c0 h.1
   rw [ah (fun h=>q2 (by
    by_cases h0:0 < k
    ·rw [(hpk h0).2] at h;exact ⟨by omega,tC h⟩
    rw [PK (by omega)] at h
    cases h))] at heq
   exact ⟨heq,fun b o h=>pW b o (rG b o (H6 b o h))⟩
  clear H;intro gh a w hI H;obtain ⟨g2,hgh⟩:∃ x,x=gh:=⟨_,rfl⟩;subst hgh;obtain ⟨heq,kG⟩:=hI;replace hrow:=fun j u hj=>ay kG (hrow j u hj);dsimp only [lca,aV] at H;refine kP H (SR fun _ eP=>bg xO aD 0 rfl rfl (bg RB aD 0 rfl rfl ?_));clear H;intro a H;refine s_call GN H wn rfl (GK _ _ H.ro l[k].key l[k].value) rfl ?_;clear H;rintro v59 G59 a w rfl ajw H;refine kH H (aj eP rfl (SR fun _ dZ=>Rm rfl (Rc rfl (Kz dZ (Cd rfl ?_ ?_))))) <;> clear H eP dZ
  ·intro pV a H
   try have p61:=dT pV
   refine kP H (SR fun _ eU=>Rm rfl (aj eU rfl ?_));clear H eU;intro a H;refine lr H results78 rfl ?_
   first
    | exact H.rt (aB vi (by rw [ah (by simpa using p61)] at heq;rw [iU,ah (by omega)];exact heq))
    | exact H.rt (aB vi (by rw [av (by simpa using h21)] at heq;rw [iU,ah (by omega)];exact heq))
    | exact H.rt (aB vi (by rw [iU,ah (by omega)];exact heq))
    | exact H.rt (aB vi (by rw [iU,ah (by omega),← heq,show l.drop k=[] from iw (by omega)];rfl))
    | exact H.rt (aB vi (by rw [iU,av (by omega)]))
  intro pV a H
  try have p61:=dF pV
  refine kP H (Kc aT (SC (Rd rfl (Rm rfl ?_))));clear H aT;intro a H;refine aH ?_;refine dK ((k+1,G59)) (by exact (H.dS (Pl:=[_]) (dL:=[]) [] (by decide) rfl).sub ⟨rfl,rfl,rfl,rfl,rfl,aC⟩) ?_ ?_
  ·(try dsimp only);exact ⟨by omega,by rw [av (by simpa using p61)] at heq;exact heq,fun b o h=>ajw b o (kG b o (hgm b o h))⟩
  first|omega|(dsimp only;omega)
 intro bX a H
 try have kQ:=dF bX
 refine dW ?_;refine K6 _ _ ?_;clear K6;refine kP H (SR fun _ fK=>aj fK rfl ?_);clear H fK;intro a H;refine lr H results78 rfl ?_
 first
  | exact H.rt (aB vi (by rw [ah (by simpa using p61)] at heq;rw [iU,ah (by omega)];exact heq))
  | exact H.rt (aB vi (by rw [av (by simpa using h21)] at heq;rw [iU,ah (by omega)];exact heq))
  | exact H.rt (aB vi (by rw [iU,ah (by omega)];exact heq))
  | exact H.rt (aB vi (by rw [iU,ah (by omega),← heq,show l.drop k=[] from iw (by omega)];rfl))
  | exact H.rt (aB vi (by rw [iU,av (by omega)]))
end
section
open Go.RowKit
theorem qZ:prog.underlying 210=some (.slice 41):=by kernel_rfl
theorem ze:∀ args w,(callFunc 128 args).run prog w=.ok (.enter 128 args) w:=enters func128 rfl (by kernel_rfl)
theorem zL (G:GH) (w0:World) (hG:Hold G w0) (n l h:Int):Calls prog 128 #[vi n,vi l,vi h] w0 (bJ w0 G fun u G'=>u=.bool (decide (l≤n∧n≤h))∧G=G'):=by
 refine eN [(0,_),(1,_),(2,_)] func128 rfl ntmps128 rfl rfl hG ?_;intro a H;refine kP H (SR fun _ K1=>aj K1 rfl (SR fun _ K2=>Rm rfl (Rm rfl (Rc rfl (Rm rfl (Sp 10 rfl ?_ ?_)))))) <;> clear H K1
 ·intro h10 a H
  try have jw:=dT h10
  exact kH H (YM h10 rfl (YM h10 rfl (YC h10 rfl (Pt h10 rfl (aj K2 rfl (LR results128 rfl fun H=>H.rt ⟨aL (by first|(simp_all;done)|(simp_all;omega)),rfl⟩))))))
 intro h10 a H
 try have jw:=dF h10
 exact kH H (aQ h10 rfl (Pf h10 rfl (aj K2 rfl (LR results128 rfl fun H=>H.rt ⟨aL (by first|(simp_all;done)|(simp_all;omega)),rfl⟩))))
def bQ (b:Bool) (e:Int):Int:=if b=true then e else 0
theorem kI (G:GH) (w0:World) (hG:Hold G w0) (b:Bool) (e:Int):Calls prog 70 #[.bool b,vi e] w0 (bJ w0 G fun u G'=>u=vi (bQ b e)∧G=G'):=by
 refine eN [(0,_),(1,_)] func70 rfl ntmps70 rfl rfl hG ?_;intro a H;refine kP H (SR fun _ K1=>aj K1 rfl (SQ fun _ K2=>SR fun _ K3=>Rm rfl (Kz K3 (Cd rfl ?_ ?_)))) <;> clear H K1 K3
 ·intro h5 a H
  try have p5:=dT h5
  exact kP H (SR fun _ K4=>Rm rfl (aj K4 rfl (LR results70 rfl fun H=>H.rt ⟨aB vi (by simp_all [bQ]),rfl⟩)))
 intro h5 a H
 try have p5:=dF h5
 exact kP H (Kc K2 (SR fun _ K5=>aj K5 rfl (LR results70 rfl fun H=>H.rt ⟨aB vi (by simp_all [bQ]),rfl⟩)))
def bT:List Int→Int
 | []=>0
 | e :: r=>if e≠0 then e else bT r
theorem Oa {l:List Int} {k:Nat} (h:k < l.length):bT (l.drop k)=if l[k]≠0 then l[k] else bT (l.drop (k+1)):=by
 rw [nD h,bT]
theorem sw (G:GH) (w0:World) (hG:Hold G w0) (l:List Int) (v:ak) (hv:au G (.sl 1 (l.map fun k=>[li k])) v) :
  Calls prog 65 #[v] w0 (bJ w0 G fun u G'=>u=vi (bT l)∧G=G'):=by
 obtain ⟨A,c,rfl,hc1,hc2,hg⟩:=hv.slice;have hml:maxLen=9223372036854775807:=rfl;rw [bV] at *;refine eN [(0,_)] func65 rfl ntmps65 rfl rfl hG ?_;intro a H;refine kP H (SR fun _ K1=>aj K1 rfl (SQ fun _ K2=>SR fun _ K3=>Rm rfl (Rl qZ rfl (Rm rfl (Kz K3 (SB ?_))))));clear H K1 K3;intro a H;skip;refine eH (ι:=Nat) (Tc:=[(5,_),(6,_)]) (Lc:=[]) (fun gh=>[(7,vi gh)]) (fun gh=>[]) (fun gh=>G) (fun gh=>gh≤l.length∧bT (l.drop gh)=bT l) (fun gh=>l.length - gh) (0) (by exact (H).sub ⟨rfl,rfl,rfl,aC⟩) ?_ ?_
 ·exact ⟨iF _,rfl⟩
 clear H;intro gh a w hI H;obtain ⟨k,hgh⟩:∃ x,x=gh:=⟨_,rfl⟩;subst hgh;obtain ⟨hk,he⟩:=hI;dsimp only [lca,aV] at H;refine kP H (SR fun _ K4=>Rc rfl (Kz K4 (SQ fun _ K5=>Cd rfl ?_ ?_))) <;> clear H K4
 ·intro h8 a H
  try have p8:=dT h8
  have hk2:k < l.length:=by omega
  obtain ⟨b,o,cs,rfl,hcl,hrow,hr⟩:=hg k [li l[k]] (by simp [hk2]);obtain ⟨v1,_,rfl,⟨rfl,-⟩,rfl⟩:∃ v vs,cs=v :: vs∧au G (li l[k]) v∧bH G [] vs:=hr
  have hcell:aF G b (o+k*1)=some (vi l[k]):=by simpa using hrow 0 _ rfl
  refine kP H (Kc K5 (SQ fun _ K6=>SB (SR fun _ K7=>Ri qZ iW rfl rfl (Rg iW rfl hcell (aj K7 rfl (SR fun _ K8=>Rm rfl (Rc rfl (Kz K8 (Cd rfl ?_ ?_))))))))) <;> clear H K5 K7 K8
  ·intro h12 a H
   try have pF:=dT h12
   exact kP H (SR fun _ K9=>Rm rfl (aj K9 rfl (LR results65 rfl fun H=>H.rt ⟨aB vi (by rw [Oa hk2,av pF] at he;exact he),rfl⟩)))
  intro h12 a H
  try have pF:=dF h12
  refine kP H (Kc K6 (SC (Rd rfl (Rm rfl ?_))));clear H K6;intro a H;refine aH ?_;refine dK ((k+1)) (by exact (H).sub ⟨rfl,rfl,rfl,aC⟩) ?_ ?_
  ·exact ⟨by omega,by rw [Oa hk2,ah pF] at he;exact he⟩
  first|omega|(dsimp only;omega)
 intro h8 a H
 try have p8:=dF h8
 refine dW ?_;refine K2 _ _ ?_;clear K2;exact kP H (SR fun _ aT=>aj aT rfl (LR results65 rfl fun H=>H.rt ⟨aB vi (by rw [iw (by omega)] at he;exact he),rfl⟩))
def uY (fv:ak) (Gi:GH) (n:Nat) (E:Nat→Int):Prop:=∀ i,i < n→∀ (G1:GH) (w1:World),(∀ b o,Gi b=some o→G1 b=some o)→Hold G1 w1→xB prog fv [vi i] w1 (bJ w1 G1 fun u G'=>u=vi (E i))
theorem uY.mono {fv:ak} {G G':GH} {n:Nat} {E:Nat→Int} (h:uY fv G n E) (hm:∀ b o,G b=some o→G' b=some o):uY fv G' n E:=fun i hi G1 w1 hG1=>h i hi G1 w1 fun b o hb=>hG1 b o (hm b o hb)
def iI (E:Nat→Int) (n:Nat):Int:=bT ((List.range n).map E)
theorem qJ {E:Nat→Int} {n k:Nat} (h:k < n):bT (((List.range n).map E).drop k)=if E k≠0 then E k else bT (((List.range n).map E).drop (k+1)):=by
 rw [Oa (by simpa using h)];simp
theorem KF (G:GH) (w0:World) (hG:Hold G w0) (n:Nat) (E:Nat→Int) (fv:ak) (hn:n≤4611686018427387904) (hf:uY fv G n E) :
  Calls prog 123 #[vi n,fv] w0 (bJ w0 G fun u G'=>u=vi (iI E n)):=by
 refine eN [(0,_),(1,_)] func123 rfl ntmps123 rfl rfl hG ?_;intro a H;refine kP H (SR fun _ K1=>aj K1 rfl (SQ fun _ K2=>SR fun _ K3=>Rm rfl (Rm rfl (Kz K3 (SB ?_)))));clear H K1 K3;intro a H;skip;refine eH (ι:=Nat × GH) (Tc:=[(1,_),(7,_)]) (Lc:=[]) (fun gh=>[(8,vi gh.1)]) (fun gh=>[]) (fun gh=>gh.2) (fun gh=>gh.1≤n∧bT (((List.range n).map E).drop gh.1)=iI E n∧(∀ b o,G b=some o→gh.2 b=some o)) (fun gh=>n - gh.1) ((0,G)) (by exact (H).sub ⟨rfl,rfl,rfl,aC⟩) ?_ ?_
 ·exact ⟨iF _,rfl,fun _ _ h=>h⟩
 clear H;intro gh a w hI H;obtain ⟨k,g⟩:=gh;dsimp only at hI H;obtain ⟨hk,he,hgm⟩:=hI;dsimp only [lca,aV] at H;refine kP H (SR fun _ K4=>Rc rfl (Kz K4 (SQ fun _ K5=>Cd rfl ?_ ?_))) <;> clear H K4
 ·intro h9 a H
  try have p9:=dT h9
  have hk2:k < n:=by omega
  refine kP H (Kc K5 (SQ fun _ K6=>SB (SR fun _ K7=>Rm rfl (aj K7 rfl (SR fun _ K8=>Rm rfl (Rm rfl ?_))))));clear H K5 K7;intro a H;refine pI H wn rfl rfl (hf k hk2 _ _ hgm H.ro) rfl ?_;clear H;rintro v13 yO a w rfl nT H;refine kH H (aj K8 rfl (SR fun _ K9=>Rm rfl (Rc rfl (Kz K9 (Cd rfl ?_ ?_))))) <;> clear H K8 K9
  ·intro fM a H
   try have oL:=dT fM
   exact kP H (SR fun _ aT=>Rm rfl (aj aT rfl (LR results123 rfl fun H=>H.rt (aB vi (by rw [qJ hk2,av oL] at he;exact he)))))
  intro fM a H
  try have oL:=dF fM
  refine kP H (Kc K6 (SC (Rd rfl (Rm rfl ?_))));clear H K6;intro a H;refine aH ?_;refine dK ((k+1,yO)) (by exact (H).sub ⟨rfl,rfl,rfl,aC⟩) ?_ ?_
  ·(try dsimp only);exact ⟨by omega,by rw [qJ hk2,ah oL] at he;exact he,fun b o h=>nT b o (hgm b o h)⟩
  first|omega|(dsimp only;omega)
 intro h9 a H
 try have p9:=dF h9
 refine dW ?_;refine K2 _ _ ?_;clear K2;exact kP H (SR fun _ bB=>aj bB rfl (LR results123 rfl fun H=>H.rt (aB vi (by rw [iw (by simp;omega)] at he;exact he))))
def kY (id:Nat→Int) (i:Nat):Int:=if ¬ (1≤id i∧id i≤1073741824) then 18 else if 0 < i∧id i=id (i - 1) then 7 else if 0 < i∧id i < id (i - 1) then 6 else 0
theorem Uo (G:GH) (w0:World) (hG:Hold G w0) (i:Nat) (id:Nat→Int) (fv:ak) (hn:i≤4611686018427387904) (hf:uY fv G (i+1) id) :
  Calls prog 125 #[vi i,fv] w0 (bJ w0 G fun u G'=>u=vi (kY id i)):=by
 refine eN [(0,_),(1,_)] func125 rfl ntmps125 rfl rfl hG ?_;intro a H;refine kP H (SR fun _ K1=>aj K1 rfl (SQ fun _ K2=>SB (SR fun _ K3=>Rm rfl (Rm rfl ?_))));clear H K1;intro a H;refine pI H wn rfl rfl (hf i (Nat.lt_succ_self _) _ _ (fun _ _ h=>h) H.ro) rfl ?_;clear H;rintro v8 G8 a w rfl tT H;refine s_call ze H wn rfl (zL _ _ H.ro (id i) 1 1073741824) rfl ?_;clear H;rintro v9 _ a w ⟨rfl,rfl⟩ - H;refine kH H (Rn rfl (aj K3 rfl (Cd rfl ?_ ?_))) <;> clear H K3
 ·intro h5 a H
  try have p5:=dT h5
  refine kP H (SR fun _ K4=>aj K4 rfl ?_);clear H K4;intro a H;refine lr H results125 rfl ?_
  exact H.rt (aB vi (by unfold kY;(repeat' split) <;> first|rfl|(exfalso;simp_all;done)|(exfalso;simp_all;omega)))
 intro h5 a H
 try have p5:=dF h5
 refine kP H (SR fun _ K5=>Rm rfl (Rc rfl (Rm rfl (Sp 14 rfl ?_ ?_)))) <;> clear H
 ·intro dM a H
  try have jH:=dT dM
  refine kH H (YM dM rfl (YM dM rfl ?_));clear H;intro a H;refine pI H (wg H rfl rfl dM) rfl rfl (hf i (Nat.lt_succ_self _) _ _ tT H.ro) rfl ?_;clear H;rintro v17 Cg a w rfl ou H;refine kH H (YM dM rfl (YM dM rfl ?_));clear H;intro a H;refine nU _ H (wg H rfl rfl dM) rfl rfl rfl (by omega) (by omega) rfl ?_;clear H;intro a H;rw [show ((i:Int) - 1)=((i - 1:Nat):Int) by omega] at H;refine pI H (wg H rfl rfl dM) rfl rfl (hf (i - 1) (by omega) _ _ (fun b o h=>ou b o (tT b o h)) H.ro) rfl ?_;clear H;rintro v21 VP a w rfl Ec H;refine kH H (YC dM rfl (Pt dM rfl (aj K5 rfl (Cd rfl ?_ ?_)))) <;> clear H K5
  ·intro h11 a H
   try have rQ:=dT h11
   refine kP H (SR fun _ K6=>aj K6 rfl ?_);clear H K6;intro a H;refine lr H results125 rfl ?_
   exact H.rt (aB vi (by unfold kY;(repeat' split) <;> first|rfl|(exfalso;simp_all;done)|(exfalso;simp_all;omega)))
  intro h11 a H
  try have rQ:=dF h11
  refine kP H (SR fun _ K7=>Rm rfl (Rc rfl (Rm rfl (Sp 27 rfl ?_ ?_)))) <;> clear H
  ·intro h27 a H
   try have p27:=dT h27
   refine kH H (YM h27 rfl (YM h27 rfl ?_));clear H;intro a H;refine pI H (wg H rfl rfl h27) rfl rfl (hf i (Nat.lt_succ_self _) _ _ (fun b o h=>by first|exact Ec b o (ou b o (tT b o h))|(exfalso;omega)) H.ro) rfl ?_;clear H;rintro v30 Dq a w rfl zF H;refine kH H (YM h27 rfl (YM h27 rfl ?_));clear H;intro a H;refine nU _ H (wg H rfl rfl h27) rfl rfl rfl (by omega) (by omega) rfl ?_;clear H;intro a H;rw [show ((i:Int) - 1)=((i - 1:Nat):Int) by omega] at H;refine pI H (wg H rfl rfl h27) rfl rfl (hf (i - 1) (by omega) _ _ (fun b o h=>by first|exact zF b o (Ec b o (ou b o (tT b o h)))|(exfalso;omega)) H.ro) rfl ?_;clear H;rintro v34 Kl a w rfl Oz H;refine kH H (YC h27 rfl (Pt h27 rfl (aj K7 rfl (Cd rfl ?_ ?_)))) <;> clear H K7
   ·intro bE a H
    try have jP:=dT bE
    refine kP H (SR fun _ K8=>aj K8 rfl ?_);clear H K8;intro a H;refine lr H results125 rfl ?_
    exact H.rt (aB vi (by unfold kY;(repeat' split) <;> first|rfl|(exfalso;simp_all;done)|(exfalso;simp_all;omega)))
   intro bE a H
   try have jP:=dF bE
   refine kP H (Kc K2 (SR fun _ K9=>aj K9 rfl ?_));clear H K2 K9;intro a H;refine lr H results125 rfl ?_
   exact H.rt (aB vi (by unfold kY;(repeat' split) <;> first|rfl|(exfalso;simp_all;done)|(exfalso;simp_all;omega)))
  intro h27 a H
  try have p27:=dF h27
  refine kH H (aQ h27 rfl (aQ h27 rfl (aN h27 rfl (Pf h27 rfl (aj K7 rfl (Cf rfl rfl (Kc K2 (SR fun _ aT=>aj aT rfl ?_))))))));clear H K7 K2 aT;intro a H;refine lr H results125 rfl ?_
  exact H.rt (aB vi (by unfold kY;(repeat' split) <;> first|rfl|(exfalso;simp_all;done)|(exfalso;simp_all;omega)))
 intro dM a H
 try have jH:=dF dM
 refine kH H (aQ dM rfl (aQ dM rfl (aN dM rfl (Pf dM rfl (aj K5 rfl (Cf rfl rfl (SR fun _ bB=>Rm rfl (Rc rfl (Rm rfl (Sp 27 rfl ?_ ?_)))))))))) <;> clear H K5
 ·intro h27 a H
  try have p27:=dT h27
  refine kH H (YM h27 rfl (YM h27 rfl ?_));clear H;intro a H;refine pI H (wg H rfl rfl h27) rfl rfl (hf i (Nat.lt_succ_self _) _ _ (fun b o h=>by first|exact Ec b o (ou b o (tT b o h))|(exfalso;omega)) H.ro) rfl ?_;clear H;rintro v30 Dq a w rfl zF H;refine kH H (YM h27 rfl (YM h27 rfl ?_));clear H;intro a H;refine nU _ H (wg H rfl rfl h27) rfl rfl rfl (by omega) (by omega) rfl ?_;clear H;intro a H;rw [show ((i:Int) - 1)=((i - 1:Nat):Int) by omega] at H;refine pI H (wg H rfl rfl h27) rfl rfl (hf (i - 1) (by omega) _ _ (fun b o h=>by first|exact zF b o (Ec b o (ou b o (tT b o h)))|(exfalso;omega)) H.ro) rfl ?_;clear H;rintro v34 Kl a w rfl Oz H;refine kH H (YC h27 rfl (Pt h27 rfl (aj bB rfl (Cd rfl ?_ ?_)))) <;> clear H bB
  ·intro bE a H
   try have jP:=dT bE
   refine kP H (SR fun _ bC=>aj bC rfl ?_);clear H bC;intro a H;refine lr H results125 rfl ?_
   exact H.rt (aB vi (by unfold kY;(repeat' split) <;> first|rfl|(exfalso;simp_all;done)|(exfalso;simp_all;omega)))
  intro bE a H
  try have jP:=dF bE
  refine kP H (Kc K2 (SR fun _ bK=>aj bK rfl ?_));clear H K2 bK;intro a H;refine lr H results125 rfl ?_
  exact H.rt (aB vi (by unfold kY;(repeat' split) <;> first|rfl|(exfalso;simp_all;done)|(exfalso;simp_all;omega)))
 intro h27 a H
 try have p27:=dF h27
 refine kH H (aQ h27 rfl (aQ h27 rfl (aN h27 rfl (Pf h27 rfl (aj bB rfl (Cf rfl rfl (Kc K2 (SR fun _ bP=>aj bP rfl ?_))))))));clear H bB K2 bP;intro a H;refine lr H results125 rfl ?_
 exact H.rt (aB vi (by unfold kY;(repeat' split) <;> first|rfl|(exfalso;simp_all;done)|(exfalso;simp_all;omega)))
end
section
open Go.RowKit
theorem kD:∀ args w,(callFunc 70 args).run prog w=.ok (.enter 70 args) w:=enters func70 rfl (by kernel_rfl)
theorem sj:∀ args w,(callFunc 65 args).run prog w=.ok (.enter 65 args) w:=enters func65 rfl (by kernel_rfl)
def qm (s:ByteArray):Bool:=decide (1≤s.size∧s.size≤40) && sW s
theorem WJ (G:GH) (w0:World) (hG:Hold G w0) (s:ByteArray) (hs:s.size < 4611686018427387904):Calls prog 127 #[.string s] w0 (bJ w0 G fun u G'=>u=.bool (qm s)∧G=G'):=by
 refine eN [(0,_)] func127 rfl ntmps127 rfl rfl hG ?_;intro a H;refine kP H (SR fun _ K1=>aj K1 rfl (SR fun _ K2=>Rm rfl (Rv iD rfl (Rc rfl (Rm rfl (Sp 6 rfl ?_ ?_)))))) <;> clear H K1
 ·intro h6 a H
  try have p6:=dT h6
  refine kH H (YM h6 rfl ?_);clear H;intro a H;refine BU iD H (wg H rfl rfl h6) rfl rfl ?_;clear H;intro a H;refine kH H (YC h6 rfl (Pt h6 rfl (Rm rfl (Sp 11 rfl ?_ ?_)))) <;> clear H
  ·intro h11 a H
   try have rQ:=dT h11
   refine kH H (YM h11 rfl ?_);clear H;intro a H;refine s_call EU H (wg H rfl rfl h11) rfl (FL _ _ H.ro s hs) rfl ?_;clear H;rintro v13 _ a w ⟨rfl,rfl⟩ - H;exact kH H (Pt h11 rfl (aj K2 rfl (LR results127 rfl fun H=>H.rt ⟨aL (by unfold qm;first|(simp_all;done)|(simp_all;omega)),rfl⟩)))
  intro h11 a H
  try have rQ:=dF h11
  exact kH H (aN h11 rfl (Pf h11 rfl (aj K2 rfl (LR results127 rfl fun H=>H.rt ⟨aL (by unfold qm;first|(simp_all;done)|(simp_all;omega)),rfl⟩))))
 intro h6 a H
 try have p6:=dF h6
 exact kH H (aQ h6 rfl (Pf h6 rfl (Rm rfl (aN rfl rfl (Pf rfl rfl (aj K2 rfl (LR results127 rfl fun H=>H.rt ⟨aL (by unfold qm;first|(simp_all;done)|(simp_all;omega)),rfl⟩)))))))
theorem WI (G:GH) (w0:World) (hG:Hold G w0) (s:ByteArray) (hs:s.size < 4611686018427387904):Calls prog 28 #[.string s] w0 (bJ w0 G fun u G'=>u=.bool (qm s)∧G=G'):=by
 refine eN [(0,_)] func28 rfl ntmps28 rfl rfl hG ?_;intro a H;refine kP H (SR fun _ K1=>aj K1 rfl (SR fun _ K2=>Rm rfl ?_));clear H K1;intro a H;refine s_call EU H wn rfl (FL _ _ H.ro s hs) rfl ?_;clear H;rintro v4 _ a w ⟨rfl,rfl⟩ - H;refine kH H (Rm rfl (Sp 5 rfl ?_ ?_)) <;> clear H
 ·intro h5 a H
  try have p5:=dT h5
  refine kH H (YM h5 rfl ?_);clear H;intro a H;refine BU iD H (wg H rfl rfl h5) rfl rfl ?_;clear H;intro a H;refine kH H (YC h5 rfl (Pt h5 rfl (Rm rfl (Sp 10 rfl ?_ ?_)))) <;> clear H
  ·intro h10 a H
   try have jw:=dT h10
   refine kH H (YM h10 rfl ?_);clear H;intro a H;refine BU iD H (wg H rfl rfl h10) rfl rfl ?_;clear H;intro a H;refine kH H (YC h10 rfl (Pt h10 rfl (aj K2 rfl ?_)));clear H K2;intro a H;refine lr H results28 rfl ?_;refine H.rt ⟨aL ?_,rfl⟩
   unfold qm
   cases hvs:sW s <;> simp_all
   all_goals (first|omega|(rw [mE];simp;omega))
  intro h10 a H
  try have jw:=dF h10
  refine kH H (aQ h10 rfl (Pf h10 rfl (aj K2 rfl ?_)));clear H K2;intro a H;refine lr H results28 rfl ?_;refine H.rt ⟨aL ?_,rfl⟩
  unfold qm
  cases hvs:sW s <;> simp_all
  all_goals (first|omega|(rw [mE];simp;omega))
 intro h5 a H
 try have p5:=dF h5
 refine kH H (aQ h5 rfl (Pf h5 rfl (Rm rfl (aQ rfl rfl (Pf rfl rfl (aj K2 rfl ?_))))));clear H K2;intro a H;refine lr H results28 rfl ?_;refine H.rt ⟨aL ?_,rfl⟩
 unfold qm
 cases hvs:sW s <;> simp_all
 all_goals (first|omega|(rw [mE];simp;omega))
def sU (s:ByteArray):Int:=bT [bQ (!sW s) 12,bQ (decide (1024 < (s.size:Int))) 10]
theorem AQ {G:GH} {b:Nat} {x y:Int} (h:G b=some (.cells #[vi x,vi y] 41 (0,0))):au G (.sl 1 ([x,y].map fun k=>[li k])) (.slice (some ⟨b,0,none⟩) 2 2) :=
 au.fF (n:=2) (cap:=2) h rfl (dJ _) (show 2≤maxLen by decide) (iH (dJ _)) (fU G [x,y])
theorem Vp (G:GH) (w0:World) (hG:Hold G w0) (s:ByteArray) (hs:s.size < 4611686018427387904):Calls prog 164 #[.string s] w0 (bJ w0 G fun u G'=>u=vi (sU s)):=by
 refine eN [(0,_)] func164 rfl ntmps164 rfl rfl hG ?_;intro a H;refine kP H (SR fun _ K1=>aj K1 rfl (SR fun _ K2=>Rm rfl ?_));clear H K1;intro a H;refine s_call EU H wn rfl (FL _ _ H.ro s hs) rfl ?_;clear H;rintro v4 _ a w ⟨rfl,rfl⟩ - H;refine kH H (Rn rfl ?_);clear H;intro a H;refine s_call kD H wn rfl (kI _ _ H.ro _ 12) rfl ?_;clear H;rintro v6 _ a w ⟨rfl,rfl⟩ - H;refine kH H (Rm rfl (Rv iD rfl (Rc rfl ?_)));clear H;intro a H;refine s_call kD H wn rfl (kI _ _ H.ro _ 10) rfl ?_;clear H;rintro v10 _ a w ⟨rfl,rfl⟩ - H;refine jJ qZ iW [_,_] [_,_] H wn rfl rfl rfl rfl rfl (by intro i q h;match i,h with|0,h=>exact h|1,h=>exact h|n+2,h=>simp at h) rfl rfl ?_;clear H;intro b11 a w Hr H;obtain ⟨wh,HY,Jv,H⟩:=H.eG;refine s_call sj H wn rfl (sw _ _ H.ro _ _ (AQ Jv)) rfl ?_;clear H;rintro v12 _ a w ⟨rfl,rfl⟩ - H;exact kH H (aj K2 rfl (LR results164 rfl fun H=>H.rt rfl))
theorem abt (G:GH) (w0:World) (hG:Hold G w0) (s:ByteArray) (hs:s.size < 4611686018427387904):Calls prog 76 #[.string s] w0 (bJ w0 G fun u G'=>u=vi (sU s)∧G=G'):=by
 refine eN [(0,_)] func76 rfl ntmps76 rfl rfl hG ?_;intro a H;refine kP H (SR fun _ K1=>aj K1 rfl (SQ fun _ K2=>SB (SR fun _ K3=>Rm rfl ?_)));clear H K1;intro a H;refine s_call EU H wn rfl (FL _ _ H.ro s hs) rfl ?_;clear H;rintro v5 _ a w ⟨rfl,rfl⟩ - H;refine kH H (Rn rfl (aj K3 rfl (Cd rfl ?_ ?_))) <;> clear H K3
 ·intro h3 a H
  try have p3:=dT h3
  exact kP H (SR fun _ K4=>aj K4 rfl (LR results76 rfl fun H=>H.rt ⟨aB vi (by unfold sU;simp_all [bT,bQ]),rfl⟩))
 intro h3 a H
 try have p3:=dF h3
 refine kP H (SR fun _ K5=>Rm rfl (Rv iD rfl (Rc rfl (aj K5 rfl (Cd rfl ?_ ?_))))) <;> clear H K5
 ·intro h7 a H
  try have p7:=dT h7
  exact kP H (SR fun _ K6=>aj K6 rfl (LR results76 rfl fun H=>H.rt ⟨aB vi (by unfold sU;simp_all [bT,bQ]),rfl⟩))
 intro h7 a H
 try have p7:=dF h7
 exact kP H (Kc K2 (SR fun _ K7=>aj K7 rfl (LR results76 rfl fun H=>H.rt ⟨aB vi (by unfold sU;simp_all [bT,bQ]),rfl⟩)))
def wY (id before:Int) (fst:Bool):Int:=if id < 1∨1073741824 < id then 18 else if fst=false∧id=before then 7 else if fst=false∧id < before then 6 else 0
theorem Un (G:GH) (w0:World) (hG:Hold G w0) (id before:Int) (fst:Bool):Calls prog 27 #[vi id,vi before,.bool fst] w0 (bJ w0 G fun u G'=>u=vi (wY id before fst)∧G=G'):=by
 refine eN [(0,_),(1,_),(2,_)] func27 rfl ntmps27 rfl rfl hG ?_;intro a H;refine kP H (SR fun _ K1=>aj K1 rfl (SQ fun _ K2=>SB (SR fun _ K3=>Rm rfl (Rc rfl (Rm rfl (Sp 10 rfl ?_ ?_)))))) <;> clear H K1
 ·intro h10 a H
  try have jw:=dT h10
  refine kH H (aN h10 rfl (Pt h10 rfl (aj K3 rfl (Ct rfl rfl (SR fun _ K4=>aj K4 rfl ?_)))));clear H K3 K4;intro a H;refine lr H results27 rfl ?_
  exact H.rt ⟨aB vi (by unfold wY;(repeat' split) <;> first|rfl|(exfalso;simp_all;done)|(exfalso;simp_all;omega)),rfl⟩
 intro h10 a H
 try have jw:=dF h10
 refine kH H (YM h10 rfl (YC h10 rfl (Pf h10 rfl (aj K3 rfl (Cd rfl ?_ ?_))))) <;> clear H K3
 ·intro h7 a H
  try have p7:=dT h7
  refine kP H (SR fun _ K5=>aj K5 rfl ?_);clear H K5;intro a H;refine lr H results27 rfl ?_
  exact H.rt ⟨aB vi (by unfold wY;(repeat' split) <;> first|rfl|(exfalso;simp_all;done)|(exfalso;simp_all;omega)),rfl⟩
 intro h7 a H
 try have p7:=dF h7
 refine kP H (SR fun _ K6=>Rm rfl (Rn rfl (Rm rfl (Sp 17 rfl ?_ ?_)))) <;> clear H
 ·intro bX a H
  try have kQ:=dT bX
  refine kH H (YM bX rfl (YM bX rfl (YC bX rfl (Pt bX rfl (aj K6 rfl (Cd rfl ?_ ?_)))))) <;> clear H K6
  ·intro dM a H
   try have jH:=dT dM
   refine kP H (SR fun _ K7=>aj K7 rfl ?_);clear H K7;intro a H;refine lr H results27 rfl ?_
   exact H.rt ⟨aB vi (by unfold wY;(repeat' split) <;> first|rfl|(exfalso;simp_all;done)|(exfalso;simp_all;omega)),rfl⟩
  intro dM a H
  try have jH:=dF dM
  refine kP H (SR fun _ K8=>Rm rfl (Rn rfl (Rm rfl (Sp 25 rfl ?_ ?_)))) <;> clear H
  ·intro gP a H
   try have p25:=dT gP
   refine kH H (YM gP rfl (YM gP rfl (YC gP rfl (Pt gP rfl (aj K8 rfl (Cd rfl ?_ ?_)))))) <;> clear H K8
   ·intro h22 a H
    try have jI:=dT h22
    refine kP H (SR fun _ K9=>aj K9 rfl ?_);clear H K9;intro a H;refine lr H results27 rfl ?_
    exact H.rt ⟨aB vi (by unfold wY;(repeat' split) <;> first|rfl|(exfalso;simp_all;done)|(exfalso;simp_all;omega)),rfl⟩
   intro h22 a H
   try have jI:=dF h22
   refine kP H (Kc K2 (SR fun _ aT=>aj aT rfl ?_));clear H K2 aT;intro a H;refine lr H results27 rfl ?_
   exact H.rt ⟨aB vi (by unfold wY;(repeat' split) <;> first|rfl|(exfalso;simp_all;done)|(exfalso;simp_all;omega)),rfl⟩
  intro gP a H
  try have p25:=dF gP
  refine kH H (aQ gP rfl (Pf gP rfl (aj K8 rfl (Cf rfl rfl (Kc K2 (SR fun _ bB=>aj bB rfl ?_))))));clear H K8 K2 bB;intro a H;refine lr H results27 rfl ?_
  exact H.rt ⟨aB vi (by unfold wY;(repeat' split) <;> first|rfl|(exfalso;simp_all;done)|(exfalso;simp_all;omega)),rfl⟩
 intro bX a H
 try have kQ:=dF bX
 refine kH H (aQ bX rfl (Pf bX rfl (aj K6 rfl (Cf rfl rfl (SR fun _ bC=>Rm rfl (Rn rfl (Rm rfl (Sp 25 rfl ?_ ?_)))))))) <;> clear H K6
 ·intro gP a H
  try have p25:=dT gP
  refine kH H (YM gP rfl (YM gP rfl (YC gP rfl (Pt gP rfl (aj bC rfl (Cd rfl ?_ ?_)))))) <;> clear H bC
  ·intro h22 a H
   try have jI:=dT h22
   refine kP H (SR fun _ bK=>aj bK rfl ?_);clear H bK;intro a H;refine lr H results27 rfl ?_
   exact H.rt ⟨aB vi (by unfold wY;(repeat' split) <;> first|rfl|(exfalso;simp_all;done)|(exfalso;simp_all;omega)),rfl⟩
  intro h22 a H
  try have jI:=dF h22
  refine kP H (Kc K2 (SR fun _ bP=>aj bP rfl ?_));clear H K2 bP;intro a H;refine lr H results27 rfl ?_
  exact H.rt ⟨aB vi (by unfold wY;(repeat' split) <;> first|rfl|(exfalso;simp_all;done)|(exfalso;simp_all;omega)),rfl⟩
 intro gP a H
 try have p25:=dF gP
 refine kH H (aQ gP rfl (Pf gP rfl (aj bC rfl (Cf rfl rfl (Kc K2 (SR fun _ dx=>aj dx rfl ?_))))));clear H bC K2 dx;intro a H;refine lr H results27 rfl ?_
 exact H.rt ⟨aB vi (by unfold wY;(repeat' split) <;> first|rfl|(exfalso;simp_all;done)|(exfalso;simp_all;omega)),rfl⟩
theorem Um (id:Nat→Int) (i:Nat):wY (id i) (id (i - 1)) (decide (i=0))=kY id i:=by
 unfold wY kY
 (repeat' split) <;> first|rfl|(exfalso;simp_all;done)|(exfalso;simp_all;omega)
def Pp (c:Int):Bool:=decide (97≤qK .or .u8 c 32) && decide (qK .or .u8 c 32≤122)
def Ir (c:Int):Bool:=(decide (48≤c) && decide (c≤57)) || decide (c=45) || decide (c=95)
def Da (s:ByteArray) (k:Nat):Bool:=Pp (ji s k) || (decide (k≠0) && Ir (ji s k))
def pO (s:ByteArray):Bool:=decide (1≤s.size∧s.size≤40) && (List.range s.size).all (Da s)
theorem KL (G:GH) (w0:World) (hG:Hold G w0) (s:ByteArray) (hs:s.size < 4611686018427387904):Calls prog 77 #[.string s] w0 (bJ w0 G fun u G'=>u=.bool (pO s)∧G=G'):=by
 refine eN [(0,_)] func77 rfl ntmps77 rfl rfl hG ?_;intro a H;refine kP H (SR fun _ K1=>aj K1 rfl (SQ fun _ K2=>SR fun _ K3=>Rm rfl (Rv iD rfl (Rc rfl (Rm rfl (Sp 10 rfl ?_ ?_)))))) <;> clear H K1
 ·intro h10 a H
  try have jw:=dT h10
  exact kH H (aQ h10 rfl (Pt h10 rfl (Kz K3 (Ct rfl rfl (SR fun _ K4=>aj K4 rfl (LR results77 rfl fun H=>H.rt ⟨aL (by unfold pO;rw [fZ (by omega)];rfl),rfl⟩))))))
 intro h10 a H
 try have jw:=dF h10
 refine kH H (YM h10 rfl ?_);clear H;intro a H;refine BU iD H (wg H rfl rfl h10) rfl rfl ?_;clear H;intro a H;refine kH H (YC h10 rfl (Pf h10 rfl (Kz K3 (Cd rfl ?_ ?_)))) <;> clear H K3
 ·intro dM a H
  try have jH:=dT dM
  exact kP H (SR fun _ K5=>aj K5 rfl (LR results77 rfl fun H=>H.rt ⟨aL (by unfold pO;rw [fZ (by omega)];rfl),rfl⟩))
 intro dM a H
 try have jH:=dF dM
 refine kP H (Kc K2 (SQ fun _ K6=>SR fun _ K7=>Rm rfl (Rv iD rfl (Rm rfl (Kz K7 (SB ?_))))));clear H K2 K7;intro a H;skip;refine eH (ι:=Nat) (Tc:=[(0,_),(16,_)]) (Lc:=[]) (fun gh=>[(17,vi gh)]) (fun gh=>[]) (fun gh=>G) (fun gh=>gh≤s.size∧(List.range gh).all (Da s)=true) (fun gh=>s.size - gh) (0) (by exact (H).sub ⟨rfl,rfl,rfl,aC⟩) ?_ ?_
 ·exact ⟨iF _,rfl⟩
 clear H;intro gh a w hI H;obtain ⟨k,hgh⟩:∃ x,x=gh:=⟨_,rfl⟩;subst hgh;obtain ⟨hk,hall⟩:=hI;dsimp only [lca,aV] at H;refine kP H (SR fun _ K8=>Rc rfl (Kz K8 (SQ fun _ K9=>Cd rfl ?_ ?_))) <;> clear H K8
 ·intro h18 a H
  try have pG:=dT h18
  have hk2:k < s.size:=by omega
  refine kP H (Kc K9 (SQ fun _ aT=>SB (SR fun _ bB=>Rm rfl (aj bB rfl (SR fun _ bC=>Rm rfl (Rm rfl ?_))))));clear H K9 bB;intro a H;refine qC k iD H wn rfl rfl rfl (by omega) rfl ?_;clear H;intro a H;rw [← oh] at H;refine MQ rfl H wn rfl rfl rfl ?_;clear H;intro a H;refine kH H (aj bC rfl ?_);clear H bC;intro a H;refine qL (ι:=Bool) (Tc:=[(0,_),(3,_),(16,_),(17,_)]) (Lc:=[]) (fun gh=>[(5,.bool gh)]) (fun gh=>[]) (fun gh=>G) (fun gh=>gh=Pp (ji s k)) (by exact (H).sub ⟨rfl,rfl,rfl,rfl,aC⟩) ?_ ?_
  ·skip;refine kP H (SC (Rm rfl (Rc rfl (Rm rfl (Sp 26 rfl ?_ ?_))))) <;> clear H
   ·intro fI a H
    try have p26:=dT fI
    refine kH H (YM fI rfl (YC fI rfl (Pt fI rfl (Ra rfl ?_))));clear H;intro a H;refine aH ?_;refine ⟨_,by exact (H).sub ⟨rfl,rfl,rfl,rfl,rfl,aC⟩,?_⟩
    unfold Pp;first|(simp_all;done)|(simp_all;omega)
   intro fI a H
   try have p26:=dF fI
   refine kH H (aN fI rfl (Pf fI rfl (Ra rfl ?_)));clear H;intro a H;refine aH ?_;refine ⟨_,by exact (H).sub ⟨rfl,rfl,rfl,rfl,rfl,aC⟩,?_⟩
   unfold Pp;first|(simp_all;done)|(simp_all;omega)
  clear H;intro gh a w hI H;obtain ⟨lt,hgh⟩:∃ x,x=gh:=⟨_,rfl⟩;subst hgh;have hlt:=hI;dsimp only [lca,aV] at H;refine qL (ι:=Bool) (Tc:=[(0,_),(3,_),(5,_),(16,_),(17,_)]) (Lc:=[]) (fun gh=>[(6,.bool gh)]) (fun gh=>[]) (fun gh=>G) (fun gh=>gh=Ir (ji s k)) (by exact (H).sub ⟨rfl,rfl,rfl,rfl,rfl,aC⟩) ?_ ?_
  ·skip;refine kP H (SC (Rm rfl (Rm rfl ?_)));clear H;intro a H;refine qC k iD H wn rfl rfl rfl (by omega) rfl ?_;clear H;intro a H;rw [← oh] at H;refine kH H (Rc rfl (Rm rfl (Sp 34 rfl ?_ ?_))) <;> clear H
   ·intro fD a H
    try have p34:=dT fD
    refine kH H (YM fD rfl (YM fD rfl ?_));clear H;intro a H;refine qC k iD H (wg H rfl rfl fD) rfl rfl rfl (by omega) rfl ?_;clear H;intro a H;rw [← oh] at H;refine kH H (YC fD rfl (Pt fD rfl (Rm rfl (Sp 40 rfl ?_ ?_)))) <;> clear H
    ·intro qO a H
     try have p40:=dT qO
     refine kH H (aN qO rfl (aN qO rfl (Pt qO rfl (Rm rfl (aN rfl rfl (aN rfl rfl (Pt rfl rfl (Ra rfl ?_))))))));clear H;intro a H;refine aH ?_;refine ⟨_,by exact (H).sub ⟨rfl,rfl,rfl,rfl,rfl,rfl,aC⟩,?_⟩
     unfold Ir;first|(simp_all;done)|(simp_all;omega)
    intro qO a H
    try have p40:=dF qO
    refine kH H (YM qO rfl (YM qO rfl ?_));clear H;intro a H;refine qC k iD H (wg H rfl rfl qO) rfl rfl rfl (by omega) rfl ?_;clear H;intro a H;rw [← oh] at H;refine kH H (YC qO rfl (Pf qO rfl (Rm rfl (Sp 46 rfl ?_ ?_)))) <;> clear H
    ·intro h46 a H
     try have p46:=dT h46
     refine kH H (aN h46 rfl (aN h46 rfl (Pt h46 rfl (Ra rfl ?_))));clear H;intro a H;refine aH ?_;refine ⟨_,by exact (H).sub ⟨rfl,rfl,rfl,rfl,rfl,rfl,aC⟩,?_⟩
     unfold Ir;first|(simp_all;done)|(simp_all;omega)
    intro h46 a H
    try have p46:=dF h46
    refine kH H (YM h46 rfl (YM h46 rfl ?_));clear H;intro a H;refine qC k iD H (wg H rfl rfl h46) rfl rfl rfl (by omega) rfl ?_;clear H;intro a H;rw [← oh] at H;refine kH H (YC h46 rfl (Pf h46 rfl (Ra rfl ?_)));clear H;intro a H;refine aH ?_;refine ⟨_,by exact (H).sub ⟨rfl,rfl,rfl,rfl,rfl,rfl,aC⟩,?_⟩
    unfold Ir;first|(simp_all;done)|(simp_all;omega)
   intro fD a H
   try have p34:=dF fD
   refine kH H (aN fD rfl (aN fD rfl (Pf fD rfl (Rm rfl ?_))));clear H;intro a H;(iterate 2 refine J4 H (wg H rfl rfl rfl) rfl rfl ?_;clear H;intro a H);refine qC k iD H (wg H rfl rfl rfl) rfl rfl rfl (by omega) rfl ?_;clear H;intro a H;rw [← oh] at H;refine MR H (wg H rfl rfl rfl) rfl rfl rfl rfl ?_;clear H;intro a H;refine kH H (Pf rfl rfl (Rm rfl (Sp 46 rfl ?_ ?_))) <;> clear H
   ·intro h46 a H
    try have p46:=dT h46
    refine kH H (aN h46 rfl (aN h46 rfl (Pt h46 rfl (Ra rfl ?_))));clear H;intro a H;refine aH ?_;refine ⟨_,by exact (H).sub ⟨rfl,rfl,rfl,rfl,rfl,rfl,aC⟩,?_⟩
    unfold Ir;first|(simp_all;done)|(simp_all;omega)
   intro h46 a H
   try have p46:=dF h46
   refine kH H (YM h46 rfl (YM h46 rfl ?_));clear H;intro a H;refine qC k iD H (wg H rfl rfl h46) rfl rfl rfl (by omega) rfl ?_;clear H;intro a H;rw [← oh] at H;refine kH H (YC h46 rfl (Pf h46 rfl (Ra rfl ?_)));clear H;intro a H;refine aH ?_;refine ⟨_,by exact (H).sub ⟨rfl,rfl,rfl,rfl,rfl,rfl,aC⟩,?_⟩
   unfold Ir;first|(simp_all;done)|(simp_all;omega)
  clear H;intro gh a w hI H;obtain ⟨ot,hgh⟩:∃ x,x=gh:=⟨_,rfl⟩;subst hgh;have hot:=hI;dsimp only [lca,aV] at H;refine kP H (SR fun _ bK=>Rm rfl (Rn rfl (Rm rfl (Sp 54 rfl ?_ ?_)))) <;> clear H
  ·intro gK a H
   try have p54:=dT gK
   refine kH H (YM gK rfl (YC gK rfl (YM gK rfl (Sp 57 rfl ?_ ?_)))) <;> clear H
   ·intro h57 a H
    try have p57:=dT h57
    refine kH H (aN h57 rfl (PT gK h57 rfl (Pt gK rfl (Kz bK (Ct rfl rfl (SR fun _ bP=>aj bP rfl ?_))))));clear H bK bP;intro a H;refine lr H results77 rfl ?_
    first
     | exact H.rt ⟨aL (by
       unfold pO
       rw [show k=s.size by omega] at hall
       rw [hall,gW (by omega)];rfl),rfl⟩
     | exact H.rt ⟨aL (by
       unfold pO
       rw [show (List.range s.size).all (Da s)=false from List.all_eq_false.2 ⟨k,by simpa using hk2,by unfold Da;simp_all⟩,Bool.and_false]),rfl⟩
   intro h57 a H
   try have p57:=dF h57
   refine kH H (YM h57 rfl (YN h57 rfl (PF gK h57 rfl (Pt gK rfl (Kz bK (Cd rfl ?_ ?_)))))) <;> clear H bK
   ·intro pV a H
    try have p61:=dT pV
    refine kP H (SR fun _ dx=>aj dx rfl ?_);clear H dx;intro a H;refine lr H results77 rfl ?_
    first
     | exact H.rt ⟨aL (by
       unfold pO
       rw [show k=s.size by omega] at hall
       rw [hall,gW (by omega)];rfl),rfl⟩
     | exact H.rt ⟨aL (by
       unfold pO
       rw [show (List.range s.size).all (Da s)=false from List.all_eq_false.2 ⟨k,by simpa using hk2,by unfold Da;simp_all⟩,Bool.and_false]),rfl⟩
   intro pV a H
   try have p61:=dF pV
   refine kP H (Kc aT (SC (Rd rfl (Rm rfl ?_))));clear H aT;intro a H;refine aH ?_;refine dK ((k+1)) (by exact (H).sub ⟨rfl,rfl,rfl,aC⟩) ?_ ?_
   ·exact ⟨by omega,by rw [List.range_succ,List.all_append,hall];simp [Da];simp_all⟩
   first|omega|(dsimp only;omega)
  intro gK a H
  try have p54:=dF gK
  refine kH H (aQ gK rfl (Ku rfl (Ku rfl (Ks gK rfl (Pf gK rfl (Kz bK (Cf rfl rfl (Kc aT (SC (Rd rfl (Rm rfl ?_)))))))))));clear H bK aT;intro a H;refine aH ?_;refine dK ((k+1)) (by exact (H).sub ⟨rfl,rfl,rfl,aC⟩) ?_ ?_
  ·exact ⟨by omega,by rw [List.range_succ,List.all_append,hall];simp [Da];simp_all⟩
  first|omega|(dsimp only;omega)
 intro h18 a H
 try have pG:=dF h18
 refine dW ?_;refine K6 _ _ ?_;clear K6;refine kP H (SR fun _ dP=>aj dP rfl ?_);clear H dP;intro a H;refine lr H results77 rfl ?_
 first
  | exact H.rt ⟨aL (by
    unfold pO
    rw [show k=s.size by omega] at hall
    rw [hall,gW (by omega)];rfl),rfl⟩
  | exact H.rt ⟨aL (by
    unfold pO
    rw [show (List.range s.size).all (Da s)=false from List.all_eq_false.2 ⟨k,by simpa using hk2,by unfold Da;simp_all⟩,Bool.and_false]),rfl⟩
end
section
open Go.RowKit
section
variable {N:Nat} {D:List Deferred} {w0:World} {F:Nat→Prop} {G0 G:GH} {L:OL} {T:List (Nat × ak)}
variable {r:Option Nat} {P:Program} {ops:Array Oper} {Q:Exit→Act→World→Prop} {rest:List Oper} {a:Act} {w:World}
variable {d:Nat} {ty:TypeId} {pos:String} {aU:Array Edge} {g:Option (Nat × Bool)}
end
end
section
open Go.RowKit
section
variable {N:Nat} {D:List Deferred} {w0:World} {F:Nat→Prop} {G0 G:GH} {L:OL} {T T':List (Nat × ak)}
variable {r:Option Nat} {P:Program} {Q:Exit→Act→World→Prop} {l:List Oper} {a a':Act} {w w':World} {ε:Type}
def I5 (l:List Oper) (pr:ε→Nat→ak→Prop) (T:List (Nat × ak)) (S:Nat→Bool) (E:ε) (T':List (Nat × ak)):Prop :=
 (∀ t v,lk T t=some v→lk T' t=some v)∧∀ i d,S i=true→fG l i=some d→∃ v,lk T' d=some v∧pr E i v
theorem I5.put {pr:ε→Nat→ak→Prop} {S:Nat→Bool} {E E':ε} {i d:Nat} {v:ak} (h:I5 l pr T S E T') (hok:ael l T=true) (hi:fG l i=some d) (hv:pr E' i v) (hE:∀ j u,j≠i→pr E j u→pr E' j u):I5 l pr T (eO S i) E' ((d,v) :: T'):=by
 have hil:=za hi
 have hok1:=oU.1 hok i (wD.2 hil)
 rw [pU,hi] at hok1
 simp only [oF,Option.isNone_iff_eq_none,oU,wD] at hok1
 refine ⟨fun t u ht=>?_,fun j e hj he=>?_⟩
 ·rw [wZ (fun e=>by subst e;rw [hok1.1] at ht;cases ht)];exact h.1 t u ht
 ·by_cases hji:j=i
  ·subst hji;rw [hi] at he;cases he;exact ⟨v,yB _ _ _,hv⟩
  ·have hSj:S j=true:=by unfold eO at hj;rwa [ah hji] at hj
   obtain ⟨u,hu1,hu2⟩:=h.2 j e hSj he
   have hne:d≠e:=by
    intro e';subst e'
    have h2:=hok1.2 j (za he)
    have hb:Nat.beq i j=false:=xK (fun h=>hji h.symm)
    rw [hb,he] at h2
    simp at h2
   exact ⟨u,by rw [wZ hne];exact hu1,hE j u hji hu2⟩
theorem I5.add {pr:ε→Nat→ak→Prop} {S:Nat→Bool} {E:ε} (h:I5 l pr T S E T') {t:Nat} {u:ak} (hu:lk T' t=some u):I5 l pr T S E ((t,u) :: T'):=by
 have e:∀ s v,lk T' s=some v→lk ((t,u) :: T') s=some v:=fun s v hs=>by
  by_cases hst:t=s
  ·subst hst;rw [hu] at hs;cases hs;exact yB _ _ _
  ·rw [wZ hst];exact hs
 exact ⟨fun s v hs=>e s v (h.1 s v hs),fun i d hi hd=>by
  obtain ⟨v,h1,h2⟩:=h.2 i d hi hd
  exact ⟨v,e d v h1,h2⟩⟩
end
end
section
open Go.RowKit
section
variable {N:Nat} {D:List Deferred} {w0:World} {F:Nat→Prop} {G0 G G1 G2:GH} {L L1:OL} {T Xs:List (Nat × ak)}
variable {r:Option Nat} {P:Program} {Q:Exit→Act→World→Prop} {l:List Oper} {a a':Act} {w w':World}
theorem QJ {id:Nat} (hm:P.follows .mixedOrders=true) (cZ:List (List Nat)) (B:List Nat) (hk:DJ l cZ=true) (hB:Ca l cZ B=true) (X:(Nat→Bool)→Act→World→Prop) (h0:X (fun _=>false) a w.drew)
  (hstep:∀ i o S a w,l[i]?=some o→B.contains i=false→S i=false→(∀ j∈cZ.getD i [],S j=true)→(∀ j,j < l.length→i∈cZ.getD j []→S j=false)→X S a w→WL r P l.toArray (fun e a' w'=>e=.normal∧X (eO S i) a' w') [o] a w)
  (hend:∀ S a w,(∀ i,i < l.length→B.contains i=false→S i=true)→(∀ i,B.contains i=true→S i=false)→X S a w→WL r P l.toArray (fun e a w=>e=.normal∧Q .normal a w) (sP l B) a w):WP r P (.region id l.toArray true) Q a w:=by
 have hB1:∀ p b,B[p]?=some b→b < l.length∧∀ i,i < l.length→(B.contains i=false∨(B.take p).contains i=true)→i∈cZ.getD b []:=by
  intro p b hp
  simp only [Ca,oF] at hB
  have h1:=oU.1 hB.1 p (wD.2 (mq.1 hp).1)
  rw [hp] at h1
  simp only [oF,oU,wD] at h1
  refine ⟨Eq.mp Nat.blt_eq h1.1,fun i hi hor=>?_⟩
  have h2:=h1.2 i hi
  rcases hor with h3|h3
  ·have h4:i∉B:=by simpa using h3
   simpa [h4] using h2
  ·have h4:i∈B.take p:=by simpa using h3
   simpa [h4] using h2
 have hB2:∀ i,i < l.length→B.contains i=false→∀ j∈cZ.getD i [],B.contains j=false:=by
  intro i hi hb j hj
  simp only [Ca,oF] at hB
  have h1:=oU.1 hB.2 i (wD.2 hi)
  rw [hb] at h1
  simp only [Bool.false_or,oU] at h1
  simpa using h1 j hj
 refine WT hm cZ hk (fun S a w=>((∀ i,B.contains i=true→S i=false)∧X S a w) ∨
   ∃ p,(∀ i,i < l.length→B.contains i=false→S i=true)∧(∀ i,(B.take p).contains i=true→S i=true)∧(∀ q b,B[q]?=some b→p≤q→S b=false)∧WL r P l.toArray (fun e a w=>e=.normal∧Q .normal a w) (sP l (B.drop p)) a w)
  (.inl ⟨fun _ _=>rfl,h0⟩) ?_ ?_
 ·intro i o S a w ho hX cB nS hdesc
  have hil:i < l.length:=(mq.1 ho).1
  by_cases hbi:B.contains i=true
  ·-- an operation of the tail: all that stands ahead of it is done
   obtain ⟨p0,hp0⟩:=List.getElem?_of_mem (by simpa using hbi:i∈B)
   have hall:∀ j,j < l.length→B.contains j=false→S j=true:=fun j hj hb=>nS j ((hB1 p0 i hp0).2 j hj (.inl hb))
   have TP:∃ p,(∀ i,(B.take p).contains i=true→S i=true)∧(∀ q b,B[q]?=some b→p≤q→S b=false)∧WL r P l.toArray (fun e a w=>e=.normal∧Q .normal a w) (sP l (B.drop p)) a w:=by
    rcases hX with ⟨h1,hD⟩|⟨p,_,h2,h3,h4⟩
    ·exact ⟨0,by simp,fun q b hq _=>h1 b (by simpa using oD hq),hend S a w hall h1 hD⟩
    ·exact ⟨p,h2,h3,h4⟩
   obtain ⟨p,h2,h3,h4⟩:=TP
   -- i is the next one
   have hpp:p≤p0:=by
    rcases Nat.lt_or_ge p0 p with hlt|hge
    ·have:(B.take p).contains i=true:=by
      simp only [A9]
      exact oD (i:=p0) (by rw [Af,av hlt];exact hp0)
     rw [h2 i this] at cB;cases cB
    ·exact hge
   have H9:p < B.length:=by have:=(mq.1 hp0).1;omega
   have hbp:B[p]?=some B[p]:=fT H9
   have heq:B[p]=i:=by
    rcases Nat.lt_or_ge p p0 with hlt|hge
    ·exfalso
     have hin:B[p]∈cZ.getD i []:=(hB1 p0 i hp0).2 _ (hB1 p _ hbp).1 (.inr (by
      simp only [A9]
      exact oD (i:=p) (by rw [Af,av hlt];exact hbp)))
     have:=nS _ hin
     rw [h3 p _ hbp (dJ _)] at this;cases this
    ·have:p=p0:=by omega
     subst this
     rw [hbp] at hp0;simpa using hp0
   have hdrop:B.drop p=i :: B.drop (p+1):=by rw [nD H9,heq]
   have hops:sP l (B.drop p)=o :: sP l (B.drop (p+1)):=by rw [hdrop];simp [sP,ho]
   rw [hops] at h4
   refine ace (fun a' w' h5=>.inr ⟨p+1,fun j hj hb=>?_,fun j hj=>?_,fun q b hq hpq=>?_,h5⟩) h4
   ·unfold eO;split
    ·rfl
    ·exact hall j hj hb
   ·unfold eO;split
    ·rfl
    ·rename_i hne
     refine h2 j ?_
     simp only [A9] at hj ⊢
     rw [iG H9,AZ] at hj
     rcases hj with hj|hj
     ·exact hj
     ·simp only [xI] at hj;exact absurd (hj.trans heq) hne
   ·unfold eO
    rw [ah ?_]
    ·exact h3 q b hq (by omega)
    ·rintro rfl
     -- i would stand twice in B: it would come ahead of itself
     have h6:=(hB1 q b hq).2 b (hB1 q b hq).1 (.inr (by
      simp only [A9]
      exact oD (i:=p) (by rw [Af,av (by omega)];rw [hbp,heq])))
     rw [nS _ h6] at cB;cases cB
  ·have Hu:B.contains i=false:=by cases h:B.contains i with|false=>rfl|true=>exact absurd h hbi
   rcases hX with ⟨h1,hX⟩|⟨p,h0,_,_,_⟩
   ·refine sZ (fun e a' w' ⟨he,hD⟩=>⟨he,.inl ⟨fun j hj=>?_,hD⟩⟩) (hstep i o S a w ho Hu cB nS hdesc hX)
    unfold eO
    rw [ah (by rintro rfl;rw [Hu] at hj;cases hj)]
    exact h1 j hj
   ·rw [h0 i hil Hu] at cB;cases cB
 ·intro S a w hall hX
  rcases hX with ⟨h1,hD⟩|⟨p,_,_,h3,h4⟩
  ·have hnil:B=[]:=by
    cases B with
    | nil=>rfl
    | cons b B=>have h5:=h1 b (by simp);rw [hall b (hB1 0 b rfl).1] at h5;cases h5
   subst hnil
   exact (hend S a w (fun j hj _=>hall j hj) h1 hD).2
  ·have hnil:B.drop p=[]:=by
    cases hd:B.drop p with
    | nil=>rfl
    | cons b B' =>
     have hb:B[p]?=some b:=by
      have:=aB (fun x:List Nat=>x[0]?) hd
      simpa using this
     have h5:=h3 p b hb (dJ _)
     rw [hall b (hB1 p b hb).1] at h5;cases h5
   rw [hnil] at h4
   exact h4.2
theorem NK {pr:Nat→ak→GH→Prop} {S:Nat→Bool} {i d:Nat} {v:ak} (hok:pU l T i=true) (hi:fG l i=some d) 
  (HT:St N D w0 F G0 G1 L T a w) (Hb:St N D w0 F G0 G1 L (Xs++full N a) a w) (hG:∀ k o,G k=some o→G1 k=some o) (hv:∀ j d,j≠i→S j=true→fG l j=some d→∃ v,a.tmps[d]?=some v∧pr j v G1)
  (hp:pr i v G1) (H:St N D w0 F G0 G1 L1 ((d,v) :: (Xs++full N a)) a' w'):DX N D w0 F G0 G L1 T l pr (eO S i) a' w':=by
 have hil:i < l.length:=za hi
 have hok1:=hok
 rw [pU,hi] at hok1
 simp only [oF,Option.isNone_iff_eq_none,oU,wD] at hok1
 have hsame:∀ t,t≠d→a'.tmps[t]?=a.tmps[t]?:=by
  intro t ht
  by_cases hlt:t < N
  ·have h1:∃ u,lk (Xs++full N a) t=some u:=by
    rw [Pn]
    cases lk Xs t with
    | some u=>exact ⟨u,rfl⟩
    | none=>exact ⟨_,Po a hlt⟩
   obtain ⟨u,hu⟩:=h1
   rw [Hb.get t u hu,H.get t u (by rw [wZ (Ne.symm ht)];exact hu)]
  ·rw [Array.getElem?_eq_none (by rw [H.og];omega),Array.getElem?_eq_none (by rw [Hb.og];omega)]
 refine ⟨G1,hG,⟨H.og,fun t u ht=>?_,H.uH,H.hp⟩,fun j e hj he=>?_⟩
 ·rw [hsame t (fun e=>by rw [e,hok1.1] at ht;cases ht)]
  exact HT.get t u ht
 ·by_cases hji:j=i
  ·subst hji
   rw [hi] at he
   simp only [nM] at he
   subst he
   exact ⟨v,H.get d v (yB _ _ _),hp⟩
  ·have hSj:S j=true:=by unfold eO at hj;rwa [ah hji] at hj
   obtain ⟨u,hu1,hu2⟩:=hv j e hji hSj he
   have hne:e≠d:=by
    intro e'
    subst e'
    have h2:=hok1.2 j (za he)
    rw [xK (fun h=>hji h.symm),he] at h2
    simp at h2
   exact ⟨u,by rw [hsame e hne];exact hu1,hu2⟩
end
end
section
open Go.RowKit
section
variable {N:Nat} {D:List Deferred} {w0:World} {F:Nat→Prop} {G0 G:GH} {L:OL} {T:List (Nat × ak)}
variable {r:Option Nat} {P:Program} {ops:Array Oper} {Q:Exit→Act→World→Prop} {rest:List Oper} {a:Act} {w:World}
variable {d:Nat} {ty:TypeId} {pos:String} {aU:Array Edge} {g:Option (Nat × Bool)}
theorem J3 {t:TypeId} (H:St N D w0 F G0 G L T a w) (hw:Region.wanted ⟨some d,.makeMap t none,ty,pos,aU,g⟩ (yielded ops a.tmps)=true) (hd:Nat.blt d N=true)
  (k:∀ b a' w',w0.heap.size≤b→St N D w0 F G0 G ((b,.map #[] 0) :: L) ((d,.map (some b)) :: T) a' w'→WL r P ops Q rest a' w'):WL r P ops Q (⟨some d,.makeMap t none,ty,pos,aU,g⟩ :: rest) a w:=by
 refine gZ (v:=.map (some w.heap.size)) (w':=w.alloc (.map #[] 0)) hw rfl ?_ (k _ _ _ H.hp.size (H.put hd _ (H.hp.alloc _)))
 simp [execOp,Instr.makeMap,newObj,Sem.run,eT]
def Eh (an:Option (Nat × ak)) (zv:ak):ak × Bool:=match an with|some (_,v)=>(v,true)|none=>(zv,false)
theorem amv {t kt et:TypeId} {kd:TypeDesc} {x y:Operand} {b i clock:Nat} {es:Array MapEntry} {ky zv:ak} (an:Option (Nat × ak)) (hm:P.underlying t=some (.map kt et)) (hk:P.underlying kt=some kd) (hz:(P.info? et).map (fun i=>i.zero)=some (some zv)) (H:St N D w0 F G0 G L T a w)
  (hw:Region.wanted ⟨some d,.lookup t x y true,ty,pos,aU,g⟩ (yielded ops a.tmps)=true) (hx:ev T x=some (.map (some b))) (hy:ev T y=some ky) (hi:L[i]?=some (b,.map es clock)) (hky:MapKept.IsKey kd ky) (hf:Instr.findNow kd ky es.toList 0=some an) (hd:Nat.blt d N=true)
  (k:∀ a',St N D w0 F G0 G L ((d,.tuple #[(Eh an zv).1,.bool (Eh an zv).2]) :: T) a' w→WL r P ops Q rest a' w):WL r P ops Q (⟨some d,.lookup t x y true,ty,pos,aU,g⟩ :: rest) a w:=by
 have hb:w.heap[b]?=some (.map es clock):=H.hp.own _ (oD hi)
 obtain ⟨inf,hi1,hi2⟩:=ql.1 hz
 refine gZ (v:=.tuple #[(Eh an zv).1,.bool (Eh an zv).2]) (w':=w) hw rfl ?_ (k _ (H.put hd _ H.hp))
 have h1:=MapKept.run_checkKey (w:=w) hk hky es.isEmpty 9999
 have h2:=MapKept.run_findKey (w:=w) hk hf
 cases an with
 | none=>simp [execOp,Instr.lookup,H.ev hx,H.ev hy,eT,rT hm,MapKept.run_getObj_map hb,h1,h2,Result.andThen,zeroValue,Iw hi1,hi2,Eh]
 | some q=>simp [execOp,Instr.lookup,H.ev hx,H.ev hy,eT,rT hm,MapKept.run_getObj_map hb,h1,h2,Result.andThen,Eh]
theorem anS {w:World} {b clock:Nat} {es:Array MapEntry} {o:Obj} (h:w.heap[b]?=some (.map es clock)):xH b o w { w with heap:=w.heap.setIfInBounds b o }:=by
 have hlt:b < w.heap.size:=(Array.getElem?_eq_some_iff.1 h).1
 refine ⟨rfl,rfl,rfl,by simp,by simp [hlt],fun k hk=>?_⟩
 simp only
 rw [Array.getElem?_setIfInBounds_ne (Ne.symm hk)]
theorem aaP {t kt et:TypeId} {kd:TypeDesc} {x y z:Operand} {b i clock:Nat} {es:Array MapEntry} {ky v:ak} (hm:P.underlying t=some (.map kt et)) (hk:P.underlying kt=some kd) (H:St N D w0 F G0 G L T a w)
  (hw:Region.wanted ⟨none,.mapUpdate t x y z,ty,pos,aU,g⟩ (yielded ops a.tmps)=true) (hx:ev T x=some (.map (some b))) (hy:ev T y=some ky) (hzv:ev T z=some v) (hi:L[i]?=some (b,.map es clock)) (hky:MapKept.IsKey kd ky) (hf:Instr.findNow kd ky es.toList 0=some none)
  (k:∀ w',St N D w0 F G0 G (L.set i (b,.map (es.push ⟨ky,v,clock⟩) (clock+1))) T a w'→WL r P ops Q rest a w'):WL r P ops Q (⟨none,.mapUpdate t x y z,ty,pos,aU,g⟩ :: rest) a w:=by
 have hb:w.heap[b]?=some (.map es clock):=H.hp.own _ (oD hi)
 have h1:=MapKept.run_checkKey (w:=w) hk hky false 9999
 have h2:=MapKept.run_findKey (w:=w) hk hf
 refine acf (w':={ w with heap:=w.heap.setIfInBounds b (.map (es.push ⟨ky,v,clock⟩) (clock+1)) }) hw rfl ?_ (k _ (H.move (H.hp.upd hi (anS hb))))
 simp [execOp,Instr.mapUpdate,H.ev hx,H.ev hy,H.ev hzv,eT,rT hm,MapKept.run_getObj_map hb,h1,h2,MapKept.run_setObj_map _ hb,Result.andThen]
theorem aaR {t yt:TypeId} {x y:Operand} {p q:ByteArray} (H:St N D w0 F G0 G L T a w) (hw:Region.wanted ⟨some d,.binOp .neq t x y yt,ty,pos,aU,g⟩ (yielded ops a.tmps)=true) (hx:ev T x=some (.string p)) (hy:ev T y=some (.string q)) (hd:Nat.blt d N=true)
  (k:∀ a',St N D w0 F G0 G L ((d,.bool (!(p.toList == q.toList))) :: T) a' w→WL r P ops Q rest a' w):WL r P ops Q (⟨some d,.binOp .neq t x y yt,ty,pos,aU,g⟩ :: rest) a w:=by
 refine gZ (v:=.bool (!(p.toList == q.toList))) (w':=w) hw rfl ?_ (k _ (H.put hd _ H.hp))
 simp [execOp,H.ev hx,H.ev hy,eT,eqGuard,binOp,Op.stringOp]
theorem Hp.aak (h:Hp w0 F G0 G L w) {b o:Nat} {c:Array ak} {e:TypeId} {fz:Nat × Nat} {v:ak} (hm:(b,Obj.cells c e fz)∈L) (hv:c[o]?=some v):w.cell? ⟨b,o,none⟩=some v:=by
 have:=h.own _ hm
 simp only [World.cell?,this]
 exact hv
end
end
section
open Go.RowKit
section
variable {N:Nat} {D:List Deferred} {w0:World} {F:Nat→Prop} {G0 G G1 G2:GH} {L L1:OL} {T Xs:List (Nat × ak)}
variable {r:Option Nat} {P:Program} {Q:Exit→Act→World→Prop} {l:List Oper} {a a':Act} {w w':World}
end
end
section
open Go.RowKit
section
variable {N:Nat} {D:List Deferred} {w0:World} {F:Nat→Prop} {G0 G G1 G2:GH} {L L1 L2:OL} {T Xs:List (Nat × ak)}
variable {r:Option Nat} {P:Program} {Q:Exit→Act→World→Prop} {l:List Oper} {a a':Act} {w w':World}
theorem aek {pr:Nat→ak→GH→Prop} {S:Nat→Bool} {i:Nat} (hi:fG l i=none) (HT:St N D w0 F G0 G1 L T a w) (hG:∀ k o,G k=some o→G1 k=some o) (hv:∀ i d,S i=true→fG l i=some d→∃ v,a.tmps[d]?=some v∧pr i v G1)
  (H:St N D w0 F G0 G1 L2 (Xs++full N a) a w'):DX N D w0 F G0 G L2 T l pr (eO S i) a w' :=
 ⟨G1,hG,HT.move H.hp,fun j e hj he=>hv j e (by
  unfold eO at hj
  by_cases hji:j=i
  ·subst hji;rw [hi] at he;cases he
  ·rwa [ah hji] at hj) he⟩
end
end
section
open Go.RowKit
theorem akO:liesAt prog prog.depth 277 (7 / prog.cellsOf 277) 2 124 1=true:=by kernel_rfl
theorem Qc:Ty prog 5 1 1 [.int .u8 0] false:=⟨by kernel_rfl,by kernel_rfl⟩
abbrev iP (b:Nat) (s:ByteArray) (i:Int) (p v q:ak) (pl e:Int):Nat × Obj:=(b,.cells #[.string s,vi i,p,v,q,vi pl,vi e] 277 (0,0))
theorem amH (G:GH) (L:OL) (w0:World) (b:Nat) (s:ByteArray) (i:Int) (A:Option Addr) (n c:Nat) (B:Option Addr) (m d:Nat) (pl e:Int) (hO:ig G (iP b s i (.pointer none) (.slice A n c) (.slice B m d) pl e :: L) w0) :
  Calls prog 115 #[(aM b 2)] w0 (gy w0 G (iP b s i (.pointer none) (.slice A n c) (.slice B m d) pl e :: L) fun u G' L'=>L'=iP b s i (aM b 2) (.slice A n c) (.slice B m d) pl e :: L∧G'=G):=by
 refine jB (N:=20) (T:=[(0,_)]) func115 rfl ntmps115 rfl rfl hO ?_;intro a H;refine kP H (SR fun _ K1=>Rm rfl (Rk rfl (bg KY MZ 0 rfl rfl ?_)));clear H;intro a H;refine aaM M5 H wn rfl rfl ?_;clear H;intro a H;refine K1 _ _ ?_;clear K1;refine jX H rfl ?_ ?_
 ·intro h6
  refine kP H (SC (Rm rfl (Rm rfl ?_)));clear H;intro a H;refine amE M5 abD Vg H wn rfl 0 rfl rfl rfl ?_;clear H;intro a H;refine amx (xs:=[.tmp 9]) (alk _) H wn rfl rfl ?_;clear H;intro a H;refine amu abD M5 Vg H wn rfl 0 rfl akO rfl ?_;clear H;intro a H;refine kH H (Rk rfl (Rf KY rfl ?_));clear H;intro a H;refine bN MZ 0 (vs:=[_]) _ H wn rfl rfl rfl rfl rfl rfl rfl rfl ?_;clear H;intro w H;dsimp only [List.set,setRow] at H;refine aH ?_;refine (leave0 H results115 ?_).2;exact H.hp.eB ⟨rfl,rfl⟩
 intro h6
 exact absurd h6 (by decide)
theorem amI (G:GH) (L:OL) (w0:World) (b:Nat) (s:ByteArray) (i:Int) (A:Option Addr) (n c:Nat) (B:Option Addr) (m d:Nat) (pl e:Int) (hO:ig G (iP b s i (aM b 2) (.slice A n c) (.slice B m d) pl e :: L) w0) :
  Calls prog 115 #[(aM b 2)] w0 (gy w0 G (iP b s i (aM b 2) (.slice A n c) (.slice B m d) pl e :: L) fun u G' L'=>L'=iP b s i (aM b 2) (.slice A n c) (.slice B m d) pl e :: L∧G'=G):=by
 refine jB (N:=20) (T:=[(0,_)]) func115 rfl ntmps115 rfl rfl hO ?_;intro a H;refine kP H (SR fun _ K1=>Rm rfl (Rk rfl (bg KY MZ 0 rfl rfl ?_)));clear H;intro a H;refine aaM M5 H wn rfl rfl ?_;clear H;intro a H;refine K1 _ _ ?_;clear K1;refine jX H rfl ?_ ?_
 ·intro h6
  exact absurd h6 (by simp)
 intro h6
 refine kP H (SR fun _ K2=>Rm rfl (Rk rfl (bg KY MZ 0 rfl rfl (Rm rfl ?_))));clear H;intro a H;refine amw M5 Vg H wn rfl rfl rfl ?_;clear H;intro a H;refine K2 _ _ ?_;clear K2;refine jX H rfl ?_ ?_
 ·intro h19
  exact absurd h19 (by decide)
 intro h19
 refine fu ?_;refine (leave0 H results115 ?_).2;exact H.hp.eB ⟨rfl,rfl⟩
theorem amJ (G:GH) (L:OL) (w0:World) (b:Nat) (s:ByteArray) (i:Int) (p:ak) (A:Option Addr) (n c:Nat) (B:Option Addr) (m d:Nat) (pl e:Int) (hp:p=.pointer none∨p=(aM b 2)) (hO:ig G (iP b s i p (.slice A n c) (.slice B m d) pl e :: L) w0) :
  Calls prog 115 #[(aM b 2)] w0 (gy w0 G (iP b s i p (.slice A n c) (.slice B m d) pl e :: L) fun u G' L'=>L'=iP b s i (aM b 2) (.slice A n c) (.slice B m d) pl e :: L∧G'=G):=by
 rcases hp with rfl|rfl
 ·exact amH G L w0 b s i A n c B m d pl e hO
 exact amI G L w0 b s i A n c B m d pl e hO
theorem abY (G:GH) (Lp Lo:OL) (w0:World) (b:Nat) (s:ByteArray) (i:Int) (p v:ak) (B:Option Addr) (m d:Nat) (pl e:Int) (n:Nat) (xs:List ak) (c:Int) (hp:p=.pointer none∨p=(aM b 2)) (hO:ig G (iP b s i p v (.slice B m d) pl e :: (Lp++Lo)) w0) (hrow:dO 5 1 v n xs Lo) (hn:n≤4294967296) :
  Calls prog 196 #[(aM b 2),.int .u8 c] w0 (gy w0 G (iP b s i p v (.slice B m d) pl e :: (Lp++Lo)) fun u G' L'=>∃ v' kL,L'=iP b s i (aM b 2) v' (.slice B m d) pl e :: (Lp++kL)∧dO 5 1 v' (n+1) (xs++[.int .u8 c]) kL∧G'=G):=by
 have hml:maxLen=9223372036854775807:=rfl;obtain ⟨A,c0,rfl,-,-⟩:=hrow.shape;obtain ⟨Lt,qR⟩:∃ x,x=Lp++Lo:=⟨_,rfl⟩;rw [← qR] at hO ⊢;refine jB (N:=17) (T:=[(0,_),(1,_)]) func196 rfl ntmps196 rfl rfl hO ?_;intro a H;refine kP H (SR fun _ K1=>aj K1 rfl (SR fun _ K2=>Rm rfl ?_));clear H K1;intro a H;refine gB aeG (Li:=[]) (L:=iP b s i p _ (.slice B m d) pl e :: Lt) H wn rfl (amJ _ _ _ b s i p A n c0 B m d pl e hp (Hp.owns (Li:=[]) H.hp)) rfl ?_;clear H;rintro v6 _ L6 a w ⟨rfl,rfl⟩ LY H;dsimp only [List.nil_append] at H;refine K2 _ _ ?_;clear K2;refine kP H (SR fun _ K3=>Rm rfl (Rm rfl (Rk rfl (bg Jl J6 0 rfl rfl (Rm rfl ?_)))));clear H;intro a H;refine jJ Iz Qc [_] [_] H wn rfl rfl rfl rfl rfl (by intro i q h;match i,h with|0,h=>exact h|n+1,h=>simp at h) rfl rfl ?_;clear H;intro b13 a w Jw H;subst qR;have H:=St.un (A:=[_,_]) (B:=Lp) (C:=Lo) H;refine tX (Li:=[_,_]++Lp) (Lo:=Lo) (news:=[.int .u8 c]) Iz Qc rfl rfl H wn rfl rfl hrow rfl (H.hp.dX 0 rfl rfl) rfl (by omega) (by omega) rfl ?_;clear H;intro v14 acy a w Zp H;obtain ⟨VG,c14,rfl,-,-⟩:=Zp.shape;have H:=H.assoc;dsimp only [lca,aV] at H;refine kH H (Rk rfl (Rf Jl rfl ?_));clear H;intro a H;refine bN J6 1 (vs:=[_]) _ H wn rfl rfl rfl rfl rfl rfl rfl rfl ?_;clear H;intro w H;dsimp only [List.set,setRow] at H;refine K3 _ _ ?_;clear K3;exact kP H (SR fun _ K4=>aj K4 rfl (LR results196 rfl fun H=>H.hp.cK (L':=iP b s i _ _ _ pl e :: (Lp++acy)) (Co _ _) ⟨_,_,rfl,Zp,rfl⟩))
theorem ane (G:GH) (L:OL) (w0:World) (b:Nat) (s:ByteArray) (i:Int) (p:ak) (A:Option Addr) (n c:Nat) (B:Option Addr) (m d:Nat) (pl e:Int) (hO:ig G (iP b s i p (.slice A n c) (.slice B m d) pl e :: L) w0) :
  Calls prog 201 #[(aM b 2)] w0 (gy w0 G (iP b s i p (.slice A n c) (.slice B m d) pl e :: L) fun u G' L'=>u=vi n∧L'=iP b s i p (.slice A n c) (.slice B m d) pl e :: L∧G'=G):=by
 refine jB (N:=8) (T:=[(0,_)]) func201 rfl ntmps201 rfl rfl hO ?_;intro a H;exact kP H (SR fun _ K1=>aj K1 rfl (SR fun _ K2=>Rm rfl (Rk rfl (bg Jl J6 0 rfl rfl (Rl Iz rfl (aj K2 rfl (LR results201 rfl fun H=>H.hp.eB ⟨rfl,rfl,rfl⟩)))))))
theorem anp (G:GH) (L:OL) (w0:World) (b:Nat) (s:ByteArray) (i:Int) (p:ak) (A:Option Addr) (n c:Nat) (B:Option Addr) (m d:Nat) (pl e:Int) (hO:ig G (iP b s i p (.slice A n c) (.slice B m d) pl e :: L) w0) :
  Calls prog 202 #[(aM b 2)] w0 (gy w0 G (iP b s i p (.slice A n c) (.slice B m d) pl e :: L) fun u G' L'=>L'=iP b s i (.pointer none) (.slice none 0 0) (.slice B m d) pl e :: L∧G'=G):=by
 refine jB (N:=8) (T:=[(0,_)]) func202 rfl ntmps202 rfl rfl hO ?_;intro a H;refine kP H (SR fun _ K1=>Rm rfl (Rk rfl (Rf KY rfl ?_)));clear H;intro a H;refine bN MZ 0 (vs:=[_]) _ H wn rfl rfl rfl rfl rfl rfl rfl rfl ?_;clear H;intro w H;dsimp only [List.set,setRow] at H;refine K1 _ _ ?_;clear K1;refine kP H (SC (Rm rfl (Rk rfl (Rf Jl rfl ?_))));clear H;intro a H;refine bN J6 0 (vs:=[_]) _ H wn rfl rfl rfl rfl rfl rfl rfl rfl ?_;clear H;intro w H;dsimp only [List.set,setRow] at H;refine aH ?_;refine (leave0 H results202 ?_).2;exact H.hp.eB ⟨rfl,rfl⟩
theorem anq (G:GH) (Lp Lo:OL) (w0:World) (b:Nat) (s:ByteArray) (i:Int) (p v:ak) (B:Option Addr) (m d:Nat) (pl e:Int) (l:List UInt8) (hO:ig G (iP b s i p v (.slice B m d) pl e :: (Lp++Lo)) w0) (hrow:dO 5 1 v l.length (Lib.byteCells l) Lo) (h0:l≠[]) :
  Calls prog 59 #[(aM b 2)] w0 (gy w0 G (iP b s i p v (.slice B m d) pl e :: (Lp++Lo)) fun u G' L'=>u=.string ⟨l.toArray⟩∧L'=iP b s i p v (.slice B m d) pl e :: Lp):=by
 rcases hrow.2 with ⟨-,h,-⟩|⟨b2,cap,cur,rfl,rfl,hc1,hc2,hc3,hc4⟩
 ·exact absurd (List.eq_nil_of_length_eq_zero h) h0
 have hl0:l.length≠0:=fun h=>h0 (List.eq_nil_of_length_eq_zero h);have hml:maxLen=9223372036854775807:=rfl;obtain ⟨Lt,qR⟩:∃ x,x=Lp++[(b2,Obj.cells cur 5 (0,0))]:=⟨_,rfl⟩;rw [← qR] at hO ⊢;refine jB (N:=14) (T:=[(0,_)]) func59 rfl ntmps59 rfl rfl hO ?_;intro a H;refine kP H (SR fun _ K1=>aj K1 rfl (SQ fun _ K2=>?_));clear H K1;intro a H;have H:=H.sub (T':=[(0,_)]) ⟨rfl,aC⟩;refine dI hmx [[],[0],[0,1],[0,1,2],(ra 0 4),[],[5],[5,6],[5,6,7],(ra 5 4),(ra 0 10),(ra 0 11)] [10,11] (by kernel_rfl) [_,_,_,.slice (some ⟨b2,0,none⟩) l.length cap,(aM b2 0),_,_,_,.slice (some ⟨b2,0,none⟩) l.length cap,_] H (aG (Z0 rfl (Rm rfl)) (Z1 0 3 rfl (Rk rfl)) (Z1 1 4 rfl (Rf Jl rfl)) (Z1 2 5 rfl (Ro J6 0 rfl)) (aG ?_ (Z0 rfl (Rm rfl)) (Z1 5 8 rfl (Rk rfl)) (Z1 6 9 rfl (Rf Jl rfl)) (aG (Z1 7 10 rfl (Ro J6 0 rfl)) (Z1 8 11 rfl (Rl Iz rfl)) (bY rfl) (bY rfl) dD))) ?_
 ·refine dN 3 6 rfl rfl fun _ a w G1 hG HT H fin=>?_;refine amB H wn rfl (by omega) rfl ?_;clear H;intro a H;exact fin H iJ rfl
 clear H;intro a w G jY H hv;have H:=H.aZ (hv 4 7 rfl rfl) rfl;have H:=H.aZ (hv 9 12 rfl rfl) rfl;clear hv;subst qR;have H:=H.perm (List.Perm.cons _ vv);dsimp only [lca,aV] at H;refine amF (i:=1) l anJ adj h0 (by omega) H wn rfl rfl rfl (by rw [← hc4,Nat.mul_one]) rfl ?_;clear H;intro fz a w H;dsimp only [List.set] at H;refine kH H (Ra rfl ?_);clear H;intro a H;refine aH ⟨rfl,?_⟩;refine K2 _ _ ?_;clear K2;refine lr H results59 rfl ?_;exact H.hp.cK (L':=iP b s i _ _ _ pl e :: Lp) (List.Sublist.cons_cons _ (Co _ _)) ⟨rfl,rfl⟩
end
section
open Go.RowKit
section
variable {N:Nat} {D:List Deferred} {w0:World} {F:Nat→Prop} {G0 G G1 G2:GH} {L L1 L2:OL} {T Xs:List (Nat × ak)}
variable {r:Option Nat} {P:Program} {Q:Exit→Act→World→Prop} {l:List Oper} {a a':Act} {w w':World}
theorem DX.perm {pr:Nat→ak→GH→Prop} {S:Nat→Bool} (h:DX N D w0 F G0 G L1 T l pr S a w) (hp:L1.Perm L2):DX N D w0 F G0 G L2 T l pr S a w:=by
 obtain ⟨G1,hG,HS,hv⟩:=h
 exact ⟨G1,hG,HS.perm hp,hv⟩
end
end
section
open Go.RowKit
section
variable {N:Nat} {D:List Deferred} {w0:World} {F:Nat→Prop} {G0 G G1 G2:GH} {L L1 L2:OL} {T Xs:List (Nat × ak)}
variable {r:Option Nat} {P:Program} {Q:Exit→Act→World→Prop} {l:List Oper} {a a':Act} {w w':World}
theorem Ji {pr:Nat→ak→GH→Prop} {S:Nat→Bool} {i d:Nat} {v:ak} (hok:pU l T i=true) (kX:∀ i v (G G':GH),(∀ k o,G k=some o→G' k=some o)→pr i v G→pr i v G') (hi:fG l i=some d)
  (HT:St N D w0 F G0 G1 L T a w) (Hb:St N D w0 F G0 G1 L (Xs++full N a) a w) (hG:∀ k o,G k=some o→G1 k=some o) (hv:∀ j d,j≠i→S j=true→fG l j=some d→∃ v,a.tmps[d]?=some v∧pr j v G1)
  (hG2:∀ k o,G1 k=some o→G2 k=some o) (hp:pr i v G2) (H:St N D w0 F G0 G2 L1 ((d,v) :: (Xs++full N a)) a' w'):DX N D w0 F G0 G L1 T l pr (eO S i) a' w':=by
 have hok1:=hok
 rw [pU,hi] at hok1
 simp only [oF,Option.isNone_iff_eq_none,oU,wD] at hok1
 have hsame:∀ t,t≠d→a'.tmps[t]?=a.tmps[t]?:=by
  intro t ht
  by_cases hlt:t < N
  ·have h1:∃ u,lk (Xs++full N a) t=some u:=by
    rw [Pn]
    cases lk Xs t with
    | some u=>exact ⟨u,rfl⟩
    | none=>exact ⟨_,Po a hlt⟩
   obtain ⟨u,hu⟩:=h1
   rw [Hb.get t u hu,H.get t u (by rw [wZ (Ne.symm ht)];exact hu)]
  ·rw [Array.getElem?_eq_none (by rw [H.og];omega),Array.getElem?_eq_none (by rw [Hb.og];omega)]
 refine ⟨G2,fun k o hk=>hG2 k o (hG k o hk),⟨H.og,fun t u ht=>?_,H.uH,H.hp⟩,fun j e hj he=>?_⟩
 ·rw [hsame t (fun e=>by rw [e,hok1.1] at ht;cases ht)]
  exact HT.get t u ht
 ·by_cases hji:j=i
  ·subst hji
   rw [hi] at he
   simp only [nM] at he
   subst he
   exact ⟨v,H.get d v (yB _ _ _),hp⟩
  ·have hSj:S j=true:=by unfold eO at hj;rwa [ah hji] at hj
   obtain ⟨u,hu1,hu2⟩:=hv j e hji hSj he
   have hne:e≠d:=by
    intro e'
    subst e'
    have h2:=hok1.2 j (za he)
    rw [xK (fun h=>hji h.symm),he] at h2
    simp at h2
   exact ⟨u,by rw [hsame e hne];exact hu1,kX j u _ _ hG2 hu2⟩
theorem acQ {id:Nat} {κ:Type} (k0:κ) (hm:P.follows .mixedOrders=true) (cZ:List (List Nat)) (B:List Nat) (hk:DJ l cZ=true) (hB:Ca l cZ B=true) (m1 m2 m3:Nat) (Zc:B.contains m1=false) (Zd:B.contains m2=false) (TF:B.contains m3=false) (hne:Nat.beq m1 m2=false) (Zg:Nat.beq m2 m3=false) (hne1:Nat.beq m1 m3=false) (h12:(cZ.getD m2 []).contains m1=true) (gG:(cZ.getD m3 []).contains m1=true) (h23:(cZ.getD m3 []).contains m2=true)
  (C L2:OL) (ob:Obj) (L3:Nat→κ→OL) (hC:∀ x,x∈C→x∈L) (hC2:∀ x,x∈C→x∈L2) (hC3:∀ b k x,x∈C→x∈L3 b k) (pr:Nat→κ→Nat→ak→GH→Prop)
  (ajG:∀ b b' k i v G,Nat.beq i m2=false→(cZ.getD i []).contains m2=false→pr b k i v G→pr b' k i v G)
  (ajH:∀ b k k' i v G,Nat.beq i m3=false→(cZ.getD i []).contains m3=false→pr b k i v G→pr b k' i v G)
  (H:St N D w0 F G0 G L T a w)
  (hstep:allI (fun i o=>∀ b k L' S a w G1,(∀ x,x∈C→x∈L')→B.contains i=false→Nat.beq i m1=false→Nat.beq i m2=false→Nat.beq i m3=false→S i=false→(∀ j∈cZ.getD i [],S j=true)→(∀ k o,G k=some o→G1 k=some o)→St N D w0 F G0 G1 L' T a w→(∀ i d,S i=true→fG l i=some d→∃ v,a.tmps[d]?=some v∧pr b k i v G1) →
   WL r P l.toArray (fun e a' w'=>e=.normal∧DX N D w0 F G0 G L' T l (pr b k) (eO S i) a' w') [o] a w) 0 l)
  (TG:∀ o b k S a w G1,l[m1]?=some o→S m1=false→(∀ j∈cZ.getD m1 [],S j=true)→(∀ k o,G k=some o→G1 k=some o)→St N D w0 F G0 G1 L T a w→(∀ i d,i≠m1→S i=true→fG l i=some d→∃ v,a.tmps[d]?=some v∧pr b k i v G1) →
   WL r P l.toArray (fun e a' w'=>e=.normal∧DX N D w0 F G0 G L2 T l (pr b k) (eO S m1) a' w') [o] a w)
  (TH:∀ o k S a w G1,l[m2]?=some o→S m2=false→(∀ j∈cZ.getD m2 [],S j=true)→(∀ k o,G k=some o→G1 k=some o)→St N D w0 F G0 G1 L2 T a w→(∀ b i d,i≠m2→S i=true→fG l i=some d→∃ v,a.tmps[d]?=some v∧pr b k i v G1) →
   WL r P l.toArray (fun e a' w'=>e=.normal∧∃ b,DX N D w0 F G0 G ((b,ob) :: L2) T l (pr b k) (eO S m2) a' w') [o] a w)
  (TI:∀ o b S a w G1,l[m3]?=some o→S m3=false→(∀ j∈cZ.getD m3 [],S j=true)→(∀ k o,G k=some o→G1 k=some o)→St N D w0 F G0 G1 ((b,ob) :: L2) T a w→(∀ k i d,i≠m3→S i=true→fG l i=some d→∃ v,a.tmps[d]?=some v∧pr b k i v G1) →
   WL r P l.toArray (fun e a' w'=>e=.normal∧∃ k,DX N D w0 F G0 G (L3 b k) T l (pr b k) (eO S m3) a' w') [o] a w)
  (hend:∀ b k a w G1,(∀ k o,G k=some o→G1 k=some o)→St N D w0 F G0 G1 (L3 b k) T a w→(∀ i d,B.contains i=false→fG l i=some d→∃ v,a.tmps[d]?=some v∧pr b k i v G1)→WL r P l.toArray (fun e a w=>e=.normal∧Q .normal a w) (sP l B) a w)
  (Md:Nat.blt m2 l.length=true) (H8:Nat.blt m3 l.length=true):WP r P (.region id l.toArray true) Q a w:=by
 have aal:m1≠m2:=fun e=>by subst e;rw [Nat.beq_refl] at hne;cases hne
 have aan:m2≠m3:=fun e=>by subst e;rw [Nat.beq_refl] at Zg;cases Zg
 have aam:m1≠m3:=fun e=>by subst e;rw [Nat.beq_refl] at hne1;cases hne1
 refine QJ hm cZ B hk hB (fun S a w=>(S m2=true→S m1=true)∧(S m3=true→S m2=true)∧∃ b k L',L'=(bif S m3 then L3 b k else bif S m2 then (b,ob) :: L2 else bif S m1 then L2 else L)∧DX N D w0 F G0 G L' T l (pr b k) S a w)
  ⟨fun h=>h,fun h=>h,0,k0,L,rfl,G,fun _ _ h=>h,H.move H.hp.drew,fun _ _ h=>absurd (show false=true from h) (by decide)⟩ ?_ ?_
 ·rintro i o S a w ho hb cB nS hdesc ⟨OM,ajE,b,k,L',hL,G1,hG,HS,hv⟩
  have hsub:∀ x,x∈C→x∈L':=fun x hx=>by
   rw [hL]
   cases S m3 with
   | true=>exact hC3 b k x hx
   | false=>cases S m2 with
    | true=>exact nE _ (hC2 x hx)
    | false=>cases S m1 with
     | true=>exact hC2 x hx
     | false=>exact hC x hx
  have hno:∀ j,j < l.length→S j=true→(cZ.getD j []).contains i=false:=fun j hjl hj=>by
   cases hc:(cZ.getD j []).contains i with
   | false=>rfl
   | true =>
    have:=hdesc j hjl (by simpa using hc)
    rw [this] at hj;cases hj
  by_cases h1:i=m1
  ·subst h1
   have hS2:S m2=false:=hdesc m2 (Eq.mp Nat.blt_eq Md) (by simpa using h12)
   have Bu:S m3=false:=hdesc m3 (Eq.mp Nat.blt_eq H8) (by simpa using gG)
   rw [Bu,hS2,cB] at hL
   subst hL
   have h:=TG o b k S a w G1 ho cB nS hG HS fun j d hj hSj hd=>hv j d hSj hd
   have e2:eO S i m2=S m2:=ah (fun e=>aal e.symm)
   have e3:eO S i m3=S m3:=ah (fun e=>aam e.symm)
   refine sZ (fun e a' w' ⟨he,hD⟩=>⟨he,fun _=>av rfl,fun h=>(by rw [e3,Bu] at h;cases h),b,k,_,?_,hD⟩) h
   rw [show eO S i i=true from av rfl,e2,e3,hS2,Bu]
   rfl
  ·by_cases h2:i=m2
   ·subst h2
    have hS1:S m1=true:=nS m1 (by simpa using h12)
    have Bu:S m3=false:=hdesc m3 (Eq.mp Nat.blt_eq H8) (by simpa using h23)
    rw [Bu,cB,hS1] at hL
    subst hL
    have e1:eO S i m1=S m1:=ah aal
    have e3:eO S i m3=S m3:=ah (fun e=>aan e.symm)
    have h:=TH o k S a w G1 ho cB nS hG HS fun b' j d hj hSj hd=>by
     obtain ⟨v,hv1,hv2⟩:=hv j d hSj hd
     exact ⟨v,hv1,ajG b b' k j v _ (xK hj) (hno j (za hd) hSj) hv2⟩
    refine sZ (fun e a' w' ⟨he,b',hD⟩=>⟨he,fun _=>by rw [e1];exact hS1,fun _=>av rfl,b',k,_,?_,hD⟩) h
    rw [show eO S i i=true from av rfl,e3,Bu];rfl
   ·by_cases h3:i=m3
    ·subst h3
     have hS1:S m1=true:=nS m1 (by simpa using gG)
     have hS2:S m2=true:=nS m2 (by simpa using h23)
     rw [cB,hS2] at hL
     subst hL
     have e1:eO S i m1=S m1:=ah aam
     have e2:eO S i m2=S m2:=ah aan
     have h:=TI o b S a w G1 ho cB nS hG HS fun k' j d hj hSj hd=>by
      obtain ⟨v,hv1,hv2⟩:=hv j d hSj hd
      exact ⟨v,hv1,ajH b k k' j v _ (xK hj) (hno j (za hd) hSj) hv2⟩
     refine sZ (fun e a' w' ⟨he,k',hD⟩=>⟨he,fun _=>by rw [e1];exact hS1,fun _=>by rw [e2];exact hS2,b,k',_,?_,hD⟩) h
     rw [show eO S i i=true from av rfl];rfl
    ·have h:=I7 hstep i o ho
     rw [lD] at h
     have e1:eO S i m1=S m1:=ah (fun e=>h1 e.symm)
     have e2:eO S i m2=S m2:=ah (fun e=>h2 e.symm)
     have e3:eO S i m3=S m3:=ah (fun e=>h3 e.symm)
     refine sZ (fun e a' w' ⟨he,hD⟩=>⟨he,by rw [e1,e2];exact OM,by rw [e2,e3];exact ajE,b,k,L',?_,hD⟩) (h b k L' S a w G1 hsub hb (xK h1) (xK h2) (xK h3) cB nS hG HS hv)
     rw [e1,e2,e3];exact hL
 ·rintro S a w hall Zf ⟨_,_,b,k,L',hL,G1,hG,HS,hv⟩
  have hs3:S m3=true:=hall m3 (Eq.mp Nat.blt_eq H8) TF
  rw [hs3] at hL
  subst hL
  exact hend b k a w G1 hG HS fun j d hb hd=>hv j d (hall j (za hd) hb) hd
end
theorem anG {z:Int} (h1:0≤z) (h2:z < 256):IntKind.u8.wrap z=z:=by
 simp only [IntKind.wrap,IntKind.bits,IntKind.signed,uw,mD,if_false]
 omega
section
variable {N:Nat} {D:List Deferred} {w0:World} {F:Nat→Prop} {G0 G:GH} {L:OL} {T:List (Nat × ak)}
variable {r:Option Nat} {P:Program} {ops:Array Oper} {Q:Exit→Act→World→Prop} {rest:List Oper} {a:Act} {w:World}
variable {d:Nat} {ty:TypeId} {pos:String} {aU:Array Edge} {g:Option (Nat × Bool)}
theorem amD {x y:Operand} {t yt:TypeId} {p q:Int} (H:St N D w0 F G0 G L T a w) (hw:Region.wanted ⟨some d,.binOp .sub t x y yt,ty,pos,aU,g⟩ (yielded ops a.tmps)=true) (hx:ev T x=some (.int .u8 p)) (hy:ev T y=some (.int .u8 q)) (h1:0≤p - q) (h2:p - q < 256) (hd:Nat.blt d N=true)
  (k:∀ a',St N D w0 F G0 G L ((d,.int .u8 (p - q)) :: T) a' w→WL r P ops Q rest a' w):WL r P ops Q (⟨some d,.binOp .sub t x y yt,ty,pos,aU,g⟩ :: rest) a w :=
 gZ (v:=.int .u8 (p - q)) (w':=w) hw rfl (by simp [execOp,eqGuard,binOp,Op.intArith,H.ev hx,H.ev hy,eT,anG h1 h2]) (k _ (H.put hd _ H.hp))
end
end
section
open Go.RowKit
theorem afN:∀ args w,(callFunc 201 args).run prog w=.ok (.enter 201 args) w:=enters func201 rfl (by kernel_rfl)
theorem M4:Ty prog 253 1 24 [.slice none 0 0] false:=⟨by kernel_rfl,by kernel_rfl⟩
theorem agj:∀ args w,(callFunc 59 args).run prog w=.ok (.enter 59 args) w:=enters func59 rfl (by kernel_rfl)
theorem Ka:prog.underlying 253=some (.slice 258):=by kernel_rfl
theorem J9:Ty prog 258 3 32 [.string ⟨#[]⟩,.int .i64 0,.bool false] true:=⟨by kernel_rfl,by kernel_rfl⟩
theorem afO:∀ args w,(callFunc 202 args).run prog w=.ok (.enter 202 args) w:=enters func202 rfl (by kernel_rfl)
theorem Ld:dV prog 277 2 2:=⟨by kernel_rfl⟩
theorem Le:dV prog 277 3 4:=⟨by kernel_rfl⟩
theorem abj:uj prog 258 [(0,1),(1,1),(2,1)] [.string ⟨#[]⟩,.int .i64 0,.bool false]:=⟨by kernel_rfl,by kernel_rfl⟩
theorem Rh:∀ args w,(callFunc 197 args).run prog w=.ok (.enter 197 args) w:=enters func197 rfl (by kernel_rfl)
theorem N7:dV prog 277 4 5:=⟨by kernel_rfl⟩
structure jT where
 lit:ByteArray
 level:Int
 plain:Bool
def jT.dat (x:jT):List Dat:=[.lf (.string x.lit),li x.level,.lf (.bool x.plain)]
abbrev jT.cells (x:jT):List ak:=[.string x.lit,vi x.level,.bool x.plain]
theorem Z9 (G:GH) (x:jT):bH G x.dat x.cells:=by
 simp only [jT.dat,jT.cells,bH]
 exact ⟨_,_,rfl,by simp [au,Value.oneCell'],_,_,rfl,by simp [au,Value.oneCell'],_,_,rfl,by simp [au,Value.oneCell'],rfl⟩
theorem Z8 {G:GH} {x:jT} {cs:List ak} (h:bH G x.dat cs):cs=x.cells:=by
 simp only [jT.dat,bH,au] at h
 obtain ⟨_,_,rfl,⟨rfl,_⟩,_,_,rfl,⟨rfl,_⟩,_,_,rfl,⟨rfl,_⟩,rfl⟩:=h
 rfl
def Fv (l:List jT):List ak:=(l.map jT.cells).flatten
theorem Z7 (l:List jT) (x:jT):Fv (l++[x])=Fv l++x.cells:=by simp [Fv]
structure Cm (b:Nat) (lit:List UInt8) (parts:List jT) (p v q:ak) (Lp Lo:OL):Prop where
 ptr:p=.pointer none∨p=(aM b 2)
 buf:dO 5 1 v lit.length (Lib.byteCells lit) Lo
 prt:dO 258 3 q parts.length (Fv parts) Lp
def wN (lit:List UInt8) (parts:List jT):List jT:=if lit=[] then parts else parts++[⟨⟨lit.toArray⟩,0,false⟩]
set_option maxHeartbeats 1000000 in
theorem RP (G:GH) (Lp Lo:OL) (w0:World) (b:Nat) (s:ByteArray) (i:Int) (p v q:ak) (pl e:Int) (lit:List UInt8) (parts:List jT) (hR:Cm b lit parts p v q Lp Lo) (hO:ig G (iP b s i p v q pl e :: (Lp++Lo)) w0) (hl:lit.length≤4294967296) (hp:parts.length≤4294967296) :
  Calls prog 197 #[(aM b 0)] w0 (gy w0 G (iP b s i p v q pl e :: (Lp++Lo)) fun u G' L'=>∃ p' v' q' rX kL,L'=iP b s i p' v' q' pl e :: (rX++kL)∧Cm b [] (wN lit parts) p' v' q' rX kL):=by
 obtain ⟨Zh,hbuf,OP⟩:=hR;have hml:maxLen=9223372036854775807:=rfl;obtain ⟨A,c,rfl,ZE,ZF⟩:=hbuf.shape;obtain ⟨B,d,rfl,Zi,Zj⟩:=OP.shape;obtain ⟨Lt,qR⟩:∃ x,x=Lp++Lo:=⟨_,rfl⟩;rw [← qR] at hO ⊢;refine jB (N:=25) (T:=[(0,_)]) func197 rfl ntmps197 rfl rfl hO ?_;intro a H;refine kP H (SR fun _ K1=>Rm rfl (Rk rfl (Rf Ld rfl ?_)));clear H;intro a H;refine gB afN (Li:=[]) (L:=iP b s i p (.slice A lit.length c) (.slice B parts.length d) pl e :: Lt) H wn rfl (ane _ _ _ b s i p A lit.length c B parts.length d pl e (Hp.owns (Li:=[]) H.hp)) rfl ?_;clear H;rintro v5 _ L5 a w ⟨rfl,rfl,rfl⟩ OC H;dsimp only [List.nil_append] at H;refine kH H (Rc rfl (Kz K1 (Cd rfl ?_ ?_))) <;> clear H K1
 ·intro h6 a H
  try have p6:=dT h6
  have hne:lit≠[]:=fun e=>by rw [e] at p6;simp at p6
  subst qR;refine aS (fun _ K2=>?_)
  have fB:∀ (bD:Nat) (jq:(Option Addr × Nat) × OL) (cu:Nat) (v:ak) (G G':GH),(∀ k o,G k=some o→G' k=some o)→(fun (bD:Nat) (jq:(Option Addr × Nat) × OL) (cu:Nat) (v:ak) (G:GH)=>match cu with|0=>v=(aM b 0)|1=>v=(aM b 0)|2=>v=(aM b 0)|3=>v=(aM b 4)|4=>v=.slice B parts.length d|5=>v=(aM b 0)|6=>v=(aM b 0)|7=>v=(aM b 2)|8=>v=.string ⟨lit.toArray⟩|9=>v=.agg (jT.cells ⟨⟨lit.toArray⟩,0,false⟩).toArray|10=>v=.slice (some ⟨bD,0,none⟩) 1 1|11=>v=.slice jq.1.1 (parts.length+1) jq.1.2∧dO 258 3 v (parts.length+1) (Fv (parts++[⟨⟨lit.toArray⟩,0,false⟩])) jq.2|_=>True) bD jq cu v G→(fun (bD:Nat) (jq:(Option Addr × Nat) × OL) (cu:Nat) (v:ak) (G:GH)=>match cu with|0=>v=(aM b 0)|1=>v=(aM b 0)|2=>v=(aM b 0)|3=>v=(aM b 4)|4=>v=.slice B parts.length d|5=>v=(aM b 0)|6=>v=(aM b 0)|7=>v=(aM b 2)|8=>v=.string ⟨lit.toArray⟩|9=>v=.agg (jT.cells ⟨⟨lit.toArray⟩,0,false⟩).toArray|10=>v=.slice (some ⟨bD,0,none⟩) 1 1|11=>v=.slice jq.1.1 (parts.length+1) jq.1.2∧dO 258 3 v (parts.length+1) (Fv (parts++[⟨⟨lit.toArray⟩,0,false⟩])) jq.2|_=>True) bD jq cu v G':=by
   intro bD jq cu v G G' hm h
   match cu,h with
   | 0,h=>exact h
   | 1,h=>exact h
   | 2,h=>exact h
   | 3,h=>exact h
   | 4,h=>exact h
   | 5,h=>exact h
   | 6,h=>exact h
   | 7,h=>exact h
   | 8,h=>exact h
   | 9,h=>exact h
   | 10,h=>exact h
   | 11,h=>exact h
   | 12,h=>exact trivial
   | 13,h=>exact trivial
   | 14,h=>exact trivial
   | _+15,h=>exact trivial
  refine acQ (κ:=(Option Addr × Nat) × OL) (((none,0),[])) (hmx) [[],[],[1],[1,2],[1,2,3],[],[5],[5,6],[5,6,7],(ra 5 4),(ra 5 5),(ra 1 10),(ra 0 12),(ra 0 13),(ra 0 14)] [12,13,14] (by kernel_rfl) (by kernel_rfl) 8 10 11 (by decide) (by decide) (by decide) (by decide) (by decide) (by decide) (by decide) (by decide) (by decide) [iP b s i p (.slice A lit.length c) (.slice B parts.length d) pl e] (iP b s i p (.slice A lit.length c) (.slice B parts.length d) pl e :: Lp) (.cells (jT.cells ⟨⟨lit.toArray⟩,0,false⟩).toArray 258 (0,0)) (fun b_ k_=>(b_,.cells (jT.cells ⟨⟨lit.toArray⟩,0,false⟩).toArray 258 (0,0)) :: iP b s i p (.slice A lit.length c) (.slice B parts.length d) pl e :: k_.2) (fun x hx=>by rw [xI.1 hx];exact lW) (fun x hx=>by rw [xI.1 hx];exact lW) (fun _ _ x hx=>by rw [xI.1 hx];exact nE _ lW) (fun (bD:Nat) (jq:(Option Addr × Nat) × OL) (cu:Nat) (v:ak) (G:GH)=>match cu with|0=>v=(aM b 0)|1=>v=(aM b 0)|2=>v=(aM b 0)|3=>v=(aM b 4)|4=>v=.slice B parts.length d|5=>v=(aM b 0)|6=>v=(aM b 0)|7=>v=(aM b 2)|8=>v=.string ⟨lit.toArray⟩|9=>v=.agg (jT.cells ⟨⟨lit.toArray⟩,0,false⟩).toArray|10=>v=.slice (some ⟨bD,0,none⟩) 1 1|11=>v=.slice jq.1.1 (parts.length+1) jq.1.2∧dO 258 3 v (parts.length+1) (Fv (parts++[⟨⟨lit.toArray⟩,0,false⟩])) jq.2|_=>True) (fun b b' k i v G hi hc h=>by match i,hi,hc,h with|0,_,_,h=>exact h|1,_,_,h=>exact h|2,_,_,h=>exact h|3,_,_,h=>exact h|4,_,_,h=>exact h|5,_,_,h=>exact h|6,_,_,h=>exact h|7,_,_,h=>exact h|8,_,_,h=>exact h|9,_,_,h=>exact h|10,hi,_,_=>exact absurd hi (by decide)|11,_,hc,_=>exact absurd hc (by decide)|12,_,hc,_=>exact absurd hc (by decide)|13,_,hc,_=>exact absurd hc (by decide)|14,_,hc,_=>exact absurd hc (by decide)|_+15,_,_,_=>exact trivial) (fun b k k' i v G hi hc h=>by match i,hi,hc,h with|0,_,_,h=>exact h|1,_,_,h=>exact h|2,_,_,h=>exact h|3,_,_,h=>exact h|4,_,_,h=>exact h|5,_,_,h=>exact h|6,_,_,h=>exact h|7,_,_,h=>exact h|8,_,_,h=>exact h|9,_,_,h=>exact h|10,_,_,h=>exact h|11,hi,_,_=>exact absurd hi (by decide)|12,_,hc,_=>exact absurd hc (by decide)|13,_,hc,_=>exact absurd hc (by decide)|14,_,hc,_=>exact absurd hc (by decide)|_+15,_,_,_=>exact trivial) H ?_ ?_ ?_ ?_ ?_ (by kernel_rfl) (by kernel_rfl)
  ·clear H;refine aG ?_ ?_ ?_ ?_ (aG ?_ ?_ ?_ ?_ (aG ?_ ?_ ?_ ?_ (bq ?_ (bq ?_ (bq ?_ dD)))))
   ·intro bD jq jv dz a w G1 jO _ _ _ _ cB hc hG HT hv;have H:=HT;clear cB;have Hb:=H.full;have H:=Hb;clear hc;refine kH H (Rm rfl ?_);clear H;intro a H;refine aH ⟨rfl,?_⟩;exact kC (by kernel_rfl) (fB bD jq) rfl rfl HT Hb hG hv (fun _ _ h=>h) (rfl) H
   ·intro bD jq jv dz a w G1 jO _ _ _ _ cB hc hG HT hv;have H:=HT;clear cB;have Hb:=H.full;have H:=Hb;clear hc;refine kH H (Rm rfl ?_);clear H;intro a H;refine aH ⟨rfl,?_⟩;exact kC (by kernel_rfl) (fB bD jq) rfl rfl HT Hb hG hv (fun _ _ h=>h) (rfl) H
   ·intro bD jq jv dz a w G1 jO _ _ _ _ cB hc hG HT hv;have H:=HT;clear cB;have H:=H.aZ (hv 1 8 (hc 1 (by decide)) rfl) rfl;have Hb:=H.full;have H:=Hb;clear hc;refine kH H (Rk rfl ?_);clear H;intro a H;refine aH ⟨rfl,?_⟩;exact kC (by kernel_rfl) (fB bD jq) rfl rfl HT Hb hG hv (fun _ _ h=>h) (rfl) H
   ·intro bD jq jv dz a w G1 jO _ _ _ _ cB hc hG HT hv;have H:=HT;clear cB;have H:=H.aZ (hv 2 9 (hc 2 (by decide)) rfl) rfl;have Hb:=H.full;have H:=Hb;clear hc;refine kH H (Rf Le rfl ?_);clear H;intro a H;refine aH ⟨rfl,?_⟩;exact kC (by kernel_rfl) (fB bD jq) rfl rfl HT Hb hG hv (fun _ _ h=>h) (rfl) H
   ·intro bD jq jv dz a w G1 jO _ _ _ _ cB hc hG HT hv;have H:=HT;clear cB;have H:=H.aZ (hv 3 10 (hc 3 (by decide)) rfl) rfl;have Hb:=H.full;have H:=Hb;clear hc;refine zT M4 H wn rfl (H.hp.aak (jO _ lW) rfl) rfl ?_;clear H;intro a H;refine aH ⟨rfl,?_⟩;exact kC (by kernel_rfl) (fB bD jq) rfl rfl HT Hb hG hv (fun _ _ h=>h) (rfl) H
   ·intro bD jq jv dz a w G1 jO _ _ _ _ cB hc hG HT hv;have H:=HT;clear cB;have Hb:=H.full;have H:=Hb;clear hc;refine kH H (Rm rfl ?_);clear H;intro a H;refine aH ⟨rfl,?_⟩;exact kC (by kernel_rfl) (fB bD jq) rfl rfl HT Hb hG hv (fun _ _ h=>h) (rfl) H
   ·intro bD jq jv dz a w G1 jO _ _ _ _ cB hc hG HT hv;have H:=HT;clear cB;have H:=H.aZ (hv 5 12 (hc 5 (by decide)) rfl) rfl;have Hb:=H.full;have H:=Hb;clear hc;refine kH H (Rk rfl ?_);clear H;intro a H;refine aH ⟨rfl,?_⟩;exact kC (by kernel_rfl) (fB bD jq) rfl rfl HT Hb hG hv (fun _ _ h=>h) (rfl) H
   ·intro bD jq jv dz a w G1 jO _ _ _ _ cB hc hG HT hv;have H:=HT;clear cB;have H:=H.aZ (hv 6 13 (hc 6 (by decide)) rfl) rfl;have Hb:=H.full;have H:=Hb;clear hc;refine kH H (Rf Ld rfl ?_);clear H;intro a H;refine aH ⟨rfl,?_⟩;exact kC (by kernel_rfl) (fB bD jq) rfl rfl HT Hb hG hv (fun _ _ h=>h) (rfl) H
   ·intro _ _ _ _ _ _ _ _ _ hB;exact absurd hB (by decide)
   ·intro bD jq jv dz a w G1 jO _ _ _ _ cB hc hG HT hv;have H:=HT;clear cB;have H:=H.aZ (hv 8 15 (hc 8 (by decide)) rfl) rfl;have Hb:=H.full;have H:=Hb;clear hc;refine nk abj [_,_,_] H wn rfl rfl rfl rfl ?_;clear H;intro a H;refine aH ⟨rfl,?_⟩;exact kC (by kernel_rfl) (fB bD jq) rfl rfl HT Hb hG hv (fun _ _ h=>h) (rfl) H
   ·intro _ _ _ _ _ _ _ _ _ _ hB;exact absurd hB (by decide)
   ·intro _ _ _ _ _ _ _ _ _ _ _ hB;exact absurd hB (by decide)
   ·intro _ _ _ _ _ _ _ _ hB;exact absurd hB (by decide)
   ·intro _ _ _ _ _ _ _ _ hB;exact absurd hB (by decide)
   intro _ _ _ _ _ _ _ _ hB;exact absurd hB (by decide)
  ·clear H;intro o_ bD jq dz a w G1 uQ _ hc hG HT hv;obtain rfl:_=o_:=Option.some.inj uQ;clear uQ;have H:=HT;have H:=H.aZ (hv 7 14 (by decide) (hc 7 (by decide)) rfl) rfl;have Hb:=H.full;have H:=Hb;clear hc;refine gB agj (Li:=[]) (L:=iP b s i p (.slice A lit.length c) (.slice B parts.length d) pl e :: (Lp++Lo)) H wn rfl (anq _ _ _ _ b s i p _ B parts.length d pl e lit (Hp.owns (Li:=[]) H.hp) hbuf hne) rfl ?_;clear H;rintro v15 Ez L15 a w ⟨rfl,rfl⟩ Hl H;dsimp only [List.nil_append] at H;refine aH ⟨rfl,?_⟩;exact Ji (by kernel_rfl) (fB bD jq) rfl HT Hb hG (fun j e h1 h2 h3=>hv j e h1 h2 h3) Hl (rfl) H
  ·clear H;intro o_ jq dz a w G1 uQ _ hc hG HT hv;obtain rfl:_=o_:=Option.some.inj uQ;clear uQ;have H:=HT;have H:=H.aZ (hv 0 9 16 (by decide) (hc 9 (by decide)) rfl) rfl;have Hb:=H.full;have H:=Hb;clear hc;refine jJ Ka J9 [_,_,_] [_,_,_] H wn rfl rfl rfl rfl rfl (by intro i q h;match i,h with|0,h=>exact h|n+1,h=>simp at h) rfl rfl ?_;clear H;intro b17 a w aoJ H;refine aH ⟨rfl,b17,?_⟩;exact NK (by kernel_rfl) rfl HT Hb hG (fun j e h1 h2 h3=>hv _ j e h1 h2 h3) (rfl) H
  ·clear H;intro o_ bD dz a w G1 uQ _ hc hG HT hv;obtain rfl:_=o_:=Option.some.inj uQ;clear uQ;have H:=HT;have H:=H.aZ (hv (((none,0),[])) 4 11 (by decide) (hc 4 (by decide)) rfl) rfl;have H:=H.aZ (hv (((none,0),[])) 10 17 (by decide) (hc 10 (by decide)) rfl) rfl;have Hb:=H.full;have H:=Hb;clear hc;refine tX (Li:=[_,_]) (Lo:=Lp) (news:=jT.cells ⟨⟨lit.toArray⟩,0,false⟩) Ka J9 rfl rfl H wn rfl rfl OP rfl (H.hp.dX 0 rfl rfl) rfl (by omega) (by omega) rfl ?_;clear H;intro v18 acB a w JI H;obtain ⟨A18,c18,rfl,-,-⟩:=JI.shape;rw [← Z7] at JI;refine aH ⟨rfl,((A18,c18),acB),?_⟩;exact NK (by kernel_rfl) rfl HT Hb hG (fun j e h1 h2 h3=>hv _ j e h1 h2 h3) (⟨rfl,JI⟩) H
  clear H;intro b17 jq a w G jY H hv;have H:=H.aZ (hv 0 7 rfl rfl) rfl;obtain ⟨u18,Ub,Mg⟩:=hv 11 18 (by decide) rfl;(try dsimp only at Mg);obtain ⟨rfl,JI⟩:=Mg;have H:=H.nA Ub;clear hv;refine kH H (Rk rfl (Rf Le rfl ?_));clear H;intro a H;refine bN M4 1 (vs:=[_]) _ H wn rfl rfl rfl rfl rfl rfl rfl rfl ?_;clear H;intro w H;dsimp only [List.set,setRow] at H;refine aH ⟨rfl,?_⟩;refine K2 _ _ ?_;clear K2;refine kP H (SC (Rm rfl (Rk rfl (Rf Ld rfl ?_))));clear H;intro a H;refine gB afO (Li:=[_]) (L:=iP b s i p (.slice A lit.length c) (.slice jq.1.1 (parts.length+1) jq.1.2) pl e :: jq.2) H wn rfl (anp _ _ _ b s i p A lit.length c jq.1.1 (parts.length+1) jq.1.2 pl e (Hp.owns (Li:=[_]) H.hp)) rfl ?_;clear H;rintro v24 _ L24 a w ⟨rfl,rfl⟩ apj H;dsimp only [lca,aV] at H;refine aH ?_;refine (leave0 H results197 ?_).2
  first
   | exact H.hp.cK (L':=iP b s i _ _ _ pl e :: jq.2) (Co _ _) ⟨_,_,_,jq.2,[],by rw [Ah],⟨.inl rfl,dO.nil,by rw [wN,ah hne];simpa using JI⟩⟩
   | exact H.hp.eB ⟨_,_,_,Lp,Lo,by rw [qR],by
     have h0:lit=[]:=by
      cases lit with
      | nil=>rfl
      | cons x r=>simp at p6
     subst h0;exact ⟨Zh,hbuf,by rw [wN,av rfl];exact OP⟩⟩
 intro h6 a H
 try have p6:=dF h6
 refine fu ?_;refine (leave0 H results197 ?_).2
 first
  | exact H.hp.cK (L':=iP b s i _ _ _ pl e :: jq.2) (Co _ _) ⟨_,_,_,jq.2,[],by rw [Ah],⟨.inl rfl,dO.nil,by rw [wN,ah hne];simpa using JI⟩⟩
  | exact H.hp.eB ⟨_,_,_,Lp,Lo,by rw [qR],by
    have h0:lit=[]:=by
     cases lit with
     | nil=>rfl
     | cons x r=>simp at p6
    subst h0;exact ⟨Zh,hbuf,by rw [wN,av rfl];exact OP⟩⟩
theorem aaA (G:GH) (Lp Lo:OL) (w0:World) (b:Nat) (s:ByteArray) (i:Int) (p v q:ak) (pl e:Int) (lit:List UInt8) (parts:List jT) (ch:Int) (plain:Bool) (hR:Cm b lit parts p v q Lp Lo) (hO:ig G (iP b s i p v q pl e :: (Lp++Lo)) w0) (hl:lit.length≤4294967296) (hp:parts.length≤4294967290) (hc:49≤ch∧ch≤57) (hpl:0≤pl∧pl≤4294967296) :
  Calls prog 200 #[(aM b 0),.int .u8 ch,.bool plain] w0 (gy w0 G (iP b s i p v q pl e :: (Lp++Lo)) fun u G' L'=>∃ p' v' q' rX kL,L'=iP b s i p' v' q' (pl+1) e :: (rX++kL)∧Cm b [] (wN lit parts++[⟨⟨#[]⟩,ch - 48,plain⟩]) p' v' q' rX kL):=by
 have hml:maxLen=9223372036854775807:=rfl
 have hfl:(wN lit parts).length≤parts.length+1:=by unfold wN;split <;> simp
 obtain ⟨A,c,rfl,ZE,ZF⟩:=hR.buf.shape;obtain ⟨B,d,rfl,Zi,Zj⟩:=hR.prt.shape;obtain ⟨Lt,qR⟩:∃ x,x=Lp++Lo:=⟨_,rfl⟩;rw [← qR] at hO ⊢;refine jB (N:=29) (T:=[(0,_),(1,_),(2,_)]) func200 rfl ntmps200 rfl rfl hO ?_;intro a H;refine kP H (SR fun _ K1=>Rm rfl ?_);clear H;intro a H;refine gB Rh (Li:=[]) (L:=iP b s i p (.slice A lit.length c) (.slice B parts.length d) pl e :: Lt) H wn rfl (by subst qR;exact RP _ Lp Lo _ b s i p _ _ pl e lit parts hR (Hp.owns (Li:=[]) H.hp) hl (by omega)) rfl ?_;clear H;rintro v7 G7 L7 a w ⟨p',v',q',rX,kL,rfl,LH⟩ wU H;dsimp only [List.nil_append] at H;obtain ⟨A7,c7,rfl,-,-⟩:=LH.buf.shape;obtain ⟨B7,d7,rfl,-,-⟩:=LH.prt.shape;refine K1 _ _ ?_;clear K1;refine kP H (SR fun _ K2=>Rm rfl (Rm rfl (Rk rfl (bg Le M4 0 rfl rfl (Rm rfl ?_)))));clear H;intro a H;refine amD H wn rfl rfl (by omega) (by omega) rfl ?_;clear H;intro a H;refine JZ _ qh M7 H wn rfl rfl rfl ?_;clear H;intro a H;rw [JK (by omega) (by omega)] at H;refine kH H (Rm rfl ?_);clear H;intro a H;refine nk abj [_,_,_] H wn rfl rfl rfl rfl ?_;clear H;intro a H;refine jJ Ka J9 [_,_,_] [_,_,_] H wn rfl rfl rfl rfl rfl (by intro i q h;match i,h with|0,h=>exact h|n+1,h=>simp at h) rfl rfl ?_;clear H;intro b18 a w Ot H;have H:=(St.cast H (show _=[_,_]++(rX++kL) from rfl)).perm (List.Perm.append_left _ vv);have H:=St.un H;refine tX (Li:=[_,_]++kL) (Lo:=rX) (news:=jT.cells ⟨⟨#[]⟩,ch - 48,plain⟩) Ka J9 rfl rfl H wn rfl rfl LH.prt rfl (H.hp.dX 0 rfl rfl) rfl (by omega) (by omega) rfl ?_;clear H;intro v19 Wy a w Av H;obtain ⟨A19,c19,rfl,-,-⟩:=Av.shape;rw [← Z7] at Av;have H:=H.assoc.perm (List.Perm.append_left _ vv);dsimp only [lca,aV] at H;refine kH H (Rk rfl (Rf Le rfl ?_));clear H;intro a H;refine bN M4 1 (vs:=[_]) _ H wn rfl rfl rfl rfl rfl rfl rfl rfl ?_;clear H;intro w H;dsimp only [List.set,setRow] at H;refine K2 _ _ ?_;clear K2;refine kP H (SC (Rm rfl (Rk rfl (bg N7 aD 1 rfl rfl (Rd rfl (Rk rfl (Rf N7 rfl ?_)))))));clear H;intro a H;refine bN aD 1 (vs:=[_]) _ H wn rfl rfl rfl rfl rfl rfl rfl rfl ?_;clear H;intro w H;dsimp only [List.set,setRow] at H;refine aH ?_;refine (leave0 H results200 ?_).2;exact H.hp.cK (L':=iP b s i _ _ _ (pl+1) e :: (Wy++kL)) (Co _ _) ⟨_,_,_,Wy,kL,rfl,LH.ptr,LH.buf,by simpa using Av⟩
end
section
open Go.RowKit
section
variable {N:Nat} {D:List Deferred} {w0:World} {F:Nat→Prop} {G0 G:GH} {L:OL} {T Xs:List (Nat × ak)}
variable {r:Option Nat} {P:Program} {Q:Exit→Act→World→Prop} {l:List Oper} {a a':Act} {w w':World}
abbrev VK:Type:=Nat × ak × Nat × Bool
def VL (ent:List VK) (S:Nat→Bool) (a:Act):Prop:=∀ e∈ent,S e.2.2.1=e.2.2.2→a.tmps[e.1]?=some e.2.1
theorem VL.at {ent:List VK} {S:Nat→Bool} {a:Act} (h:VL ent S a) (k:Nat) {t:Nat} {v:ak} {j:Nat} {b:Bool} (hk:ent[k]?=some (t,v,j,b)) (hS:S j=b):a.tmps[t]?=some v:=h _ (oD hk) hS
theorem amC {ops:Array Oper} {rest:List Oper} {d:Nat} {ty:TypeId} {pos:String} {aU:Array Edge} {g:Option (Nat × Bool)} {t:TypeId} {x y:Operand} {s:ByteArray} {ky:IntKind} {p:Int} (hi:Nat) (ht:P.underlying t=some .string) (H:St N D w0 F G0 G L T a w) (hw:Region.wanted ⟨some d,.slice t x none (some y) none,ty,pos,aU,g⟩ (yielded ops a.tmps)=true) (hx:ev T x=some (.string s)) (hy:ev T y=some (.int ky p)) (hp:p=(hi:Int)) (h1:hi≤s.size) (hd:Nat.blt d N=true)
  (k:∀ a',St N D w0 F G0 G L ((d,.string (s.extract 0 hi)) :: T) a' w→WL r P ops Q rest a' w):WL r P ops Q (⟨some d,.slice t x none (some y) none,ty,pos,aU,g⟩ :: rest) a w:=by
 subst hp
 have hr:=run_slice_string_h (P:=P) w t s ht ky (hi:Int) (by omega) (by omega)
 rw [Int.toNat_natCast] at hr
 refine gZ (v:=.string (s.extract 0 hi)) (w':=w) hw rfl ?_ (k _ (H.put hd _ H.hp))
 simp only [execOp,H.ev hx,Option.map_some,Option.map_none,H.ev hy,eT,run_sliceAt_string w t _ _ _ _ ht,hr,nC,uq]
end
end
section
open Go.RowKit
theorem afP:∀ args w,(callFunc 203 args).run prog w=.ok (.enter 203 args) w:=enters func203 rfl (by kernel_rfl)
theorem zi:dV prog 277 0 0:=⟨by kernel_rfl⟩
theorem XA:∀ args w,(callFunc 196 args).run prog w=.ok (.enter 196 args) w:=enters func196 rfl (by kernel_rfl)
theorem XB:∀ args w,(callFunc 199 args).run prog w=.ok (.enter 199 args) w:=enters func199 rfl (by kernel_rfl)
theorem XC:∀ args w,(callFunc 200 args).run prog w=.ok (.enter 200 args) w:=enters func200 rfl (by kernel_rfl)
theorem rE:dV prog 277 1 1:=⟨by kernel_rfl⟩
theorem Rj:∀ args w,(callFunc 198 args).run prog w=.ok (.enter 198 args) w:=enters func198 rfl (by kernel_rfl)
theorem Cz:dV prog 277 5 6:=⟨by kernel_rfl⟩
def tN (s p:ByteArray):Bool:=decide (p.size≤s.size) && ((s.extract 0 p.size).toList == p.toList)
theorem air (G:GH) (w0:World) (hG:Hold G w0) (s p:ByteArray) (hs:s.size≤4611686018427387904) (hp:p.size≤4611686018427387904):Calls prog 203 #[.string s,.string p] w0 (bJ w0 G fun u G'=>u=.bool (tN s p)∧G=G'):=by
 refine eN [(0,_),(1,_)] func203 rfl ntmps203 rfl rfl hG ?_;intro a H;refine kP H (SR fun _ K1=>aj K1 rfl (SR fun _ K2=>Rm rfl (Rv iD rfl (Rm rfl (Rv iD rfl (Rc rfl (Rm rfl (Sp 10 rfl ?_ ?_)))))))) <;> clear H K1
 ·intro h10 a H
  try have jw:=dT h10
  refine kH H (YM h10 rfl (YM h10 rfl ?_));clear H;intro a H;refine BU iD H (wg H rfl rfl h10) rfl rfl ?_;clear H;intro a H;refine amC p.size iD H (wg H rfl rfl h10) rfl rfl rfl (by omega) rfl ?_;clear H;intro a H;refine kH H (YM h10 rfl ?_);clear H;intro a H;refine Eo H (wg H rfl rfl h10) rfl rfl rfl ?_;clear H;intro a H;exact kH H (Pt h10 rfl (aj K2 rfl (LR results203 rfl fun H=>H.rt ⟨aL (by unfold tN;first|(simp_all;done)|(simp_all;omega)),rfl⟩)))
 intro h10 a H
 try have jw:=dF h10
 exact kH H (aQ h10 rfl (aQ h10 rfl (Pf h10 rfl (aj K2 rfl (LR results203 rfl fun H=>H.rt ⟨aL (by unfold tN;first|(simp_all;done)|(simp_all;omega)),rfl⟩)))))
theorem SS (G:GH) (w0:World) (hG:Hold G w0) (s p:ByteArray) (hs:s.size≤4611686018427387904) (hp:p.size≤4611686018427387904):Calls prog 198 #[.string s,.string p] w0 (bJ w0 G fun u G'=>u=.bool (tN s p)∧G=G'):=by
 refine eN [(0,_),(1,_)] func198 rfl ntmps198 rfl rfl hG ?_;intro a H;refine kP H (SR fun _ K1=>aj K1 rfl (SR fun _ K2=>Rm rfl (Rm rfl ?_)));clear H K1;intro a H;refine s_call afP H wn rfl (air _ _ H.ro s p hs hp) rfl ?_;clear H;rintro v7 _ a w ⟨rfl,rfl⟩ - H;exact kH H (aj K2 rfl (LR results198 rfl fun H=>H.rt ⟨rfl,rfl⟩))
def wG (s:ByteArray) (k:Nat):Bool:=decide (k < s.size) && decide (49≤ji s k) && decide (ji s k≤57)
theorem Xm (G:GH) (L:OL) (w0:World) (b:Nat) (s:ByteArray) (i:Int) (p v q:ak) (pl e:Int) (k:Nat) (hs:s.size≤4611686018427387904) (hO:ig G (iP b s i p v q pl e :: L) w0) :
  Calls prog 199 #[(aM b 0),vi k] w0 (gy w0 G (iP b s i p v q pl e :: L) fun u G' L'=>u=.bool (wG s k)∧L'=iP b s i p v q pl e :: L∧G'=G):=by
 refine jB (N:=30) (T:=[(0,_),(1,_)]) func199 rfl ntmps199 rfl rfl hO ?_;intro a H;refine kP H (SR fun _ K1=>aj K1 rfl (SR fun _ K2=>Rm rfl (Rm rfl (Rk rfl (bg zi gD 0 rfl rfl (Rv iD rfl (Rc rfl (Rm rfl (Sp 12 rfl ?_ ?_))))))))) <;> clear H K1
 ·intro h12 a H
  try have pF:=dT h12
  refine kH H (YM h12 rfl ?_);clear H;intro a H;refine uU H (wg H rfl rfl h12) rfl rfl ?_;clear H;intro a H;refine kH H (YF zi h12 rfl (YO gD 0 h12 rfl (YM h12 rfl ?_)));clear H;intro a H;refine qC k iD H (wg H rfl rfl h12) rfl rfl rfl (by omega) rfl ?_;clear H;intro a H;rw [← oh] at H;refine kH H (YC h12 rfl (Pt h12 rfl (Rm rfl (Sp 21 rfl ?_ ?_)))) <;> clear H
  ·intro h21 a H
   try have oM:=dT h21
   refine kH H (YM h21 rfl ?_);clear H;intro a H;refine uU H (wg H rfl rfl h21) rfl rfl ?_;clear H;intro a H;refine kH H (YF zi h21 rfl (YO gD 0 h21 rfl (YM h21 rfl ?_)));clear H;intro a H;refine qC k iD H (wg H rfl rfl h21) rfl rfl rfl (by omega) rfl ?_;clear H;intro a H;rw [← oh] at H;exact kH H (YC h21 rfl (Pt h21 rfl (aj K2 rfl (LR results199 rfl fun H=>H.hp.eB ⟨aL (by unfold wG;first|(simp_all;done)|(simp_all;omega)),rfl,rfl⟩))))
  intro h21 a H
  try have oM:=dF h21
  exact kH H (aQ h21 rfl (aN h21 rfl (aN h21 rfl (Pf h21 rfl (aj K2 rfl (LR results199 rfl fun H=>H.hp.eB ⟨aL (by unfold wG;first|(simp_all;done)|(simp_all;omega)),rfl,rfl⟩))))))
 intro h12 a H
 try have pF:=dF h12
 exact kH H (aQ h12 rfl (aN h12 rfl (aN h12 rfl (Pf h12 rfl (Rm rfl (aQ rfl rfl (aN rfl rfl (aN rfl rfl (Pf rfl rfl (aj K2 rfl (LR results199 rfl fun H=>H.hp.eB ⟨aL (by unfold wG;first|(simp_all;done)|(simp_all;omega)),rfl,rfl⟩)))))))))))
structure wz where
 i:Nat
 lit:List UInt8
 parts:List jT
 pl:Nat
 e:Int
def qB (s:ByteArray) (x:wz):wz :=
 if tN (s.extract x.i s.size) ⟨#[37,37]⟩=true then ⟨x.i+2,x.lit++[37],x.parts,x.pl,x.e⟩
 else if wG s (x.i+1)=true then ⟨x.i+2,[],wN x.lit x.parts++[⟨⟨#[]⟩,ji s (x.i+1) - 48,false⟩],x.pl+1,x.e⟩
 else if tN (s.extract x.i s.size) ⟨#[37,100]⟩=true∧wG s (x.i+2)=true then ⟨x.i+3,[],wN x.lit x.parts++[⟨⟨#[]⟩,ji s (x.i+2) - 48,true⟩],x.pl+1,x.e⟩
 else ⟨x.i,x.lit,x.parts,x.pl,14⟩
abbrev yH (b:Nat) (s:ByteArray) (x:wz) (p v q:ak):Nat × Obj:=iP b s x.i p v q x.pl x.e
theorem Xl {s:ByteArray} {k:Nat} (h:wG s k=true):k < s.size∧49≤ji s k∧ji s k≤57:=by
 simpa [wG,and_assoc] using h
set_option maxHeartbeats 1000000 in
theorem alE (G:GH) (Lp Lo:OL) (w0:World) (b:Nat) (s:ByteArray) (x:wz) (p v q:ak) (hR:Cm b x.lit x.parts p v q Lp Lo) (hO:ig G (yH b s x p v q :: (Lp++Lo)) w0) (hs:s.size≤4294967290) (hi:x.i < s.size) (hl:x.lit.length≤4294967290) (hp:x.parts.length≤4294967290) (hpl:x.pl≤4294967290) :
    Calls prog 195 #[(aM b 0)] w0 (gy w0 G (yH b s x p v q :: (Lp++Lo)) fun u G' L'=>∃ p' v' q' rX kL,L'=yH b s (qB s x) p' v' q' :: (rX++kL)∧Cm b (qB s x).lit (qB s x).parts p' v' q' rX kL):=by
  obtain ⟨i,lit,parts,pl,e⟩:=x;dsimp only [yH] at *
  have hex:(s.extract i s.size).size≤4611686018427387904:=by rw [ByteArray.size_extract];omega
  obtain ⟨A,c,rfl,ZE,ZF⟩:=hR.buf.shape;obtain ⟨B,d,rfl,Zi,Zj⟩:=hR.prt.shape;obtain ⟨Lt,qR⟩:∃ x,x=Lp++Lo:=⟨_,rfl⟩;rw [← qR] at hO ⊢;refine jB (N:=93) (T:=[(0,_)]) func195 rfl ntmps195 rfl rfl hO ?_;intro a H;refine vC ?_;refine aS (fun _ K1=>?_);refine dI hmx [[],[0],[0,1],[0,1,2],[],[4],[4,5],[4,5,6],(ra 0 8),(ra 0 9),(ra 0 10)] [] (by kernel_rfl) [_,_,_,.string s,_,_,_,vi i,.string (s.extract i s.size),.bool (tN (s.extract i s.size) ⟨#[37,37]⟩),_] H (aG (Z0 rfl (Rm rfl)) (Z1 0 6 rfl (Rk rfl)) (Z1 1 7 rfl (Rf zi rfl)) (Z1 2 8 rfl (Ro gD 0 rfl)) (aG (Z0 rfl (Rm rfl)) (Z1 4 10 rfl (Rk rfl)) (Z1 5 11 rfl (Rf rE rfl)) (Z1 6 12 rfl (Ro aD 0 rfl)) (bq ?_ (bq ?_ (bq (Z1 9 15 rfl (Ra rfl)) dD))))) ?_
  · refine eu 3 9 7 13 rfl rfl fun _ a w G1 hG HT H fin=>?_;refine Vd i iD H wn rfl rfl rfl (by omega) rfl ?_;clear H;intro a H;exact fin H iJ rfl
  · refine dN 8 14 rfl rfl fun _ a w G1 hG HT H fin=>?_;refine s_call Rj H wn rfl (SS _ _ H.ro _ _ hex (by decide)) rfl ?_;clear H;rintro v15 Ez a w ⟨rfl,rfl⟩ Hl H;exact fin H Hl (rfl)
  clear H;intro a w G jY H hv;have H:=H.aZ (hv 10 5 rfl rfl) rfl;clear hv;refine aH ⟨rfl,?_⟩;refine K1 _ _ ?_;clear K1;refine jX H rfl ?_ ?_
  · intro h5
    try have p5:=dT h5
    refine kP H (SR fun _ K2=>Rm rfl (Rk rfl (Rf Ld rfl ?_)));clear H;intro a H;refine gB XA (Li:=[]) (L:=iP b s i p (.slice A lit.length c) (.slice B parts.length d) pl e :: Lt) H wn rfl (by subst qR;exact abY _ Lp Lo _ b s i p _ B parts.length d pl e lit.length _ 37 hR.ptr (Hp.owns (Li:=[]) H.hp) hR.buf (by omega)) rfl ?_;clear H;rintro v19 _ L19 a w ⟨apS,Gm,rfl,Av,rfl⟩ HZ H;dsimp only [List.nil_append] at H;obtain ⟨A19,c19,rfl,-,-⟩:=Av.shape;refine K2 _ _ ?_;clear K2;refine kP H (SC (Rm rfl (Rk rfl (bg rE aD 0 rfl rfl (Rd rfl (Rk rfl (Rf rE rfl ?_)))))));clear H;intro a H;refine bN aD 0 (vs:=[_]) _ H wn rfl rfl rfl rfl rfl rfl rfl rfl ?_;clear H;intro w H;dsimp only [List.set,setRow] at H;refine aH ?_;refine (leave0 H results195 ?_).2;exact H.hp.eB ⟨_,_,_,Lp,Gm,by rw [qB,av h5];rfl,by rw [qB,av h5];exact ⟨.inr rfl,by simpa [Lib.byteCells] using Av,hR.prt⟩⟩
  intro h5
  try have p5:=dF h5
  refine kP H (SR fun _ K3=>Rm rfl (Rm rfl (Rk rfl (bg rE aD 0 rfl rfl (Rd rfl ?_)))));clear H;intro a H;rw [show ((i:Int)+1)=((i+1:Nat):Int) from rfl] at H;refine gB XB (Li:=[]) (L:=iP b s i p (.slice A lit.length c) (.slice B parts.length d) pl e :: Lt) H wn rfl (Xm _ Lt _ b s i p _ _ pl e (i+1) (by omega) (Hp.owns (Li:=[]) H.hp)) rfl ?_;clear H;rintro v34 _ L34 a w ⟨rfl,rfl,rfl⟩ Oz H;dsimp only [List.nil_append] at H;refine kH H (aj K3 rfl (Cd rfl ?_ ?_)) <;> clear H K3
  · intro h27 a H
    try have p27:=dT h27
    have hd1:=Xl h27;refine aS (fun _ K4=>?_);refine dI hmx [[],[],[1],[1,2],[1,2,3],[],[5],[5,6],[5,6,7],(ra 5 4),(ra 1 9),(ra 0 11)] [11] (by kernel_rfl) [_,_,_,_,.string s,_,_,_,vi i,_,.int .u8 (ji s (i+1))] H (aG (Z0 rfl (Rm rfl)) (Z0 rfl (Rm rfl)) (Z1 1 36 rfl (Rk rfl)) (Z1 2 37 rfl (Rf zi rfl)) (aG (Z1 3 38 rfl (Ro gD 0 rfl)) (Z0 rfl (Rm rfl)) (Z1 5 40 rfl (Rk rfl)) (Z1 6 41 rfl (Rf rE rfl)) (aG (Z1 7 42 rfl (Ro aD 0 rfl)) (Z1 8 43 rfl (Rd rfl)) ?_ (bY rfl) dD))) ?_
    · refine eu 4 39 9 44 rfl rfl fun _ a w G1 hG HT H fin=>?_;refine qC (i+1) iD H wn rfl rfl rfl hd1.1 rfl ?_;clear H;intro a H;rw [← oh] at H;exact fin H iJ rfl
    clear H;intro a w G zy H hv;have H:=H.aZ (hv 0 35 rfl rfl) rfl;have H:=H.aZ (hv 10 45 rfl rfl) rfl;clear hv;refine gB XC (Li:=[]) (L:=iP b s i p (.slice A lit.length c) (.slice B parts.length d) pl e :: Lt) H wn rfl (by subst qR;exact aaA _ Lp Lo _ b s i p _ _ pl e lit parts (ji s (i+1)) false hR (Hp.owns (Li:=[]) H.hp) (by omega) (by omega) hd1.2 (by omega)) rfl ?_;clear H;rintro v46 Qr L46 a w ⟨p46,anV,q46,Kt,Kr,rfl,D6⟩ Ed H;dsimp only [List.nil_append] at H;obtain ⟨A46,c46,rfl,-,-⟩:=D6.buf.shape;obtain ⟨B46,d46,rfl,-,-⟩:=D6.prt.shape;refine aH ⟨rfl,?_⟩;refine K4 _ _ ?_;clear K4;refine kP H (SC (Rm rfl (Rk rfl (bg rE aD 0 rfl rfl (Rd rfl (Rk rfl (Rf rE rfl ?_)))))));clear H;intro a H;refine bN aD 0 (vs:=[_]) _ H wn rfl rfl rfl rfl rfl rfl rfl rfl ?_;clear H;intro w H;dsimp only [List.set,setRow] at H;refine aH ?_;refine (leave0 H results195 ?_).2;exact H.hp.eB ⟨_,_,_,Kt,Kr,by rw [qB,ah (by simp [h5]),av h27];rfl,by rw [qB,ah (by simp [h5]),av h27];exact D6⟩
  intro h27 a H
  try have p27:=dF h27
  refine aS (fun _ K5=>?_)
  by_cases c1:tN (s.extract i s.size) ⟨#[37,100]⟩=true
  · skip;refine dI hmx [[],[0],[0,1],[0,1,2],[],[4],[4,5],[4,5,6],(ra 0 8),(ra 0 9),(ra 0 10),(ra 0 11),(ra 0 11),(ra 0 11++[12]),(ra 0 11++[12,13]),(ra 0 11++[12,13,14]),(ra 0 11++ra 12 4),(ra 0 17),(ra 0 18),(ra 0 19)] [] (by kernel_rfl) [_,_,_,.string s,_,_,_,vi i,.string (s.extract i s.size),.bool (tN (s.extract i s.size) ⟨#[37,100]⟩),.bool (decide (tN (s.extract i s.size) ⟨#[37,100]⟩=true)),_,_,(aM b 0),_,vi i,vi ((i+2:Nat):Int),.bool (wG s (i+2)),_,_] H (aG (Z0 rfl (Rm rfl)) (Z1 0 55 rfl (Rk rfl)) (Z1 1 56 rfl (Rf zi rfl)) (Z1 2 57 rfl (Ro gD 0 rfl)) (aG (Z0 rfl (Rm rfl)) (Z1 4 59 rfl (Rk rfl)) (Z1 5 60 rfl (Rf rE rfl)) (Z1 6 61 rfl (Ro aD 0 rfl)) (aG ?_ ?_ ?_ (Z1 10 65 rfl (YM (aI c1) rfl)) (aG (Z1 10 65 rfl (YM (aI c1) rfl)) ?_ (Z2 13 68 10 65 rfl (YF rE (aI c1) rfl)) (Z2 14 69 10 65 rfl (YO aD 0 (aI c1) rfl)) (aG ?_ ?_ (Z2 10 65 17 72 rfl (Pt (aI c1) rfl)) (Z1 18 73 rfl (Ra rfl)) dD))))) ?_
    · refine eu 3 58 7 62 rfl rfl fun _ a w G1 hG HT H fin=>?_;refine Vd i iD H wn rfl rfl rfl (by omega) rfl ?_;clear H;intro a H;exact fin H iJ rfl
    · refine dN 8 63 rfl rfl fun _ a w G1 hG HT H fin=>?_;refine s_call Rj H wn rfl (SS _ _ H.ro _ _ hex (by decide)) rfl ?_;clear H;rintro v64 G64 a w ⟨rfl,rfl⟩ Sw H;exact fin H Sw (rfl)
    · refine dN 9 64 rfl rfl fun _ a w G1 hG HT H fin=>?_;refine kH H (Rm rfl ?_);clear H;intro a H;exact fin H iJ (by show _=_;simp)
    · refine eu 12 67 10 65 rfl rfl fun _ a w G1 hG HT H fin=>?_;refine uU H (wg H rfl rfl (aI c1)) rfl rfl ?_;clear H;intro a H;exact fin H iJ rfl
    · refine eu 15 70 10 65 rfl rfl fun _ a w G1 hG HT H fin=>?_;refine PW _ H (wg H rfl rfl (aI c1)) rfl rfl rfl (by omega) (by omega) rfl ?_;clear H;intro a H;exact fin H iJ rfl
    · refine rC 11 66 16 71 10 65 rfl rfl fun _ a w G1 hG HT H fin=>?_;refine gB XB (Li:=[]) (L:=iP b s i p (.slice A lit.length c) (.slice B parts.length d) pl e :: Lt) H (wg H rfl rfl (aI c1)) rfl (Xm _ Lt _ b s i p _ _ pl e (i+2) (by omega) (Hp.owns (Li:=[]) H.hp)) rfl ?_;clear H;rintro v72 G72 L72 a w ⟨rfl,rfl,rfl⟩ aie H;dsimp only [List.nil_append] at H;exact fin H aie (rfl)
    clear H;intro a w G LC H hv;have H:=H.aZ (hv 19 54 rfl rfl) rfl;clear hv;refine aH ⟨rfl,?_⟩;refine K5 _ _ ?_;clear K5;refine jX H rfl ?_ ?_
    · intro gK
      try have p54:=dT gK
      have hd2:=Xl gK;refine aS (fun _ K6=>?_);refine dI hmx [[],[],[1],[1,2],[1,2,3],[],[5],[5,6],[5,6,7],(ra 5 4),(ra 1 9),(ra 0 11)] [11] (by kernel_rfl) [_,_,_,_,.string s,_,_,_,vi i,_,.int .u8 (ji s (i+2))] H (aG (Z0 rfl (Rm rfl)) (Z0 rfl (Rm rfl)) (Z1 1 75 rfl (Rk rfl)) (Z1 2 76 rfl (Rf zi rfl)) (aG (Z1 3 77 rfl (Ro gD 0 rfl)) (Z0 rfl (Rm rfl)) (Z1 5 79 rfl (Rk rfl)) (Z1 6 80 rfl (Rf rE rfl)) (aG (Z1 7 81 rfl (Ro aD 0 rfl)) (Z1 8 82 rfl (Rd rfl)) ?_ (bY rfl) dD))) ?_
      · refine eu 4 78 9 83 rfl rfl fun _ a w G1 hG HT H fin=>?_;refine qC (i+2) iD H wn rfl rfl rfl hd2.1 rfl ?_;clear H;intro a H;rw [← oh] at H;exact fin H iJ rfl
      clear H;intro a w G rG H hv;have H:=H.aZ (hv 0 74 rfl rfl) rfl;have H:=H.aZ (hv 10 84 rfl rfl) rfl;clear hv;refine gB XC (Li:=[]) (L:=iP b s i p (.slice A lit.length c) (.slice B parts.length d) pl e :: Lt) H wn rfl (by subst qR;exact aaA _ Lp Lo _ b s i p _ _ pl e lit parts (ji s (i+2)) true hR (Hp.owns (Li:=[]) H.hp) (by omega) (by omega) hd2.2 (by omega)) rfl ?_;clear H;rintro v85 G85 L85 a w ⟨p46,anV,q46,Kt,Kr,rfl,D6⟩ apm H;dsimp only [List.nil_append] at H;obtain ⟨A46,c46,rfl,-,-⟩:=D6.buf.shape;obtain ⟨B46,d46,rfl,-,-⟩:=D6.prt.shape;refine aH ⟨rfl,?_⟩;refine K6 _ _ ?_;clear K6;refine kP H (SC (Rm rfl (Rk rfl (bg rE aD 0 rfl rfl (Rd rfl (Rk rfl (Rf rE rfl ?_)))))));clear H;intro a H;refine bN aD 0 (vs:=[_]) _ H wn rfl rfl rfl rfl rfl rfl rfl rfl ?_;clear H;intro w H;dsimp only [List.set,setRow] at H;refine aH ?_;refine (leave0 H results195 ?_).2
      have yj:¬ tN (s.extract i s.size) ⟨#[37,37]⟩=true:=by simp [h5]
      have yh:¬ wG s (i+1)=true:=by simp [h27]
      first
        | exact H.hp.eB ⟨_,_,_,Kt,Kr,by rw [qB,ah yj,ah yh,av ⟨c1,gK⟩];rfl,by rw [qB,ah yj,ah yh,av ⟨c1,gK⟩];exact D6⟩
        | (have Fp:¬ (tN (s.extract i s.size) ⟨#[37,100]⟩=true∧wG s (i+2)=true):=by simp_all
           exact H.hp.eB ⟨_,_,_,Lp,Lo,by rw [qB,ah yj,ah yh,ah Fp,qR],by rw [qB,ah yj,ah yh,ah Fp];exact hR⟩)
    intro gK
    try have p54:=dF gK
    refine kP H (SC (Rm rfl (Rk rfl (Rf Cz rfl ?_))));clear H;intro a H;refine bN iW 0 (vs:=[_]) _ H wn rfl rfl rfl rfl rfl rfl rfl rfl ?_;clear H;intro w H;dsimp only [List.set,setRow] at H;refine aH ?_;refine (leave0 H results195 ?_).2
    have yj:¬ tN (s.extract i s.size) ⟨#[37,37]⟩=true:=by simp [h5]
    have yh:¬ wG s (i+1)=true:=by simp [h27]
    first
      | exact H.hp.eB ⟨_,_,_,Kt,Kr,by rw [qB,ah yj,ah yh,av ⟨c1,gK⟩];rfl,by rw [qB,ah yj,ah yh,av ⟨c1,gK⟩];exact D6⟩
      | (have Fp:¬ (tN (s.extract i s.size) ⟨#[37,100]⟩=true∧wG s (i+2)=true):=by simp_all
         exact H.hp.eB ⟨_,_,_,Lp,Lo,by rw [qB,ah yj,ah yh,ah Fp,qR],by rw [qB,ah yj,ah yh,ah Fp];exact hR⟩)
  skip;refine dI hmx [[],[0],[0,1],[0,1,2],[],[4],[4,5],[4,5,6],(ra 0 8),(ra 0 9),(ra 0 10),(ra 0 11),(ra 0 11),(ra 0 11++[12]),(ra 0 11++[12,13]),(ra 0 11++[12,13,14]),(ra 0 11++ra 12 4),(ra 0 17),(ra 0 18),(ra 0 19)] [] (by kernel_rfl) [_,_,_,.string s,_,_,_,vi i,.string (s.extract i s.size),.bool (tN (s.extract i s.size) ⟨#[37,100]⟩),.bool (decide (tN (s.extract i s.size) ⟨#[37,100]⟩=true)),undef,undef,undef,undef,undef,undef,undef,_,_] H (aG (Z0 rfl (Rm rfl)) (Z1 0 55 rfl (Rk rfl)) (Z1 1 56 rfl (Rf zi rfl)) (Z1 2 57 rfl (Ro gD 0 rfl)) (aG (Z0 rfl (Rm rfl)) (Z1 4 59 rfl (Rk rfl)) (Z1 5 60 rfl (Rf rE rfl)) (Z1 6 61 rfl (Ro aD 0 rfl)) (aG ?_ ?_ ?_ (aX (j:=10) (by kernel_rfl) (fun _ _ _ _ _ h=>h) rfl rfl rfl rfl rfl (fun _ _ h=>aY h (aL (aR c1))) rfl (fun _=>rfl)) (aG (aX (j:=10) (by kernel_rfl) (fun _ _ _ _ _ h=>h) rfl rfl rfl rfl rfl (fun _ _ h=>aY h (aL (aR c1))) rfl (fun _=>rfl)) (aX (j:=10) (by kernel_rfl) (fun _ _ _ _ _ h=>h) rfl rfl rfl rfl rfl (fun _ _ h=>aY h (aL (aR c1))) rfl (fun _=>rfl)) (aX (j:=10) (by kernel_rfl) (fun _ _ _ _ _ h=>h) rfl rfl rfl rfl rfl (fun _ _ h=>aY h (aL (aR c1))) rfl (fun _=>rfl)) (aX (j:=10) (by kernel_rfl) (fun _ _ _ _ _ h=>h) rfl rfl rfl rfl rfl (fun _ _ h=>aY h (aL (aR c1))) rfl (fun _=>rfl)) (aG (aX (j:=10) (by kernel_rfl) (fun _ _ _ _ _ h=>h) rfl rfl rfl rfl rfl (fun _ _ h=>aY h (aL (aR c1))) rfl (fun _=>rfl)) (aX (j:=10) (by kernel_rfl) (fun _ _ _ _ _ h=>h) rfl rfl rfl rfl rfl (fun _ _ h=>aY h (aL (aR c1))) rfl (fun _=>rfl)) (Z2 10 65 17 72 rfl (Pf (aR c1) rfl)) (Z1 18 73 rfl (Ra rfl)) dD))))) ?_
  · refine eu 3 58 7 62 rfl rfl fun _ a w G1 hG HT H fin=>?_;refine Vd i iD H wn rfl rfl rfl (by omega) rfl ?_;clear H;intro a H;exact fin H iJ rfl
  · refine dN 8 63 rfl rfl fun _ a w G1 hG HT H fin=>?_;refine s_call Rj H wn rfl (SS _ _ H.ro _ _ hex (by decide)) rfl ?_;clear H;rintro v64 G64 a w ⟨rfl,rfl⟩ Sw H;exact fin H Sw (rfl)
  · refine dN 9 64 rfl rfl fun _ a w G1 hG HT H fin=>?_;refine kH H (Rm rfl ?_);clear H;intro a H;exact fin H iJ (by show _=_;simp)
  clear H;intro a w G LC H hv;have H:=H.aZ (hv 19 54 rfl rfl) rfl;clear hv;refine aH ⟨rfl,?_⟩;refine K5 _ _ ?_;clear K5;refine om H rfl rfl ?_;refine kP H (SC (Rm rfl (Rk rfl (Rf Cz rfl ?_))));clear H;intro a H;refine bN iW 0 (vs:=[_]) _ H wn rfl rfl rfl rfl rfl rfl rfl rfl ?_;clear H;intro w H;dsimp only [List.set,setRow] at H;refine aH ?_;refine (leave0 H results195 ?_).2
  have yj:¬ tN (s.extract i s.size) ⟨#[37,37]⟩=true:=by simp [h5]
  have yh:¬ wG s (i+1)=true:=by simp [h27]
  first
    | exact H.hp.eB ⟨_,_,_,Kt,Kr,by rw [qB,ah yj,ah yh,av ⟨c1,gK⟩];rfl,by rw [qB,ah yj,ah yh,av ⟨c1,gK⟩];exact D6⟩
    | (have Fp:¬ (tN (s.extract i s.size) ⟨#[37,100]⟩=true∧wG s (i+2)=true):=by simp_all
       exact H.hp.eB ⟨_,_,_,Lp,Lo,by rw [qB,ah yj,ah yh,ah Fp,qR],by rw [qB,ah yj,ah yh,ah Fp];exact hR⟩)
end
section
open Go.RowKit
theorem afL:∀ args w,(callFunc 195 args).run prog w=.ok (.enter 195 args) w:=enters func195 rfl (by kernel_rfl)
def Nu (s:ByteArray) (i:Nat):UInt8:=if h:i < s.size then s[i] else 0
theorem acJ (s:ByteArray) (i:Nat):ji s i=((Nu s i).toNat:Int):=by
 unfold ji Nu;split <;> rfl
def qd (s:ByteArray) (x:wz):wz:=if ji s x.i=37 then qB s x else ⟨x.i+1,x.lit++[Nu s x.i],x.parts,x.pl,x.e⟩
def Er (s:ByteArray):Nat→wz→wz
 | 0,x=>x
 | f+1,x=>if x.i < s.size∧x.e=0 then Er s f (qd s x) else x
def mS (s:ByteArray) (x:wz):Nat:=if x.e=0 then s.size - x.i else 0
theorem aaZ {s:ByteArray} {f:Nat} {x:wz} (h:¬ (x.i < s.size∧x.e=0)):Er s f x=x:=by
 cases f with
 | zero=>rfl
 | succ f=>rw [Er,ah h]
theorem ahC (lit:List UInt8) (parts:List jT):(wN lit parts).length≤parts.length+1:=by unfold wN;split <;> simp
theorem abo (s:ByteArray) (x:wz) (h:x.i < s.size∧x.e=0) (h1:x.lit.length≤x.i) (h2:x.parts.length≤2*x.i) (h3:x.pl≤x.i) :
  (qd s x).i≤x.i+3∧(qd s x).lit.length≤(qd s x).i∧(qd s x).parts.length≤2*(qd s x).i∧(qd s x).pl≤(qd s x).i∧mS s (qd s x) < mS s x∧mS s x≤s.size:=by
 have hf:=ahC x.lit x.parts;have hm:mS s x=s.size - x.i:=av h.2
 unfold qd qB
 split
 ·split
  ·refine ⟨?_,?_,?_,?_,?_,?_⟩ <;> simp only [mS,wE,qH,List.length_nil] at*<;> simp only [h.2,if_true] at*<;> omega
  split
  ·refine ⟨?_,?_,?_,?_,?_,?_⟩ <;> simp only [mS,wE,qH,List.length_nil] at*<;> simp only [h.2,if_true] at*<;> omega
  split
  ·refine ⟨?_,?_,?_,?_,?_,?_⟩ <;> simp only [mS,wE,qH,List.length_nil] at*<;> simp only [h.2,if_true] at*<;> omega
  refine ⟨?_,?_,?_,?_,?_,?_⟩ <;> simp only [mS,wE,qH,List.length_nil] at*<;> simp only [h.2,if_true] at*<;> (try omega) <;> (simp;omega)
 refine ⟨?_,?_,?_,?_,?_,?_⟩ <;> simp only [mS,wE,qH,List.length_nil] at*<;> simp only [h.2,if_true] at*<;> omega
def Di:wz:=⟨0,[],[],0,0⟩
def mg (s:ByteArray):wz:=Er s s.size Di
def vV (x:wz):Int:=if x.e=0∧9 < (x.pl:Int) then 9 else x.e
set_option maxHeartbeats 1000000 in
theorem amG (G:GH) (Nl Nk:OL) (w0:World) (b:Nat) (s:ByteArray) (p0 v0 q0:ak) (hR:Cm b [] [] p0 v0 q0 Nl Nk) (hO:ig G (yH b s Di p0 v0 q0 :: (Nl++Nk)) w0) (hs:s.size≤1073741824) :
  Calls prog 191 #[(aM b 0)] w0 (gy w0 G (yH b s Di p0 v0 q0 :: (Nl++Nk)) fun u G' L'=>∃ p' v' q' rX kL,L'=iP b s (mg s).i p' v' q' (mg s).pl (vV (mg s)) :: (rX++kL)∧Cm b [] (wN (mg s).lit (mg s).parts) p' v' q' rX kL):=by
 obtain ⟨A0,c0,rfl,-,-⟩:=hR.buf.shape;obtain ⟨B0,d0,rfl,-,-⟩:=hR.prt.shape;refine jB (N:=68) (T:=[(0,_)]) func191 rfl ntmps191 rfl rfl hO ?_;intro a H;refine aS (fun _ K1=>?_);refine vC ?_;skip;refine eH (ι:=Nat × wz × ak × Option Addr × Nat × Option Addr × Nat × OL × OL × GH) (Tc:=[(0,_)]) (Lc:=[]) (fun gh=>[]) (fun gh=>[yH b s gh.2.1 gh.2.2.1 (.slice gh.2.2.2.1 gh.2.1.lit.length gh.2.2.2.2.1) (.slice gh.2.2.2.2.2.1 gh.2.1.parts.length gh.2.2.2.2.2.2.1)]++(gh.2.2.2.2.2.2.2.1++gh.2.2.2.2.2.2.2.2.1)) (fun gh=>gh.2.2.2.2.2.2.2.2.2) (fun gh=>Cm b gh.2.1.lit gh.2.1.parts gh.2.2.1 (.slice gh.2.2.2.1 gh.2.1.lit.length gh.2.2.2.2.1) (.slice gh.2.2.2.2.2.1 gh.2.1.parts.length gh.2.2.2.2.2.2.1) gh.2.2.2.2.2.2.2.1 gh.2.2.2.2.2.2.2.2.1∧Er s gh.1 gh.2.1=mg s∧mS s gh.2.1≤gh.1∧gh.1≤s.size∧gh.2.1.i≤s.size+3∧gh.2.1.lit.length≤gh.2.1.i∧gh.2.1.parts.length≤2*gh.2.1.i∧gh.2.1.pl≤gh.2.1.i) (fun gh=>gh.1) ((s.size,Di,p0,A0,c0,B0,d0,Nl,Nk,G)) (by exact (H).sub ⟨rfl,aC⟩) ?_ ?_
 ·exact ⟨hR,rfl,by simp [mS,Di],dJ _,by simp [Di],by simp [Di],by simp [Di],by simp [Di]⟩
 clear H;intro gh a w hI H;obtain ⟨k,x,p,vA,vc,qA,qc,Lp,Lo,g⟩:=gh;dsimp only at hI H;obtain ⟨hR,hsc,hmk,hks,hxi,hx1,hx2,hx3⟩:=hI;dsimp only [lca,aV] at H;refine aS (fun _ K2=>?_);refine aS (fun _ K3=>?_)
 by_cases c0:(x.i:Int) < (s.size:Int)
 ·skip
  by_cases c1:x.e=0
  ·skip;refine dI hmx [[],[0],[0,1],[0,1,2],[],[4],[4,5],[4,5,6],(ra 4 4),(ra 0 9),(ra 0 10),(ra 0 11),(ra 0 12),(ra 0 13),(ra 0 14),(ra 0 15),(ra 0 16)] [] (by kernel_rfl) [_,_,_,vi x.i,_,_,_,.string s,_,_,_,_,(aM b 0),_,vi x.e,_,_] H (aG (Z0 rfl (Rm rfl)) (Z1 0 2 rfl (Rk rfl)) (Z1 1 3 rfl (Rf rE rfl)) (Z1 2 4 rfl (Ro aD 0 rfl)) (aG (Z0 rfl (Rm rfl)) (Z1 4 6 rfl (Rk rfl)) (Z1 5 7 rfl (Rf zi rfl)) (Z1 6 8 rfl (Ro gD 0 rfl)) (aG (Z1 7 9 rfl (Rv iD rfl)) (Z2 3 5 8 10 rfl (Rc rfl)) (Z1 9 11 rfl (Rm rfl)) (Z1 10 12 rfl (YM (aI c0) rfl)) (aG ?_ (Z2 12 14 10 12 rfl (YF Cz (aI c0) rfl)) (Z2 13 15 10 12 rfl (YO iW 0 (aI c0) rfl)) (Z2 14 16 10 12 rfl (YC (aI c0) rfl)) (bq (Z2 10 12 15 17 rfl (Pt (aI c0) rfl)) dD))))) ?_
   ·refine eu 11 13 10 12 rfl rfl fun _ a w G1 hG HT H fin=>?_;refine uU H (wg H rfl rfl (aI c0)) rfl rfl ?_;clear H;intro a H;exact fin H iJ rfl
   clear H;intro a w G Yn H hv;have H:=H.aZ (hv 16 18 rfl rfl) rfl;clear hv;refine aH ⟨rfl,?_⟩;refine K3 _ _ ?_;clear K3;refine yV H rfl (aI c1) ?_;refine kP H (Kc K2 (SB (SQ fun _ K4=>SQ fun _ K5=>?_)));clear H K2;intro a H;refine dI hmx [[],[0],[0,1],[0,1,2],[],[4],[4,5],[4,5,6],(ra 0 8),(ra 0 9)] [] (by kernel_rfl) [_,_,_,.string s,_,_,_,vi x.i,.int .u8 (ji s x.i),_] H (aG (Z0 rfl (Rm rfl)) (Z1 0 19 rfl (Rk rfl)) (Z1 1 20 rfl (Rf zi rfl)) (Z1 2 21 rfl (Ro gD 0 rfl)) (aG (Z0 rfl (Rm rfl)) (Z1 4 23 rfl (Rk rfl)) (Z1 5 24 rfl (Rf rE rfl)) (Z1 6 25 rfl (Ro aD 0 rfl)) (bq ?_ (bq (Z1 8 27 rfl (Rc rfl)) dD)))) ?_
   ·refine eu 3 22 7 26 rfl rfl fun _ a w G1 hG HT H fin=>?_;refine qC x.i iD H wn rfl rfl rfl (by omega) rfl ?_;clear H;intro a H;rw [← oh] at H;exact fin H iJ rfl
   clear H;intro a w G jY H hv;have H:=H.aZ (hv 9 28 rfl rfl) rfl;clear hv;refine aH ⟨rfl,?_⟩;refine K5 _ _ ?_;clear K5;refine jX H rfl ?_ ?_
   ·intro gQ
    try have p28:=dT gQ
    refine kP H (SR fun _ K6=>Rm rfl ?_);clear H;intro a H;refine gB afL (Li:=[]) (L:=yH b s x p (.slice vA x.lit.length vc) (.slice qA x.parts.length qc) :: (Lp++Lo)) H wn rfl (alE _ Lp Lo _ b s x p _ _ hR (Hp.owns (Li:=[]) H.hp) (by omega) (by omega) (by omega) (by omega) (by omega)) rfl ?_;clear H;rintro v30 Dq L30 a w ⟨p',v',q',rX,kL,rfl,Oo⟩ zF H;dsimp only [List.nil_append] at H;have hst:qd s x=qB s x:=av p28;have hok:=abo s x ⟨by omega,c1⟩ hx1 hx2 hx3
    have hkk:k=(k - 1)+1:=by omega
    have TU:Er s (k - 1) (qd s x)=mg s:=by rw [hkk,Er,av ⟨by omega,c1⟩] at hsc;exact hsc
    rw [← hst] at H Oo;obtain ⟨A30,c30,rfl,-,-⟩:=Oo.buf.shape;obtain ⟨B30,d30,rfl,-,-⟩:=Oo.prt.shape;refine K6 _ _ ?_;clear K6;refine dW ?_;refine dK ((k - 1,qd s x,p',A30,c30,B30,d30,rX,kL,Dq)) (by exact (H).sub ⟨rfl,aC⟩) ?_ ?_
    ·(try dsimp only);exact ⟨Oo,TU,by omega,by omega,by omega,by omega,by omega,by omega⟩
    first|omega|(dsimp only;omega)
   intro gQ
   try have p28:=dF gQ
   refine fu ?_;refine K4 _ _ ?_;clear K4;refine aS (fun _ K7=>?_);refine dI hmx [[],[0],[0,1],[],[3],[3,4],[3,4,5],[],[7],[7,8],[7,8,9],(ra 3 8),(ra 0 12)] [12] (by kernel_rfl) [_,_,_,_,_,_,.string s,_,_,_,vi x.i,.int .u8 (ji s x.i)] H (aG (Z0 rfl (Rm rfl)) (Z1 0 31 rfl (Rk rfl)) (Z1 1 32 rfl (Rf Ld rfl)) (Z0 rfl (Rm rfl)) (aG (Z1 3 34 rfl (Rk rfl)) (Z1 4 35 rfl (Rf zi rfl)) (Z1 5 36 rfl (Ro gD 0 rfl)) (Z0 rfl (Rm rfl)) (aG (Z1 7 38 rfl (Rk rfl)) (Z1 8 39 rfl (Rf rE rfl)) (Z1 9 40 rfl (Ro aD 0 rfl)) ?_ (bq (bY rfl) dD)))) ?_
   ·refine eu 6 37 10 41 rfl rfl fun _ a w G1 hG HT H fin=>?_;refine qC x.i iD H wn rfl rfl rfl (by omega) rfl ?_;clear H;intro a H;rw [← oh] at H;exact fin H iJ rfl
   clear H;intro a w G ahS H hv;have H:=H.aZ (hv 2 33 rfl rfl) rfl;have H:=H.aZ (hv 11 42 rfl rfl) rfl;clear hv;refine gB XA (Li:=[]) (L:=yH b s x p (.slice vA x.lit.length vc) (.slice qA x.parts.length qc) :: (Lp++Lo)) H wn rfl (abY _ Lp Lo _ b s x.i p _ qA x.parts.length qc x.pl x.e x.lit.length _ (ji s x.i) hR.ptr (Hp.owns (Li:=[]) H.hp) hR.buf (by omega)) rfl ?_;clear H;rintro v43 _ L43 a w ⟨apT,Qx,rfl,Zq,rfl⟩ qb H;dsimp only [List.nil_append] at H;obtain ⟨Qp,QI,rfl,-,-⟩:=Zq.shape;have hst:qd s x=⟨x.i+1,x.lit++[Nu s x.i],x.parts,x.pl,x.e⟩:=ah p28;have hok:=abo s x ⟨by omega,c1⟩ hx1 hx2 hx3
   have hkk:k=(k - 1)+1:=by omega
   have TU:Er s (k - 1) (qd s x)=mg s:=by rw [hkk,Er,av ⟨by omega,c1⟩] at hsc;exact hsc
   have aik:Cm b (qd s x).lit (qd s x).parts (aM b 2) (.slice Qp (qd s x).lit.length QI) (.slice qA (qd s x).parts.length qc) Lp Qx:=by
    rw [hst];exact ⟨.inr rfl,by simpa [Lib.byteCells,acJ] using Zq,hR.prt⟩
   refine aH ⟨rfl,?_⟩;refine K7 _ _ ?_;clear K7;refine kP H (SC (Rm rfl (Rk rfl (bg rE aD 0 rfl rfl (Rd rfl (Rk rfl (Rf rE rfl ?_)))))));clear H;intro a H;refine bN aD 0 (vs:=[_]) _ H wn rfl rfl rfl rfl rfl rfl rfl rfl ?_;clear H;intro w H;dsimp only [List.set,setRow] at H;replace H:St _ _ _ _ _ _ (yH b s (qd s x) (aM b 2) (.slice Qp (qd s x).lit.length QI) (.slice qA (qd s x).parts.length qc) :: (Lp++Qx)) _ _ _:=H.cast (by rw [hst];simp [yH,iP]);refine aH ?_;refine dK ((k - 1,qd s x,(aM b 2),Qp,QI,qA,qc,Lp,Qx,_)) (by exact (H).sub ⟨rfl,aC⟩) ?_ ?_
   ·(try dsimp only);exact ⟨aik,TU,by omega,by omega,by omega,by omega,by omega,by omega⟩
   first|omega|(dsimp only;omega)
  skip;refine dI hmx [[],[0],[0,1],[0,1,2],[],[4],[4,5],[4,5,6],(ra 4 4),(ra 0 9),(ra 0 10),(ra 0 11),(ra 0 12),(ra 0 13),(ra 0 14),(ra 0 15),(ra 0 16)] [] (by kernel_rfl) [_,_,_,vi x.i,_,_,_,.string s,_,_,_,_,(aM b 0),_,vi x.e,_,_] H (aG (Z0 rfl (Rm rfl)) (Z1 0 2 rfl (Rk rfl)) (Z1 1 3 rfl (Rf rE rfl)) (Z1 2 4 rfl (Ro aD 0 rfl)) (aG (Z0 rfl (Rm rfl)) (Z1 4 6 rfl (Rk rfl)) (Z1 5 7 rfl (Rf zi rfl)) (Z1 6 8 rfl (Ro gD 0 rfl)) (aG (Z1 7 9 rfl (Rv iD rfl)) (Z2 3 5 8 10 rfl (Rc rfl)) (Z1 9 11 rfl (Rm rfl)) (Z1 10 12 rfl (YM (aI c0) rfl)) (aG ?_ (Z2 12 14 10 12 rfl (YF Cz (aI c0) rfl)) (Z2 13 15 10 12 rfl (YO iW 0 (aI c0) rfl)) (Z2 14 16 10 12 rfl (YC (aI c0) rfl)) (bq (Z2 10 12 15 17 rfl (Pt (aI c0) rfl)) dD))))) ?_
  ·refine eu 11 13 10 12 rfl rfl fun _ a w G1 hG HT H fin=>?_;refine uU H (wg H rfl rfl (aI c0)) rfl rfl ?_;clear H;intro a H;exact fin H iJ rfl
  clear H;intro a w G Yn H hv;have H:=H.aZ (hv 16 18 rfl rfl) rfl;clear hv;refine aH ⟨rfl,?_⟩;refine K3 _ _ ?_;clear K3;refine om H rfl (aR c1) ?_;refine dW ?_;refine K1 _ _ ?_;clear K1;refine aS (fun _ K8=>?_)
  have Uf:x=mg s:=by
   rw [aaZ (by first|exact fun h=>c0 (by omega)|exact fun h=>c1 h.2)] at hsc;exact hsc
  subst Uf;refine kP H (SC (Rm rfl ?_));clear H;intro a H;refine gB Rh (Li:=[]) (L:=yH b s (mg s) p (.slice vA (mg s).lit.length vc) (.slice qA (mg s).parts.length qc) :: (Lp++Lo)) H wn rfl (RP _ Lp Lo _ b s (mg s).i p _ _ (mg s).pl (mg s).e (mg s).lit (mg s).parts hR (Hp.owns (Li:=[]) H.hp) (by omega) (by omega)) rfl ?_;clear H;rintro v52 Qt L52 a w ⟨p52,anW,q52,acC,acA,rfl,uP⟩ TB H;dsimp only [List.nil_append] at H;obtain ⟨A52,c52,rfl,-,-⟩:=uP.buf.shape;obtain ⟨B52,d52,rfl,-,-⟩:=uP.prt.shape;refine kH H (Kn K8 (SR fun _ K9=>Rm rfl (Rk rfl (bg Cz iW 0 rfl rfl (Rc rfl (Rm rfl (Sp 58 rfl ?_ ?_))))))) <;> clear H K8
  ·intro jk a H
   try have p58:=dT jk
   refine kH H (YM jk rfl ?_);clear H;intro a H;refine uU H (wg H rfl rfl jk) rfl rfl ?_;clear H;intro a H;refine kH H (YF N7 jk rfl (YO aD 0 jk rfl (YC jk rfl (Pt jk rfl (Kz K9 (Cd rfl ?_ ?_)))))) <;> clear H K9
   ·intro h64 a H
    try have p64:=dT h64
    refine kP H (SC (Rm rfl (Rk rfl (Rf Cz rfl ?_))));clear H;intro a H;refine bN iW 0 (vs:=[_]) _ H wn rfl rfl rfl rfl rfl rfl rfl rfl ?_;clear H;intro w H;dsimp only [List.set,setRow] at H;refine aH ?_;refine (leave0 H results191 ?_).2
    first
     | exact H.hp.eB ⟨_,_,_,_,_,by rw [vV,av ⟨by assumption,by assumption⟩],uP⟩
     | exact H.hp.eB ⟨_,_,_,_,_,by rw [vV,ah (by first|exact fun h=>p58 h.1|exact fun h=>p64 h.2)],uP⟩
   intro h64 a H
   try have p64:=dF h64
   refine fu ?_;refine (leave0 H results191 ?_).2
   first
    | exact H.hp.eB ⟨_,_,_,_,_,by rw [vV,av ⟨by assumption,by assumption⟩],uP⟩
    | exact H.hp.eB ⟨_,_,_,_,_,by rw [vV,ah (by first|exact fun h=>p58 h.1|exact fun h=>p64 h.2)],uP⟩
  intro jk a H
  try have p58:=dF jk
  refine kH H (aQ jk rfl (aN jk rfl (Pf jk rfl (Kz K9 (Cf rfl rfl ?_)))));clear H K9;intro a H;refine fu ?_;refine (leave0 H results191 ?_).2
  first
   | exact H.hp.eB ⟨_,_,_,_,_,by rw [vV,av ⟨by assumption,by assumption⟩],uP⟩
   | exact H.hp.eB ⟨_,_,_,_,_,by rw [vV,ah (by first|exact fun h=>p58 h.1|exact fun h=>p64 h.2)],uP⟩
 skip;refine dI hmx [[],[0],[0,1],[0,1,2],[],[4],[4,5],[4,5,6],(ra 4 4),(ra 0 9),(ra 0 10),(ra 0 11),(ra 0 12),(ra 0 13),(ra 0 14),(ra 0 15),(ra 0 16)] [] (by kernel_rfl) [_,_,_,vi x.i,_,_,_,.string s,_,_,_,undef,undef,undef,undef,undef,_] H (aG (Z0 rfl (Rm rfl)) (Z1 0 2 rfl (Rk rfl)) (Z1 1 3 rfl (Rf rE rfl)) (Z1 2 4 rfl (Ro aD 0 rfl)) (aG (Z0 rfl (Rm rfl)) (Z1 4 6 rfl (Rk rfl)) (Z1 5 7 rfl (Rf zi rfl)) (Z1 6 8 rfl (Ro gD 0 rfl)) (aG (Z1 7 9 rfl (Rv iD rfl)) (Z2 3 5 8 10 rfl (Rc rfl)) (Z1 9 11 rfl (Rm rfl)) (aX (j:=10) (by kernel_rfl) (fun _ _ _ _ _ h=>h) rfl rfl rfl rfl rfl (fun _ _ h=>aY h (aL (aR c0))) rfl (fun _=>rfl)) (aG (aX (j:=10) (by kernel_rfl) (fun _ _ _ _ _ h=>h) rfl rfl rfl rfl rfl (fun _ _ h=>aY h (aL (aR c0))) rfl (fun _=>rfl)) (aX (j:=10) (by kernel_rfl) (fun _ _ _ _ _ h=>h) rfl rfl rfl rfl rfl (fun _ _ h=>aY h (aL (aR c0))) rfl (fun _=>rfl)) (aX (j:=10) (by kernel_rfl) (fun _ _ _ _ _ h=>h) rfl rfl rfl rfl rfl (fun _ _ h=>aY h (aL (aR c0))) rfl (fun _=>rfl)) (aX (j:=10) (by kernel_rfl) (fun _ _ _ _ _ h=>h) rfl rfl rfl rfl rfl (fun _ _ h=>aY h (aL (aR c0))) rfl (fun _=>rfl)) (bq (Z2 10 12 15 17 rfl (Pf (aR c0) rfl)) dD))))) ?_
 clear H;intro a w G Yn H hv;have H:=H.aZ (hv 16 18 rfl rfl) rfl;clear hv;refine aH ⟨rfl,?_⟩;refine K3 _ _ ?_;clear K3;refine om H rfl rfl ?_;refine dW ?_;refine K1 _ _ ?_;clear K1;refine aS (fun _ aT=>?_)
 have Uf:x=mg s:=by
  rw [aaZ (by first|exact fun h=>c0 (by omega)|exact fun h=>c1 h.2)] at hsc;exact hsc
 subst Uf;refine kP H (SC (Rm rfl ?_));clear H;intro a H;refine gB Rh (Li:=[]) (L:=yH b s (mg s) p (.slice vA (mg s).lit.length vc) (.slice qA (mg s).parts.length qc) :: (Lp++Lo)) H wn rfl (RP _ Lp Lo _ b s (mg s).i p _ _ (mg s).pl (mg s).e (mg s).lit (mg s).parts hR (Hp.owns (Li:=[]) H.hp) (by omega) (by omega)) rfl ?_;clear H;rintro v52 Qt L52 a w ⟨p52,anW,q52,acC,acA,rfl,uP⟩ TB H;dsimp only [List.nil_append] at H;obtain ⟨A52,c52,rfl,-,-⟩:=uP.buf.shape;obtain ⟨B52,d52,rfl,-,-⟩:=uP.prt.shape;refine kH H (Kn aT (SR fun _ bB=>Rm rfl (Rk rfl (bg Cz iW 0 rfl rfl (Rc rfl (Rm rfl (Sp 58 rfl ?_ ?_))))))) <;> clear H aT
 ·intro jk a H
  try have p58:=dT jk
  refine kH H (YM jk rfl ?_);clear H;intro a H;refine uU H (wg H rfl rfl jk) rfl rfl ?_;clear H;intro a H;refine kH H (YF N7 jk rfl (YO aD 0 jk rfl (YC jk rfl (Pt jk rfl (Kz bB (Cd rfl ?_ ?_)))))) <;> clear H bB
  ·intro h64 a H
   try have p64:=dT h64
   refine kP H (SC (Rm rfl (Rk rfl (Rf Cz rfl ?_))));clear H;intro a H;refine bN iW 0 (vs:=[_]) _ H wn rfl rfl rfl rfl rfl rfl rfl rfl ?_;clear H;intro w H;dsimp only [List.set,setRow] at H;refine aH ?_;refine (leave0 H results191 ?_).2
   first
    | exact H.hp.eB ⟨_,_,_,_,_,by rw [vV,av ⟨by assumption,by assumption⟩],uP⟩
    | exact H.hp.eB ⟨_,_,_,_,_,by rw [vV,ah (by first|exact fun h=>p58 h.1|exact fun h=>p64 h.2)],uP⟩
  intro h64 a H
  try have p64:=dF h64
  refine fu ?_;refine (leave0 H results191 ?_).2
  first
   | exact H.hp.eB ⟨_,_,_,_,_,by rw [vV,av ⟨by assumption,by assumption⟩],uP⟩
   | exact H.hp.eB ⟨_,_,_,_,_,by rw [vV,ah (by first|exact fun h=>p58 h.1|exact fun h=>p64 h.2)],uP⟩
 intro jk a H
 try have p58:=dF jk
 refine kH H (aQ jk rfl (aN jk rfl (Pf jk rfl (Kz bB (Cf rfl rfl ?_)))));clear H bB;intro a H;refine fu ?_;refine (leave0 H results191 ?_).2
 first
  | exact H.hp.eB ⟨_,_,_,_,_,by rw [vV,av ⟨by assumption,by assumption⟩],uP⟩
  | exact H.hp.eB ⟨_,_,_,_,_,by rw [vV,ah (by first|exact fun h=>p58 h.1|exact fun h=>p64 h.2)],uP⟩
end
section
open Go.RowKit
def Cb (c:Int):List Dat:=[.lf (.int .u8 c)]
theorem aby {G:GH} {c:Int} {cs:List ak} (h:bH G (Cb c) cs):cs=[.int .u8 c]:=by
 simp only [Cb,bH,au] at h
 obtain ⟨_,_,rfl,⟨rfl,_⟩,rfl⟩:=h
 rfl
def Jb (s:ByteArray):List Int:=s.data.toList.map fun b=>(b.toNat:Int)
theorem acP (G:GH) (l:List Int):dG G 1 (l.map Cb) (l.map fun c=>Value.int .u8 c):=by
 refine ⟨l.map fun c=>[.int .u8 c],by induction l with|nil=>rfl|cons x r ih=>simp [ih],by simp,fun j r cs hr hc=>?_⟩
 rw [tu] at hr hc
 obtain ⟨x,hx,rfl⟩:=ql.1 hr
 rw [hx] at hc
 cases hc
 exact ⟨by simp only [Cb,bH];exact ⟨_,_,rfl,by simp [au,Value.oneCell'],rfl⟩,rfl⟩
theorem alZ {G:GH} {sz b o n cap:Nat} {cur:Array ak} {e:TypeId} {fz:Nat × Nat} {rows:List (List Dat)} (hb:G b=some (.cells cur e fz)) (h:au (fun k=>if k=b then some (.cells cur e (0,0)) else G k) (.sl sz rows) (.slice (some ⟨b,o,none⟩) n cap)) (hr:∀ r∈rows,∃ c,r=Cb c):au G (.sl sz rows) (.slice (some ⟨b,o,none⟩) n cap):=by
 simp only [au] at h ⊢
 obtain ⟨A,c,h1,h2,h3,h4⟩:=h
 refine ⟨A,c,h1,h2,h3,fun hn=>?_⟩
 obtain ⟨b',o',e',hrr⟩:=h4 hn
 injection h1 with e1
 subst e1
 injection e' with e2
 injection e2 with e3 e4
 subst e3;subst e4
 refine ⟨_,_,rfl,nL.mk fun k r hk=>?_⟩
 obtain ⟨cs,g1,g2,g3⟩:=hrr.get hk
 refine ⟨cs,g1,fun j u hj=>?_,?_⟩
 ·have:=g2 j u hj
  unfold aF at this ⊢
  simp only [if_true] at this
  rw [hb];exact this
 ·obtain ⟨c,rfl⟩:=hr r (oD hk)
  have:=aby g3
  subst this
  simp only [Cb,bH];exact ⟨_,_,rfl,by simp [au,Value.oneCell'],rfl⟩
section
variable {N:Nat} {D:List Deferred} {w0:World} {F:Nat→Prop} {G0 G:GH} {L:OL} {T:List (Nat × ak)}
variable {r:Option Nat} {P:Program} {ops:Array Oper} {Q:Exit→Act→World→Prop} {rest:List Oper} {a:Act} {w:World}
variable {d:Nat} {ty:TypeId} {pos:String} {aU:Array Edge} {g:Option (Nat × Bool)}
theorem anR {w:World} {b o n:Nat} {c:Array ak} {e:TypeId} {fz:Nat × Nat} (h:w.heap[b]?=some (.cells c e fz)) (hn:n≠0):∃ GZ,xH b (.cells c e GZ) w (w.freeze ⟨b,o,none⟩ n):=by
 unfold World.freeze
 rw [ah hn]
 refine ⟨if fz.1 == fz.2 then (o,o+n) else (min fz.1 o,max fz.2 (o+n)),rfl,rfl,rfl,by simp,?_,fun k hk=>?_⟩
 ·simp [Array.getElem?_modify,h]
 ·simp [Array.getElem?_modify,Ne.symm hk]
theorem ams {t u e:TypeId} {x:Operand} {s:ByteArray} (ht:P.underlying t=some .string) (hu:P.underlying u=some (.slice e)) (he:P.underlying e=some (.int .u8)) (H:St N D w0 F G0 G L T a w) (hw:Region.wanted ⟨some d,.convert t u x,ty,pos,aU,g⟩ (yielded ops a.tmps)=true) (hx:ev T x=some (.string s)) (hz:s.size≤4294967296) (hd:Nat.blt d N=true)
  (k:∀ v G' a' w',(∀ k o,G k=some o→G' k=some o)→au G' (.sl 1 ((Jb s).map Cb)) v→St N D w0 F G0 G' L ((d,v) :: T) a' w'→WL r P ops Q rest a' w'):WL r P ops Q (⟨some d,.convert t u x,ty,pos,aU,g⟩ :: rest) a w:=by
 have hc:=Lib.run_convert_string_bytes (P:=P) w t u e s ht hu he
 have hge:=grownCap_ge w s.size 0 e
 have hml:s.size≤maxLen:=by
  have:maxLen=9223372036854775807:=rfl
  omega
 have hgm:=grownCap_le_maxLen w s.size 0 e hml
 have H1:=H.hp.drew.alloc (.cells (Lib.bytesCells w e s) e)
 have hw1:(w.drew.alloc (.cells (Lib.bytesCells w e s) e)).heap[w.drew.heap.size]?=some (.cells (Lib.bytesCells w e s) e (0,0)):=H1.own _ lW
 obtain ⟨fz,hu2⟩:=anR (o:=(Lib.bytesCells w e s).size) (n:=1) hw1 (by decide)
 have H2:=H1.upd (i:=0) rfl hu2
 have H3:St N D w0 F G0 G ((w.heap.size,.cells (Lib.bytesCells w e s) e fz) :: L) ((d,.slice (some ⟨w.heap.size,0,none⟩) s.size (grownCap w s.size 0 e)) :: T) (a.put (some d) (.slice (some ⟨w.heap.size,0,none⟩) s.size (grownCap w s.size 0 e))) (Lib.bytesWorld w e s):=H.put hd _ H2
 obtain ⟨G',hm,hb,H4⟩:=H3.eG
 have hlen:(Jb s).length=s.size:=by rw [Jb,bV,yS];rfl
 have hrep:au G' (.sl 1 ((Jb s).map Cb)) (.slice (some ⟨w.heap.size,0,none⟩) s.size (grownCap w s.size 0 e)):=by
  refine alZ hb ?_ (fun r hr=>by obtain ⟨c,-,rfl⟩:=List.mem_map.1 hr;exact ⟨c,rfl⟩)
  refine au.fF (cur:=Lib.bytesCells w e s) (e:=e) (n:=s.size) (cap:=grownCap w s.size 0 e) (by simp) (by rw [bV,hlen]) hge hgm ?_ (acP _ _)
  rw [Lib.bytesCells,Array.toList_append,Nat.mul_one,List.take_left' (by rw [Array.toList_map,bV,yS];rfl)]
  simp [Jb]
 have k2:=k _ _ _ _ hm hrep H4
 refine gZ (v:=.slice (some ⟨w.heap.size,0,none⟩) s.size (grownCap w s.size 0 e)) (w':=Lib.bytesWorld w e s) hw rfl ?_ k2
 simp only [execOp,H.ev hx,eT,hc,nC,uq]
theorem aaO {t yt:TypeId} {x y:Operand} {p q:ByteArray} (H:St N D w0 F G0 G L T a w) (hw:Region.wanted ⟨some d,.binOp .lss t x y yt,ty,pos,aU,g⟩ (yielded ops a.tmps)=true) (hx:ev T x=some (.string p)) (hy:ev T y=some (.string q)) (hd:Nat.blt d N=true)
  (k:∀ a',St N D w0 F G0 G L ((d,.bool (Op.bytesLess p.toList q.toList)) :: T) a' w→WL r P ops Q rest a' w):WL r P ops Q (⟨some d,.binOp .lss t x y yt,ty,pos,aU,g⟩ :: rest) a w:=by
 refine gZ (v:=.bool (Op.bytesLess p.toList q.toList)) (w':=w) hw rfl ?_ (k _ (H.put hd _ H.hp))
 simp [execOp,H.ev hx,H.ev hy,eT,eqGuard,binOp,Op.stringOp]
end
end
section
open Go.RowKit
theorem afK:∀ args w,(callFunc 194 args).run prog w=.ok (.enter 194 args) w:=enters func194 rfl (by kernel_rfl)
theorem afI:∀ args w,(callFunc 191 args).run prog w=.ok (.enter 191 args) w:=enters func191 rfl (by kernel_rfl)
theorem afF:∀ args w,(callFunc 189 args).run prog w=.ok (.enter 189 args) w:=enters func189 rfl (by kernel_rfl)
theorem anl:uj prog 277 [(0,1),(1,1),(2,2),(4,1),(5,1),(6,1)] [.string ⟨#[]⟩,.int .i64 0,.pointer none,.slice none 0 0,.slice none 0 0,.int .i64 0,.int .i64 0]:=⟨by kernel_rfl,by kernel_rfl⟩
theorem afJ:∀ args w,(callFunc 192 args).run prog w=.ok (.enter 192 args) w:=enters func192 rfl (by kernel_rfl)
theorem ahr:dV prog 258 1 1:=⟨by kernel_rfl⟩
theorem afq:∀ args w,(callFunc 174 args).run prog w=.ok (.enter 174 args) w:=enters func174 rfl (by kernel_rfl)
theorem afr:∀ args w,(callFunc 175 args).run prog w=.ok (.enter 175 args) w:=enters func175 rfl (by kernel_rfl)
theorem afH:∀ args w,(callFunc 190 args).run prog w=.ok (.enter 190 args) w:=enters func190 rfl (by kernel_rfl)
theorem afs:∀ args w,(callFunc 176 args).run prog w=.ok (.enter 176 args) w:=enters func176 rfl (by kernel_rfl)
def QB (fv:ak) (G:GH) (c:Int) (b:Bool):Prop:=∀ (G1:GH) (w1:World),(∀ b o,G b=some o→G1 b=some o)→Hold G1 w1→xB prog fv [.int .u8 c] w1 (bJ w1 G1 fun u G'=>u=.bool b)
theorem aku (G:GH) (w0:World) (hG:Hold G w0) (l:List Int) (p:Int→Bool) (v fv:ak) (hv:au G (.sl 1 (l.map Cb)) v) (hf:∀ c∈l,QB fv G c (p c)) :
  Calls prog 194 #[v,fv] w0 (bJ w0 G fun u G'=>u=vi (qV (l.findIdx? p))):=by
 obtain ⟨A,c,rfl,hc1,hc2,hg⟩:=hv.slice;have hml:maxLen=9223372036854775807:=rfl;rw [bV] at *;refine eN [(0,_),(1,_)] func194 rfl ntmps194 rfl rfl hG ?_;intro a H;refine kP H (SR fun _ K1=>aj K1 rfl (SQ fun _ K2=>SR fun _ K3=>Rm rfl (Rl Iz rfl (Rm rfl (Kz K3 (SB ?_))))));clear H K1 K3;intro a H;skip;refine eH (ι:=Nat × GH) (Tc:=[(0,_),(1,_),(7,_)]) (Lc:=[]) (fun gh=>[(8,vi gh.1)]) (fun gh=>[]) (fun gh=>gh.2) (fun gh=>gh.1≤l.length∧(l.take gh.1).findIdx? p=none∧(∀ b o,G b=some o→gh.2 b=some o)) (fun gh=>l.length - gh.1) ((0,G)) (by exact (H).sub ⟨rfl,rfl,rfl,rfl,aC⟩) ?_ ?_
 ·exact ⟨by omega,rfl,fun _ _ h=>h⟩
 clear H;intro gh a w hI H;obtain ⟨k,g⟩:=gh;dsimp only at hI H;obtain ⟨hk,hno,hgm⟩:=hI;dsimp only [lca,aV] at H;refine kP H (SR fun _ K4=>Rc rfl (Kz K4 (SQ fun _ K5=>Cd rfl ?_ ?_))) <;> clear H K4
 ·intro h9 a H
  try have p9:=dT h9
  have hk2:k < l.length:=by omega
  obtain ⟨b,o,cs,rfl,hcl,hrow,hr⟩:=hg k (Cb l[k]) (by simp [hk2]);obtain rfl:=aby hr
  have hcell:aF G b (o+k*1)=some (.int .u8 l[k]):=by simpa using hrow 0 _ rfl
  refine kP H (Kc K5 (SQ fun _ K6=>SB (SR fun _ K7=>Rm rfl (aj K7 rfl (SR fun _ K8=>Rm rfl (Rm rfl (Rm rfl (Ri Iz Qc rfl rfl (Rg Qc rfl (ay hgm hcell) ?_)))))))));clear H K5 K7;intro a H;refine pI H wn rfl rfl (hf _ (jW hk2) _ _ hgm H.ro) rfl ?_;clear H;rintro v16 yP a w rfl pY H;refine K8 _ _ ?_;clear K8;refine jX H rfl ?_ ?_
  ·intro h16
   try have p16:=dT h16
   refine kP H (SR fun _ K9=>Rm rfl (aj K9 rfl ?_));clear H K9;intro a H;refine lr H results194 rfl ?_
   first
    | exact H.rt (by rw [zK hk2 hno h16];rfl)
    | exact H.rt (by rw [show l.take k=l from iH (by omega)] at hno;rw [hno];rfl)
  intro h16
  try have p16:=dF h16
  refine kP H (Kc K6 (SC (Rd rfl (Rm rfl ?_))));clear H K6;intro a H;refine aH ?_;refine dK ((k+1,yP)) (by exact (H).sub ⟨rfl,rfl,rfl,rfl,aC⟩) ?_ ?_
  ·(try dsimp only);exact ⟨by omega,Ie hk2 hno h16,fun b o h=>pY b o (hgm b o h)⟩
  first|omega|(dsimp only;omega)
 intro h9 a H
 try have p9:=dF h9
 refine dW ?_;refine K2 _ _ ?_;clear K2;refine kP H (SR fun _ aT=>aj aT rfl ?_);clear H aT;intro a H;refine lr H results194 rfl ?_
 first
  | exact H.rt (by rw [zK hk2 hno h16];rfl)
  | exact H.rt (by rw [show l.take k=l from iH (by omega)] at hno;rw [hno];rfl)
theorem Ur (o:Option Nat):decide (0≤qV o)=o.isSome:=by cases o <;> simp [qV]
theorem aed (G:GH) (w0:World) (hG:Hold G w0) (l:List Int) (p:Int→Bool) (v fv:ak) (hv:au G (.sl 1 (l.map Cb)) v) (hf:∀ c∈l,QB fv G c (p c)) :
  Calls prog 189 #[v,fv] w0 (bJ w0 G fun u G'=>u=.bool (l.findIdx? p).isSome):=by
 obtain ⟨A,c,rfl,hc1,hc2,-⟩:=hv.slice;rw [bV] at *;refine eN [(0,_),(1,_)] func189 rfl ntmps189 rfl rfl hG ?_;intro a H;refine kP H (SR fun _ K1=>aj K1 rfl (SR fun _ K2=>Rm rfl (Rm rfl ?_)));clear H K1;intro a H;refine s_call afK H wn rfl (aku _ _ H.ro l p _ _ hv hf) rfl ?_;clear H;rintro v7 G7 a w rfl wU H;exact kH H (Rc rfl (aj K2 rfl (LR results189 rfl fun H=>H.rt (aL (Ur _)))))
def KM (c:Int):Bool:=decide (c < 32) || decide (c=127)
theorem aee (G:GH) (c:Int):QB (.func (.func 190) #[] #[]) G c (KM c):=by
 intro G1 w0 hm hG;refine mF (caps:=[]) afH ?_;refine eN [(0,_)] func190 rfl ntmps190 rfl rfl hG ?_;intro a H;refine kP H (SR fun _ K1=>aj K1 rfl (SR fun _ K2=>Rm rfl (Rc rfl (Rm rfl (Sp 5 rfl ?_ ?_))))) <;> clear H K1
 ·intro h5 a H
  try have p5:=dT h5
  exact kH H (aN h5 rfl (Pt h5 rfl (aj K2 rfl (LR results190 rfl fun H=>H.rt (aL (by unfold KM;first|(simp_all;done)|(simp_all;omega)))))))
 intro h5 a H
 try have p5:=dF h5
 exact kH H (YM h5 rfl (YC h5 rfl (Pf h5 rfl (aj K2 rfl (LR results190 rfl fun H=>H.rt (aL (by unfold KM;first|(simp_all;done)|(simp_all;omega))))))))
def zR (t:ByteArray):Int:=if 64 < t.size then 10 else if sW t=false then 12 else if ((Jb t).findIdx? KM).isSome=true then 5 else vV (mg t)
def AL (t:ByteArray):List jT:=if zR t=0 then wN (mg t).lit (mg t).parts else []
theorem akR (G:GH) (l:List jT):dG G 3 (l.map jT.dat) (Fv l):=by
 refine ⟨l.map jT.cells,rfl,by simp,fun j r cs hr hc=>?_⟩;rw [tu] at hr hc;obtain ⟨x,hx,rfl⟩:=ql.1 hr;rw [hx] at hc
 cases hc
 exact ⟨Z9 G x,rfl⟩
theorem alD (G:GH) (w0:World) (hG:Hold G w0) (t:ByteArray) (ht:t.size < 4611686018427387904) :
  Calls prog 174 #[.string t] w0 (bJ w0 G fun u G'=>∃ x,u=.tuple #[x,vi (zR t)]∧au G' (.sl 3 ((AL t).map jT.dat)) x):=by
 refine eN [(0,_)] func174 rfl ntmps174 rfl rfl hG ?_;intro a H;refine kP H (SR fun _ K1=>Ra rfl (aj K1 rfl (SQ fun _ K2=>SB (SR fun _ K3=>Rm rfl (Rv iD rfl (Rc rfl (aj K3 rfl (Cd rfl ?_ ?_)))))))) <;> clear H K1 K3
 ·intro h5 a H
  try have p5:=dT h5
  refine aS (fun _ K4=>?_)
  have he:zR t=10:=by rw [zR,av (by omega)]
  refine kP H (SC (Ra rfl (aO K4 rfl ?_)));clear H K4;intro a H;refine dR ?_;refine (iB H results174 (.cons (bM H rfl) (.cons (bM H rfl) .nil)) ?_).1
  first
   | exact H.rt ⟨_,by rw [he0],by rw [AL,av he0];exact hrep⟩
   | exact H.rt ⟨_,by rw [he],by rw [AL,ah (by rw [he];first|decide|assumption)];exact au.kg rfl (by decide)⟩
 intro h5 a H
 try have p5:=dF h5
 refine kP H (SR fun _ K5=>Rm rfl ?_);clear H;intro a H;refine s_call EU H wn rfl (FL _ _ H.ro t ht) rfl ?_;clear H;rintro v11 _ a w ⟨rfl,rfl⟩ - H;refine kH H (Rn rfl (aj K5 rfl (Cd rfl ?_ ?_))) <;> clear H K5
 ·intro h9 a H
  try have p9:=dT h9
  refine aS (fun _ K6=>?_)
  have he:zR t=12:=by rw [zR,ah (by omega),av (by simpa using h9)]
  refine kP H (SC (Ra rfl (aO K6 rfl ?_)));clear H K6;intro a H;refine dR ?_;refine (iB H results174 (.cons (bM H rfl) (.cons (bM H rfl) .nil)) ?_).1
  first
   | exact H.rt ⟨_,by rw [he0],by rw [AL,av he0];exact hrep⟩
   | exact H.rt ⟨_,by rw [he],by rw [AL,ah (by rw [he];first|decide|assumption)];exact au.kg rfl (by decide)⟩
 intro h9 a H
 try have p9:=dF h9
 refine kP H (SR fun _ K7=>Rm rfl ?_);clear H;intro a H;refine ams iD Iz M7 H wn rfl (by omega) rfl ?_;clear H;intro v15 Ez a w yg Zz H;obtain ⟨A15,c15,rfl,-,-,-⟩:=Zz.slice;refine s_call afF H wn rfl (aed _ _ H.ro _ KM _ _ Zz (fun c _=>aee _ c)) rfl ?_;clear H;rintro v16 yP a w rfl pY H;refine kH H (aj K7 rfl (Cd rfl ?_ ?_)) <;> clear H K7
 ·intro gG a H
  try have rR:=dT gG
  refine aS (fun _ K8=>?_)
  have he:zR t=5:=by rw [zR,ah (by omega),ah (by simpa using h9),av gG]
  refine kP H (SC (Ra rfl (aO K8 rfl ?_)));clear H K8;intro a H;refine dR ?_;refine (iB H results174 (.cons (bM H rfl) (.cons (bM H rfl) .nil)) ?_).1
  first
   | exact H.rt ⟨_,by rw [he0],by rw [AL,av he0];exact hrep⟩
   | exact H.rt ⟨_,by rw [he],by rw [AL,ah (by rw [he];first|decide|assumption)];exact au.kg rfl (by decide)⟩
 intro gG a H
 try have rR:=dF gG
 refine kP H (Kc K2 (SR fun _ K9=>Rm rfl ?_));clear H K2;intro a H;refine nk anl [_,_,_,_,_,_,_] H wn rfl rfl rfl rfl ?_;clear H;intro a H;refine eD (cs:=[_,_,_,_,_,_,_]) H wn rfl rfl rfl ?_;clear H;intro b19 a w aoK H;refine kH H (aj K9 rfl (SQ fun _ aT=>SR fun _ bB=>Rm rfl ?_));clear H K9;intro a H;refine gB afI (Li:=[]) (L:=[yH b19 t Di (.pointer none) (.slice none 0 0) (.slice none 0 0)]) H wn rfl (amG _ [] [] _ b19 t _ _ _ ⟨.inl rfl,dO.nil,dO.nil⟩ (Hp.owns (Li:=[]) H.hp) (by omega)) rfl ?_;clear H;rintro v21 VP L21 a w ⟨p',v',q',rX,kL,rfl,SN⟩ Ec H;dsimp only [List.nil_append] at H;obtain ⟨A21,c21,rfl,-,-⟩:=SN.buf.shape;obtain ⟨B21,d21,rfl,-,-⟩:=SN.prt.shape;refine bB _ _ ?_;clear bB;refine aS (fun _ bC=>?_)
 have he:zR t=vV (mg t):=by rw [zR,ah (by omega),ah (by simpa using h9),ah (by simp [gG])]
 refine kP H (SC (Rm rfl (Rk rfl (bg Cz iW 0 rfl rfl (Rc rfl (Kn bC (Cd rfl ?_ ?_))))))) <;> clear H bC
 ·intro fI a H
  try have p26:=dT fI
  refine aS (fun _ bK=>?_);have H:=H.sub (T':=[(4,_)]) ⟨rfl,aC⟩;refine dI hmx [[],[0],[0,1],[0,1,2],[],(ra 0 5)] [] (by kernel_rfl) [_,_,_,vi (vV (mg t)),_,_] H (aG (Z0 rfl (Rm rfl)) (Z1 0 27 rfl (Rk rfl)) (Z1 1 28 rfl (Rf Cz rfl)) (Z1 2 29 rfl (Ro iW 0 rfl)) (bq (Z0 rfl (Ra rfl)) (bq (Z1 3 30 rfl (Ra rfl)) dD))) ?_
  clear H;intro a w G pW H hv;have H:=H.aZ (hv 4 2 rfl rfl) rfl;have H:=H.aZ (hv 5 3 rfl rfl) rfl;clear hv;refine aH ⟨rfl,?_⟩;refine bK _ _ ?_;clear bK;refine dR ?_;refine (iB H results174 (.cons (bM H rfl) (.cons (bM H rfl) .nil)) ?_).1
  first
   | exact H.rt ⟨_,by rw [he0],by rw [AL,av he0];exact hrep⟩
   | exact H.rt ⟨_,by rw [he],by rw [AL,ah (by rw [he];first|decide|assumption)];exact au.kg rfl (by decide)⟩
 intro fI a H
 try have p26:=dF fI
 refine fu ?_;refine aT _ _ ?_;clear aT;refine aS (fun _ bP=>?_)
 have he0:zR t=0:=by rw [he];omega
 have H:=(St.cast H (show _=[_]++(rX++kL) from rfl)).perm (List.Perm.append_left _ vv);have H:=St.un H;obtain ⟨Gr,hmr,hrep,H⟩:=St.E5 (Li:=[_]++kL) (Lo:=rX) H SN.prt (rows:=(wN (mg t).lit (mg t).parts).map jT.dat) (by simp) (akR _ _);dsimp only [lca,aV] at H;refine kP H (SC (Rm rfl (Rk rfl (bg Le M4 0 rfl rfl (Ra rfl (aO bP rfl ?_))))));clear H bP;intro a H;refine dR ?_;refine (iB H results174 (.cons (bM H rfl) (.cons (bM H rfl) .nil)) ?_).1
 first
  | exact H.rt ⟨_,by rw [he0],by rw [AL,av he0];exact hrep⟩
  | exact H.rt ⟨_,by rw [he],by rw [AL,ah (by rw [he];first|decide|assumption)];exact au.kg rfl (by decide)⟩
structure iY where
 fmt:Int
 start:Int
 zU:ByteArray
 restart:Int
def iY.dat (x:iY):List Dat:=[li x.fmt,li x.start,.lf (.string x.zU),li x.restart]
abbrev iY.cells (x:iY):List ak:=[vi x.fmt,vi x.start,.string x.zU,vi x.restart]
theorem Pq {G:GH} {x:iY} {cs:List ak} (h:bH G x.dat cs):cs=x.cells:=by
 simp only [iY.dat,bH,au] at h
 obtain ⟨_,_,rfl,⟨rfl,_⟩,_,_,rfl,⟨rfl,_⟩,_,_,rfl,⟨rfl,_⟩,_,_,rfl,⟨rfl,_⟩,rfl⟩:=h
 rfl
theorem akt (G:GH) (w0:World) (hG:Hold G w0) (l:List jT) (p:jT→Bool) (v fv:ak) (hv:au G (.sl 3 (l.map jT.dat)) v) (hf:∀ x∈l,wB fv G x.dat (p x)) :
  Calls prog 192 #[v,fv] w0 (bJ w0 G fun u G'=>u=vi (qV (l.findIdx? p))):=by
 obtain ⟨A,c,rfl,hc1,hc2,hg⟩:=hv.slice;have hml:maxLen=9223372036854775807:=rfl;rw [bV] at *;refine eN [(0,_),(1,_)] func192 rfl ntmps192 rfl rfl hG ?_;intro a H;refine kP H (SR fun _ K1=>aj K1 rfl (SQ fun _ K2=>SR fun _ K3=>Rm rfl (Rl Ka rfl (Rm rfl (Kz K3 (SB ?_))))));clear H K1 K3;intro a H;skip;refine eH (ι:=Nat × GH) (Tc:=[(0,_),(1,_),(7,_)]) (Lc:=[]) (fun gh=>[(8,vi gh.1)]) (fun gh=>[]) (fun gh=>gh.2) (fun gh=>gh.1≤l.length∧(l.take gh.1).findIdx? p=none∧(∀ b o,G b=some o→gh.2 b=some o)) (fun gh=>l.length - gh.1) ((0,G)) (by exact (H).sub ⟨rfl,rfl,rfl,rfl,aC⟩) ?_ ?_
 ·exact ⟨by omega,rfl,fun _ _ h=>h⟩
 clear H;intro gh a w hI H;obtain ⟨k,g⟩:=gh;dsimp only at hI H;obtain ⟨hk,hno,hgm⟩:=hI;dsimp only [lca,aV] at H;refine kP H (SR fun _ K4=>Rc rfl (Kz K4 (SQ fun _ K5=>Cd rfl ?_ ?_))) <;> clear H K4
 ·intro h9 a H
  try have p9:=dT h9
  have hk2:k < l.length:=by omega
  obtain ⟨b,o,cs,rfl,hcl,hrow,hr⟩:=hg k l[k].dat (by simp [hk2]);obtain rfl:=Z8 hr;refine kP H (Kc K5 (SQ fun _ K6=>SB (SR fun _ K7=>Rm rfl (aj K7 rfl (SR fun _ K8=>Rm rfl (Rm rfl (Rm rfl (Ri Ka J9 rfl rfl ?_))))))));clear H K5 K7;intro a H;refine aW J9 (cs:=l[k].cells) H wn rfl rfl (fun j v hj=>H.hp.aF (ay hgm (hrow j v hj))) rfl ?_;clear H;intro a H;refine pI H wn rfl rfl (hf _ (jW hk2) _ _ _ hgm H.ro (Z9 _ l[k])) rfl ?_;clear H;rintro v16 yP a w rfl pY H;refine K8 _ _ ?_;clear K8;refine jX H rfl ?_ ?_
  ·intro h16
   try have p16:=dT h16
   refine kP H (SR fun _ K9=>Rm rfl (aj K9 rfl ?_));clear H K9;intro a H;refine lr H results192 rfl ?_
   first
    | exact H.rt (by rw [zK hk2 hno h16];rfl)
    | exact H.rt (by rw [show l.take k=l from iH (by omega)] at hno;rw [hno];rfl)
  intro h16
  try have p16:=dF h16
  refine kP H (Kc K6 (SC (Rd rfl (Rm rfl ?_))));clear H K6;intro a H;refine aH ?_;refine dK ((k+1,yP)) (by exact (H).sub ⟨rfl,rfl,rfl,rfl,aC⟩) ?_ ?_
  ·(try dsimp only);exact ⟨by omega,Ie hk2 hno h16,fun b o h=>pY b o (hgm b o h)⟩
  first|omega|(dsimp only;omega)
 intro h9 a H
 try have p9:=dF h9
 refine dW ?_;refine K2 _ _ ?_;clear K2;refine kP H (SR fun _ aT=>aj aT rfl ?_);clear H aT;intro a H;refine lr H results192 rfl ?_
 first
  | exact H.rt (by rw [zK hk2 hno h16];rfl)
  | exact H.rt (by rw [show l.take k=l from iH (by omega)] at hno;rw [hno];rfl)
theorem aec (G:GH) (w0:World) (hG:Hold G w0) (l:List jT) (p:jT→Bool) (v fv:ak) (hv:au G (.sl 3 (l.map jT.dat)) v) (hf:∀ x∈l,wB fv G x.dat (p x)) :
  Calls prog 175 #[v,fv] w0 (bJ w0 G fun u G'=>u=.bool (l.findIdx? p).isSome):=by
 obtain ⟨A,c,rfl,hc1,hc2,-⟩:=hv.slice;rw [bV] at *;refine eN [(0,_),(1,_)] func175 rfl ntmps175 rfl rfl hG ?_;intro a H;refine kP H (SR fun _ K1=>aj K1 rfl (SR fun _ K2=>Rm rfl (Rm rfl ?_)));clear H K1;intro a H;refine s_call afJ H wn rfl (akt _ _ H.ro l p _ _ hv hf) rfl ?_;clear H;rintro v7 G7 a w rfl wU H;exact kH H (Rc rfl (aj K2 rfl (LR results175 rfl fun H=>H.rt (aL (Ur _)))))
theorem akT {G:GH} {bl:Nat} {k:Int} (hb:aF G bl 0=some (vi k)) (x:jT):wB (.func (.func 176) #[] #[(aM bl 0)]) G x.dat (decide (k < x.level)):=by
 intro G1 w0 cs hm hG hr;refine mF (caps:=[(aM bl 0)]) afs ?_;obtain rfl:=Z8 hr;replace hb:=ay hm hb;refine eN [(0,_),(1,_)] func176 rfl ntmps176 rfl rfl hG ?_;intro a H;refine dw (fun _ K1=>?_);refine eD (cs:=[_,_,_]) H wn rfl rfl rfl ?_;clear H;intro b2 a w hb2 H;refine kH H (aj K1 rfl (SR fun _ K2=>bg ahr aD 0 rfl rfl (Rg aD rfl (by assumption) ?_)));clear H K1;intro a H;exact kH H (Rc rfl (aj K2 rfl (LR results176 rfl fun H=>H.rt rfl)))
def C8 (t:ByteArray) (k:Int):Int:=if k < 1∨9 < k then 2 else if zR t=0∧((AL t).findIdx? fun x=>decide (k < x.level)).isSome=true then 6 else zR t
theorem akS (G:GH) (w0:World) (hG:Hold G w0) (t:ByteArray) (k:Int) (ht:t.size < 4611686018427387904) :
  Calls prog 141 #[.string t,vi k] w0 (bJ w0 G fun u G'=>u=vi (C8 t k)):=by
 refine eN [(0,_),(1,_)] func141 rfl ntmps141 rfl rfl hG ?_;intro a H;refine dw (fun _ K1=>?_);refine eD (cs:=[_]) H wn rfl rfl rfl ?_;clear H;intro b3 a w hb3 H;refine kH H (aj K1 rfl (SQ fun _ K2=>SR fun _ K3=>Ro aD 0 rfl (Rc rfl (Rm rfl (Sp 9 rfl ?_ ?_))))) <;> clear H K1
 ·intro h9 a H
  try have p9:=dT h9
  refine kH H (aN h9 rfl (Pt h9 rfl (Kz K3 (Ct rfl rfl (SR fun _ K4=>aj K4 rfl ?_)))));clear H K3 K4;intro a H;refine lr H results141 rfl ?_
  exact H.rt (aB vi (by unfold C8;(repeat' split) <;> first|rfl|(exfalso;simp_all;done)|(exfalso;simp_all;omega)|(simp_all;done)))
 intro h9 a H
 try have p9:=dF h9
 refine kH H (YO aD 0 h9 rfl (YC h9 rfl (Pf h9 rfl (Kz K3 (Cd rfl ?_ ?_))))) <;> clear H K3
 ·intro h12 a H
  try have pF:=dT h12
  refine kP H (SR fun _ K5=>aj K5 rfl ?_);clear H K5;intro a H;refine lr H results141 rfl ?_
  exact H.rt (aB vi (by unfold C8;(repeat' split) <;> first|rfl|(exfalso;simp_all;done)|(exfalso;simp_all;omega)|(simp_all;done)))
 intro h12 a H
 try have pF:=dF h12
 refine fu ?_;refine K2 _ _ ?_;clear K2;refine aS (fun _ K6=>?_);obtain ⟨Ga,hma,sM,H⟩:=H.eG
 have hbk:aF Ga b3 0=some (vi k):=by unfold aF;rw [sM];rfl
 refine kP H (SC (Rm rfl ?_));clear H;intro a H;refine s_call afq H wn rfl (alD _ _ H.ro t ht) rfl ?_;clear H;rintro v15 Ez a w ⟨x15,rfl,ZH⟩ yg H;obtain ⟨A15,c15,rfl,-,-,-⟩:=ZH.slice;replace hbk:=ay yg hbk;refine kH H (Rm rfl ?_);clear H;intro a H;(iterate 2 refine uT H wn rfl rfl rfl ?_;clear H;intro a H);refine kH H (Ra rfl (aO K6 rfl (SQ fun _ K7=>SR fun _ K8=>Rm rfl (Rc rfl (Rm rfl (Sp 20 rfl ?_ ?_)))))) <;> clear H K6
 ·intro h20 a H
  try have qW:=dT h20
  refine kH H (YM h20 rfl ?_);clear H;intro a H;refine qX H (wg H rfl rfl h20) rfl rfl ?_;clear H;intro a H;refine s_call afr H (wg H rfl rfl h20) rfl (aec _ _ H.ro _ (fun x=>decide (k < x.level)) _ _ ZH (fun x _=>akT hbk x)) rfl ?_;clear H;rintro v23 G23 a w rfl ajr H;refine kH H (Pt h20 rfl (Kz K8 (Cd rfl ?_ ?_))) <;> clear H K8
  ·intro bE a H
   try have jP:=dT bE
   refine kP H (SC (aO K7 rfl (SR fun _ K9=>Rm rfl (aj K9 rfl ?_))));clear H K7 K9;intro a H;refine lr H results141 rfl ?_
   exact H.rt (aB vi (by unfold C8;(repeat' split) <;> first|rfl|(exfalso;simp_all;done)|(exfalso;simp_all;omega)|(simp_all;done)))
  intro bE a H
  try have jP:=dF bE
  refine kP H (Kc K7 (SR fun _ aT=>Rm rfl (aj aT rfl ?_)));clear H K7 aT;intro a H;refine lr H results141 rfl ?_
  exact H.rt (aB vi (by unfold C8;(repeat' split) <;> first|rfl|(exfalso;simp_all;done)|(exfalso;simp_all;omega)|(simp_all;done)))
 intro h20 a H
 try have qW:=dF h20
 refine kH H (aQ h20 rfl (Pf h20 rfl (Kz K8 (Cf rfl rfl (Kc K7 (SR fun _ bB=>Rm rfl (aj bB rfl ?_)))))));clear H K8 K7 bB;intro a H;refine lr H results141 rfl ?_
 exact H.rt (aB vi (by unfold C8;(repeat' split) <;> first|rfl|(exfalso;simp_all;done)|(exfalso;simp_all;omega)|(simp_all;done)))
end
section
open Go.RowKit
theorem xu:Ty prog 87 4 40 [.int .i64 0,.int .i64 0,.string ⟨#[]⟩,.int .i64 0] true:=⟨by kernel_rfl,by kernel_rfl⟩
theorem ru:prog.underlying 82=some (.slice 87):=by kernel_rfl
theorem X8:dV prog 87 0 0:=⟨by kernel_rfl⟩
theorem X9:dV prog 87 1 1:=⟨by kernel_rfl⟩
theorem aht:dV prog 87 2 2:=⟨by kernel_rfl⟩
theorem aeW:∀ args w,(callFunc 141 args).run prog w=.ok (.enter 141 args) w:=enters func141 rfl (by kernel_rfl)
theorem Ya:dV prog 87 3 3:=⟨by kernel_rfl⟩
def GL:Nat→List iY→Int
 | _,[]=>0
 | i,x :: r=>if x.fmt < 1∨7 < x.fmt then 3 else if x.start < 0∨32767 < x.start then 2 else if C8 x.zU ((i+1:Nat):Int)≠0 then C8 x.zU ((i+1:Nat):Int) else if x.restart < 0∨(i:Int) < x.restart then 5 else GL (i+1) r
def eX (l:List iY):Int:=if l.length=0 then 11 else if 9 < l.length then 9 else GL 0 l
theorem jM {l:List iY} {k:Nat} (h:k < l.length):GL k (l.drop k)=if l[k].fmt < 1∨7 < l[k].fmt then 3 else if l[k].start < 0∨32767 < l[k].start then 2 else if C8 l[k].zU ((k+1:Nat):Int)≠0 then C8 l[k].zU ((k+1:Nat):Int) else if l[k].restart < 0∨(k:Int) < l[k].restart then 5 else GL (k+1) (l.drop (k+1)):=by
 rw [nD h,GL]
theorem WZ (G:GH) (w0:World) (hG:Hold G w0) (l:List iY) (v:ak) (hv:au G (.sl 4 (l.map iY.dat)) v) (ht:∀ x∈l,x.zU.size < 4611686018427387904) :
  Calls prog 75 #[v] w0 (bJ w0 G fun u G'=>u=vi (eX l)):=by
 obtain ⟨A,c,rfl,hc1,hc2,hg⟩:=hv.slice;have hml:maxLen=9223372036854775807:=rfl;rw [bV] at *;refine eN [(0,_)] func75 rfl ntmps75 rfl rfl hG ?_;intro a H;refine kP H (SR fun _ K1=>aj K1 rfl (SQ fun _ K2=>SB (SR fun _ K3=>Rm rfl (Rl ru rfl (Rc rfl (aj K3 rfl (Cd rfl ?_ ?_))))))) <;> clear H K1 K3
 ·intro h6 a H
  try have p6:=dT h6
  refine kP H (SR fun _ K4=>aj K4 rfl ?_);clear H K4;intro a H;refine lr H results75 rfl ?_
  first
   | exact H.rt (aB vi (by rw [eX,av (by omega)]))
   | exact H.rt (aB vi (by rw [eX,ah (by omega),av (by omega)]))
   | exact H.rt (aB vi (by rw [eX,ah (by omega),ah (by omega),← he,jM hk2,av (by omega)]))
   | exact H.rt (aB vi (by rw [eX,ah (by omega),ah (by omega),← he,jM hk2,ah (by omega),av (by omega)]))
   | exact H.rt (aB vi (by rw [eX,ah (by omega),ah (by omega),← he,jM hk2,ah (by omega),ah (by omega),av p45]))
   | exact H.rt (aB vi (by rw [eX,ah (by omega),ah (by omega),← he,jM hk2,ah (by omega),ah (by omega),ah p45,av (by omega)]))
   | exact H.rt (aB vi (by rw [eX,ah (by omega),ah (by omega),← he,iw (by omega)];rfl))
 intro h6 a H
 try have p6:=dF h6
 refine kP H (SR fun _ K5=>Rm rfl (Rl ru rfl (Rc rfl (aj K5 rfl (Cd rfl ?_ ?_))))) <;> clear H K5
 ·intro h10 a H
  try have jw:=dT h10
  refine kP H (SR fun _ K6=>aj K6 rfl ?_);clear H K6;intro a H;refine lr H results75 rfl ?_
  first
   | exact H.rt (aB vi (by rw [eX,av (by omega)]))
   | exact H.rt (aB vi (by rw [eX,ah (by omega),av (by omega)]))
   | exact H.rt (aB vi (by rw [eX,ah (by omega),ah (by omega),← he,jM hk2,av (by omega)]))
   | exact H.rt (aB vi (by rw [eX,ah (by omega),ah (by omega),← he,jM hk2,ah (by omega),av (by omega)]))
   | exact H.rt (aB vi (by rw [eX,ah (by omega),ah (by omega),← he,jM hk2,ah (by omega),ah (by omega),av p45]))
   | exact H.rt (aB vi (by rw [eX,ah (by omega),ah (by omega),← he,jM hk2,ah (by omega),ah (by omega),ah p45,av (by omega)]))
   | exact H.rt (aB vi (by rw [eX,ah (by omega),ah (by omega),← he,iw (by omega)];rfl))
 intro h10 a H
 try have jw:=dF h10
 refine kP H (Kc K2 (SQ fun _ K7=>SR fun _ K8=>Rm rfl (Rl ru rfl (Rm rfl (Kz K8 (SB ?_))))));clear H K2 K8;intro a H;skip;refine eH (ι:=Nat × GH) (Tc:=[(14,_),(15,_)]) (Lc:=[]) (fun gh=>[(16,vi gh.1)]) (fun gh=>[]) (fun gh=>gh.2) (fun gh=>gh.1≤l.length∧GL gh.1 (l.drop gh.1)=GL 0 l∧(∀ b o,G b=some o→gh.2 b=some o)) (fun gh=>l.length - gh.1) ((0,G)) (by exact (H).sub ⟨rfl,rfl,rfl,aC⟩) ?_ ?_
 ·exact ⟨iF _,rfl,fun _ _ h=>h⟩
 clear H;intro gh a w hI H;obtain ⟨k,g⟩:=gh;dsimp only at hI H;obtain ⟨hk,he,hgm⟩:=hI;dsimp only [lca,aV] at H;refine kP H (SR fun _ K9=>Rc rfl (Kz K9 (SQ fun _ aT=>Cd rfl ?_ ?_))) <;> clear H K9
 ·intro bX a H
  try have kQ:=dT bX
  have hk2:k < l.length:=by omega
  obtain ⟨b,o,cs,rfl,hcl,hrow,hr⟩:=hg k l[k].dat (by simp [hk2]);obtain rfl:=Pq hr;refine kP H (Kc aT (SQ fun _ bB=>SB (SR fun _ bC=>Rm rfl (Ri ru xu rfl rfl ?_))));clear H aT;intro a H;refine aW xu (cs:=l[k].cells) H wn rfl rfl (fun j v hj=>H.hp.aF (ay hgm (hrow j v hj))) rfl ?_;clear H;intro a H;refine dU xu H wn rfl ?_;clear H;intro b4 a w hb4 H;refine kH H (Ra rfl ?_);clear H;intro a H;refine bN xu 0 (vs:=[_,_,_,_]) _ H wn rfl rfl rfl rfl rfl rfl rfl rfl ?_;clear H;intro w H;dsimp only [List.set,setRow] at H;refine bC _ _ ?_;clear bC;refine kP H (SQ fun _ bK=>SB (SR fun _ bP=>bg X8 aD 0 rfl rfl (Rc rfl (Rm rfl (Sp 25 rfl ?_ ?_))))) <;> clear H
  ·intro gP a H
   try have p25:=dT gP
   refine kH H (aQ gP rfl (Pt gP rfl (aj bP rfl (Ct rfl rfl (SR fun _ dx=>aj dx rfl ?_)))));clear H bP dx;intro a H;refine lr H results75 rfl ?_
   first
    | exact H.rt (aB vi (by rw [eX,av (by omega)]))
    | exact H.rt (aB vi (by rw [eX,ah (by omega),av (by omega)]))
    | exact H.rt (aB vi (by rw [eX,ah (by omega),ah (by omega),← he,jM hk2,av (by omega)]))
    | exact H.rt (aB vi (by rw [eX,ah (by omega),ah (by omega),← he,jM hk2,ah (by omega),av (by omega)]))
    | exact H.rt (aB vi (by rw [eX,ah (by omega),ah (by omega),← he,jM hk2,ah (by omega),ah (by omega),av p45]))
    | exact H.rt (aB vi (by rw [eX,ah (by omega),ah (by omega),← he,jM hk2,ah (by omega),ah (by omega),ah p45,av (by omega)]))
    | exact H.rt (aB vi (by rw [eX,ah (by omega),ah (by omega),← he,iw (by omega)];rfl))
  intro gP a H
  try have p25:=dF gP
  refine kH H (YF X8 gP rfl (YO aD 0 gP rfl (YC gP rfl (Pf gP rfl (aj bP rfl (Cd rfl ?_ ?_)))))) <;> clear H bP
  ·intro h21 a H
   try have oM:=dT h21
   refine kP H (SR fun _ dP=>aj dP rfl ?_);clear H dP;intro a H;refine lr H results75 rfl ?_
   first
    | exact H.rt (aB vi (by rw [eX,av (by omega)]))
    | exact H.rt (aB vi (by rw [eX,ah (by omega),av (by omega)]))
    | exact H.rt (aB vi (by rw [eX,ah (by omega),ah (by omega),← he,jM hk2,av (by omega)]))
    | exact H.rt (aB vi (by rw [eX,ah (by omega),ah (by omega),← he,jM hk2,ah (by omega),av (by omega)]))
    | exact H.rt (aB vi (by rw [eX,ah (by omega),ah (by omega),← he,jM hk2,ah (by omega),ah (by omega),av p45]))
    | exact H.rt (aB vi (by rw [eX,ah (by omega),ah (by omega),← he,jM hk2,ah (by omega),ah (by omega),ah p45,av (by omega)]))
    | exact H.rt (aB vi (by rw [eX,ah (by omega),ah (by omega),← he,iw (by omega)];rfl))
  intro h21 a H
  try have oM:=dF h21
  refine kP H (SR fun _ dB=>bg X9 aD 0 rfl rfl (Rc rfl (Rm rfl (Sp 34 rfl ?_ ?_)))) <;> clear H
  ·intro fD a H
   try have p34:=dT fD
   refine kH H (aQ fD rfl (Pt fD rfl (aj dB rfl (Ct rfl rfl (SR fun _ dY=>aj dY rfl ?_)))));clear H dB dY;intro a H;refine lr H results75 rfl ?_
   first
    | exact H.rt (aB vi (by rw [eX,av (by omega)]))
    | exact H.rt (aB vi (by rw [eX,ah (by omega),av (by omega)]))
    | exact H.rt (aB vi (by rw [eX,ah (by omega),ah (by omega),← he,jM hk2,av (by omega)]))
    | exact H.rt (aB vi (by rw [eX,ah (by omega),ah (by omega),← he,jM hk2,ah (by omega),av (by omega)]))
    | exact H.rt (aB vi (by rw [eX,ah (by omega),ah (by omega),← he,jM hk2,ah (by omega),ah (by omega),av p45]))
    | exact H.rt (aB vi (by rw [eX,ah (by omega),ah (by omega),← he,jM hk2,ah (by omega),ah (by omega),ah p45,av (by omega)]))
    | exact H.rt (aB vi (by rw [eX,ah (by omega),ah (by omega),← he,iw (by omega)];rfl))
  intro fD a H
  try have p34:=dF fD
  refine kH H (YF X9 fD rfl (YO aD 0 fD rfl (YC fD rfl (Pf fD rfl (aj dB rfl (Cd rfl ?_ ?_)))))) <;> clear H dB
  ·intro jF a H
   try have p30:=dT jF
   refine kP H (SR fun _ eP=>aj eP rfl ?_);clear H eP;intro a H;refine lr H results75 rfl ?_
   first
    | exact H.rt (aB vi (by rw [eX,av (by omega)]))
    | exact H.rt (aB vi (by rw [eX,ah (by omega),av (by omega)]))
    | exact H.rt (aB vi (by rw [eX,ah (by omega),ah (by omega),← he,jM hk2,av (by omega)]))
    | exact H.rt (aB vi (by rw [eX,ah (by omega),ah (by omega),← he,jM hk2,ah (by omega),av (by omega)]))
    | exact H.rt (aB vi (by rw [eX,ah (by omega),ah (by omega),← he,jM hk2,ah (by omega),ah (by omega),av p45]))
    | exact H.rt (aB vi (by rw [eX,ah (by omega),ah (by omega),← he,jM hk2,ah (by omega),ah (by omega),ah p45,av (by omega)]))
    | exact H.rt (aB vi (by rw [eX,ah (by omega),ah (by omega),← he,iw (by omega)];rfl))
  intro jF a H
  try have p30:=dF jF
  refine kP H (Kc bK (SQ fun _ dZ=>SR fun _ eU=>bg aht gD 0 rfl rfl (Rm rfl (Rd rfl ?_))));clear H bK;intro a H;rw [show ((k:Int)+1)=((k+1:Nat):Int) from rfl] at H;refine s_call aeW H wn rfl (akS _ _ H.ro l[k].zU ((k+1:Nat):Int) (ht _ (jW hk2))) rfl ?_;clear H;rintro v43 Dr a w rfl qb H;refine kH H (aj eU rfl (SR fun _ fK=>Rm rfl (Rc rfl (Kz fK (Cd rfl ?_ ?_))))) <;> clear H eU fK
  ·intro h45 a H
   try have p45:=dT h45
   refine kP H (SR fun _ gM=>Rm rfl (aj gM rfl ?_));clear H gM;intro a H;refine lr H results75 rfl ?_
   first
    | exact H.rt (aB vi (by rw [eX,av (by omega)]))
    | exact H.rt (aB vi (by rw [eX,ah (by omega),av (by omega)]))
    | exact H.rt (aB vi (by rw [eX,ah (by omega),ah (by omega),← he,jM hk2,av (by omega)]))
    | exact H.rt (aB vi (by rw [eX,ah (by omega),ah (by omega),← he,jM hk2,ah (by omega),av (by omega)]))
    | exact H.rt (aB vi (by rw [eX,ah (by omega),ah (by omega),← he,jM hk2,ah (by omega),ah (by omega),av p45]))
    | exact H.rt (aB vi (by rw [eX,ah (by omega),ah (by omega),← he,jM hk2,ah (by omega),ah (by omega),ah p45,av (by omega)]))
    | exact H.rt (aB vi (by rw [eX,ah (by omega),ah (by omega),← he,iw (by omega)];rfl))
  intro h45 a H
  try have p45:=dF h45
  refine kP H (Kc dZ (SR fun _ iC=>bg Ya aD 0 rfl rfl (Rc rfl (Rm rfl (Sp 50 rfl ?_ ?_))))) <;> clear H dZ
  ·intro h50 a H
   try have p50:=dT h50
   refine kH H (aN h50 rfl (aN h50 rfl (Pt h50 rfl (Kz iC (Ct rfl rfl (SR fun _ gu=>aj gu rfl ?_))))));clear H iC gu;intro a H;refine lr H results75 rfl ?_
   first
    | exact H.rt (aB vi (by rw [eX,av (by omega)]))
    | exact H.rt (aB vi (by rw [eX,ah (by omega),av (by omega)]))
    | exact H.rt (aB vi (by rw [eX,ah (by omega),ah (by omega),← he,jM hk2,av (by omega)]))
    | exact H.rt (aB vi (by rw [eX,ah (by omega),ah (by omega),← he,jM hk2,ah (by omega),av (by omega)]))
    | exact H.rt (aB vi (by rw [eX,ah (by omega),ah (by omega),← he,jM hk2,ah (by omega),ah (by omega),av p45]))
    | exact H.rt (aB vi (by rw [eX,ah (by omega),ah (by omega),← he,jM hk2,ah (by omega),ah (by omega),ah p45,av (by omega)]))
    | exact H.rt (aB vi (by rw [eX,ah (by omega),ah (by omega),← he,iw (by omega)];rfl))
  intro h50 a H
  try have p50:=dF h50
  refine kH H (YF Ya h50 rfl (YO aD 0 h50 rfl (YM h50 rfl (YC h50 rfl (Pf h50 rfl (Kz iC (Cd rfl ?_ ?_))))))) <;> clear H iC
  ·intro nP a H
   try have p55:=dT nP
   refine kP H (SR fun _ iX=>aj iX rfl ?_);clear H iX;intro a H;refine lr H results75 rfl ?_
   first
    | exact H.rt (aB vi (by rw [eX,av (by omega)]))
    | exact H.rt (aB vi (by rw [eX,ah (by omega),av (by omega)]))
    | exact H.rt (aB vi (by rw [eX,ah (by omega),ah (by omega),← he,jM hk2,av (by omega)]))
    | exact H.rt (aB vi (by rw [eX,ah (by omega),ah (by omega),← he,jM hk2,ah (by omega),av (by omega)]))
    | exact H.rt (aB vi (by rw [eX,ah (by omega),ah (by omega),← he,jM hk2,ah (by omega),ah (by omega),av p45]))
    | exact H.rt (aB vi (by rw [eX,ah (by omega),ah (by omega),← he,jM hk2,ah (by omega),ah (by omega),ah p45,av (by omega)]))
    | exact H.rt (aB vi (by rw [eX,ah (by omega),ah (by omega),← he,iw (by omega)];rfl))
  intro nP a H
  try have p55:=dF nP
  refine kP H (Kc bB (SC (Rd rfl (Rm rfl ?_))));clear H bB;intro a H;refine aH ?_;refine dK ((k+1,Dr)) (by exact (H.dS (Pl:=[_]) (dL:=[]) [] (by decide) rfl).sub ⟨rfl,rfl,rfl,aC⟩) ?_ ?_
  ·(try dsimp only);exact ⟨by omega,by rw [jM hk2,ah (by omega),ah (by omega),ah p45,ah (by omega)] at he;exact he,fun b o h=>qb b o (hgm b o h)⟩
  first|omega|(dsimp only;omega)
 intro bX a H
 try have kQ:=dF bX
 refine dW ?_;refine K7 _ _ ?_;clear K7;refine kP H (SR fun _ jo=>aj jo rfl ?_);clear H jo;intro a H;refine lr H results75 rfl ?_
 first
  | exact H.rt (aB vi (by rw [eX,av (by omega)]))
  | exact H.rt (aB vi (by rw [eX,ah (by omega),av (by omega)]))
  | exact H.rt (aB vi (by rw [eX,ah (by omega),ah (by omega),← he,jM hk2,av (by omega)]))
  | exact H.rt (aB vi (by rw [eX,ah (by omega),ah (by omega),← he,jM hk2,ah (by omega),av (by omega)]))
  | exact H.rt (aB vi (by rw [eX,ah (by omega),ah (by omega),← he,jM hk2,ah (by omega),ah (by omega),av p45]))
  | exact H.rt (aB vi (by rw [eX,ah (by omega),ah (by omega),← he,jM hk2,ah (by omega),ah (by omega),ah p45,av (by omega)]))
  | exact H.rt (aB vi (by rw [eX,ah (by omega),ah (by omega),← he,iw (by omega)];rfl))
end
section
open Go.RowKit
theorem kR:Ty prog 32 1 24 [.slice none 0 0] false:=⟨by kernel_rfl,by kernel_rfl⟩
theorem jE:prog.underlying 32=some (.slice 84):=by kernel_rfl
theorem jR:Ty prog 84 2 32 [.int .i64 0,.slice none 0 0] true:=⟨by kernel_rfl,by kernel_rfl⟩
theorem zl:dV prog 84 0 0:=⟨by kernel_rfl⟩
theorem yI:Ty prog 82 1 24 [.slice none 0 0] false:=⟨by kernel_rfl,by kernel_rfl⟩
theorem QY:∀ args w,(callFunc 125 args).run prog w=.ok (.enter 125 args) w:=enters func125 rfl (by kernel_rfl)
theorem xR:dV prog 84 1 1:=⟨by kernel_rfl⟩
theorem XI:∀ args w,(callFunc 75 args).run prog w=.ok (.enter 75 args) w:=enters func75 rfl (by kernel_rfl)
theorem Jj:∀ args w,(callFunc 123 args).run prog w=.ok (.enter 123 args) w:=enters func123 rfl (by kernel_rfl)
theorem aff:∀ args w,(callFunc 159 args).run prog w=.ok (.enter 159 args) w:=enters func159 rfl (by kernel_rfl)
theorem afe:∀ args w,(callFunc 158 args).run prog w=.ok (.enter 158 args) w:=enters func158 rfl (by kernel_rfl)
structure dH where
 id:Int
 levels:List iY
def dH.dat (x:dH):List Dat:=[li x.id,.sl 4 (x.levels.map iY.dat)]
structure fq where
 id:Int
 parent:Int
 author:ByteArray
 time:Int
 text:ByteArray
 done:Bool
def fq.dat (x:fq):List Dat:=[li x.id,li x.parent,.lf (.string x.author),li x.time,.lf (.string x.text),.lf (.bool x.done)]
abbrev fq.cells (x:fq):List ak:=[vi x.id,vi x.parent,.string x.author,vi x.time,.string x.text,.bool x.done]
structure iE where
 name:ByteArray
 value:ByteArray
def iE.dat (x:iE):List Dat:=[.lf (.string x.name),.lf (.string x.value)]
abbrev iE.cells (x:iE):List ak:=[.string x.name,.string x.value]
theorem KI {G:GH} {x:fq} {cs:List ak} (h:bH G x.dat cs):cs=x.cells:=by
 simp only [fq.dat,bH,au] at h
 obtain ⟨_,_,rfl,⟨rfl,_⟩,_,_,rfl,⟨rfl,_⟩,_,_,rfl,⟨rfl,_⟩,_,_,rfl,⟨rfl,_⟩,_,_,rfl,⟨rfl,_⟩,_,_,rfl,⟨rfl,_⟩,rfl⟩:=h
 rfl
theorem Qg {G:GH} {x:iE} {cs:List ak} (h:bH G x.dat cs):cs=x.cells:=by
 simp only [iE.dat,bH,au] at h
 obtain ⟨_,_,rfl,⟨rfl,_⟩,_,_,rfl,⟨rfl,_⟩,rfl⟩:=h
 rfl
theorem Ik {G:GH} {l:List dH} {A:Option Addr} {n c k:Nat} (hv:au G (.sl 2 (l.map dH.dat)) (.slice A n c)) (hk:k < l.length):∃ b o B d,A=some ⟨b,o,none⟩∧(∀ j u,[vi l[k].id,.slice B l[k].levels.length d][j]?=some u→aF G b (o+k*2+j)=some u)∧au G (.sl 4 (l[k].levels.map iY.dat)) (.slice B l[k].levels.length d):=by
 obtain ⟨A',c',he,_,_,hg⟩:=hv.slice
 injection he with e1 e2 e3
 subst e1;obtain ⟨b,o,cs,h1,h2,h3,h4⟩:=hg k l[k].dat (by simp [hk])
 simp only [dH.dat,bH] at h4
 obtain ⟨v1,_,rfl,⟨rfl,-⟩,v2,_,rfl,hl,rfl⟩:∃ v vs,cs=v :: vs∧au G (li l[k].id) v∧∃ v2 vs2,vs=v2 :: vs2∧au G (.sl 4 (l[k].levels.map iY.dat)) v2∧vs2=[]:=h4;obtain ⟨B,d,rfl,-,-,-⟩:=hl.slice;rw [bV] at *;exact ⟨b,o,B,d,h1,h3,hl⟩
theorem akN {G:GH} {bl:Nat} {l:List dH} {A:Option Addr} {n c:Nat} (hb:aF G bl 0=some (.slice A n c)) (hv:au G (.sl 2 (l.map dH.dat)) (.slice A n c)):uY (.func (.func 159) #[] #[(aM bl 0)]) G l.length fun k=>(l[k]?.map dH.id).getD 0:=by
 intro k hk G1 w0 hm hG;refine mF (caps:=[(aM bl 0)]) aff ?_;replace hb:=ay hm hb
 obtain rfl:n=l.length:=by have:=hv.len;simpa using this
 obtain ⟨b,o,B,d,rfl,hrow,-⟩:=Ik (hv.mono hm) hk;have hq:=hrow 0 _ rfl;refine eN [(0,_),(1,_)] func159 rfl ntmps159 rfl rfl hG ?_;intro a H;refine kP H (SR fun _ K1=>aj K1 rfl (SR fun _ K2=>Rg kR rfl (by assumption) ?_));clear H K1;intro a H;refine kH H (Rm rfl (Ri jE jR rfl rfl (Rf zl rfl (Rg aD rfl (by assumption) ?_))));clear H;intro a H;exact kH H (aj K2 rfl (LR results159 rfl fun H=>H.rt (by dsimp only;rw [fT hk];rfl)))
def yx (l:List dH) (i:Nat):Int:=bT [kY (fun k=>(l[k]?.map dH.id).getD 0) i,eX ((l[i]?.map dH.levels).getD [])]
theorem akP {G:GH} {bl:Nat} {l:List dH} {A:Option Addr} {n c:Nat} (hb:aF G bl 0=some (.slice A n c)) (hv:au G (.sl 2 (l.map dH.dat)) (.slice A n c)) (hl:l.length≤4294967296) (ht:∀ x∈l,∀ y∈x.levels,y.zU.size < 4611686018427387904):uY (.func (.func 158) #[] #[(aM bl 0)]) G l.length (yx l):=by
 intro k hk G1 w0 hm hG;refine mF (caps:=[(aM bl 0)]) afe ?_;replace hb:=ay hm hb;replace hv:=hv.mono hm;have hcb:=akN hb hv
 obtain rfl:n=l.length:=by have:=hv.len;simpa using this
 obtain ⟨b,o,B,d,rfl,hrow,hlv⟩:=Ik hv hk;have hq:=hrow 1 _ rfl
 have he:yx l k=bT [kY (fun k=>(l[k]?.map dH.id).getD 0) k,eX l[k].levels]:=by unfold yx;rw [fT hk];rfl
 refine eN [(0,_),(1,_)] func158 rfl ntmps158 rfl rfl hG ?_;intro a H;refine kP H (SR fun _ K1=>aj K1 rfl (SQ fun _ K2=>?_));clear H K1;intro a H;have H:=H.sub (T':=[(0,_),(1,_)]) ⟨rfl,rfl,aC⟩;refine dI hmx [[],[],[0,1],[],[],[3,4],[3,4,5],(ra 3 4),(ra 0 8),(ra 0 9),(ra 0 10),(ra 0 11)] [9,10,11] (by kernel_rfl) [_,.func (.func 159) #[] #[(aM bl 0)],vi (kY (fun k=>(l[k]?.map dH.id).getD 0) k),_,_,_,_,_,vi (eX l[k].levels)] H (aG (Z0 rfl (Rm rfl)) ?_ ?_ (X0 rfl fun hG=>Rg kR rfl (ay hG hb)) (aG (Z0 rfl (Rm rfl)) (Z2 3 7 4 8 rfl (Ri jE jR rfl rfl)) (Z1 5 9 rfl (Rf xR rfl)) (X1 6 10 rfl fun hG=>Rg yI rfl (ay hG hq)) (aG ?_ (bY rfl) (bY rfl) (bY rfl) dD))) ?_
 ·refine yR rfl fun _ a w G1 hG HT H fin=>?_;refine qX H wn rfl rfl ?_;clear H;intro a H;exact fin H iJ rfl
 ·refine eu 0 4 1 5 rfl rfl fun _ a w G1 hG HT H fin=>?_;refine s_call QY H wn rfl (Uo _ _ H.ro k _ _ (by omega) (fun i hi=>(hcb.mono hG) i (by omega))) rfl ?_;clear H;rintro v6 G6 a w rfl fH H;exact fin H fH (rfl)
 ·refine dN 7 11 rfl rfl fun _ a w G1 hG HT H fin=>?_;refine s_call XI H wn rfl (WZ _ _ H.ro _ _ (hlv.mono hG) (ht _ (jW hk))) rfl ?_;clear H;rintro v12 Dp a w rfl tK H;exact fin H tK (rfl)
 clear H;intro a w G jY H hv;have H:=H.aZ (hv 2 6 rfl rfl) rfl;have H:=H.aZ (hv 8 12 rfl rfl) rfl;clear hv;refine jJ qZ iW [_,_] [_,_] H wn rfl rfl rfl rfl rfl (by intro i q h;match i,h with|0,h=>exact h|1,h=>exact h|n+2,h=>simp at h) rfl rfl ?_;clear H;intro b13 a w Jw H;obtain ⟨yO,nT,Jy,H⟩:=H.eG;refine s_call sj H wn rfl (sw _ _ H.ro _ _ (AQ Jy)) rfl ?_;clear H;rintro v14 _ a w ⟨rfl,rfl⟩ - H;refine kH H (Ra rfl ?_);clear H;intro a H;refine aH ⟨rfl,?_⟩;refine K2 _ _ ?_;clear K2;refine lr H results158 rfl ?_;exact H.rt (by rw [he])
def wF (l:List dH):Int:=bT [bQ (decide (64 < (l.length:Int))) 9,iI (yx l) (min l.length 64)]
theorem uY.le {fv:ak} {G:GH} {n m:Nat} {E:Nat→Int} (h:uY fv G n E) (hm:m≤n):uY fv G m E:=fun i hi=>h i (by omega)
theorem adt (G:GH) (w0:World) (hG:Hold G w0) (l:List dH) (v:ak) (hv:au G (.sl 2 (l.map dH.dat)) v) (hl:l.length≤4294967296) (ht:∀ x∈l,∀ y∈x.levels,y.zU.size < 4611686018427387904) :
  Calls prog 120 #[v] w0 (bJ w0 G fun u G'=>u=vi (wF l)):=by
 obtain ⟨A,c,rfl,hc1,hc2,-⟩:=hv.slice;rw [bV] at *;refine eN [(0,_)] func120 rfl ntmps120 rfl rfl hG ?_;intro a H;refine dw (fun _ K1=>?_);refine eD (cs:=[_]) H wn rfl rfl rfl ?_;clear H;intro b1 a w hb1 H;refine kH H (aj K1 rfl (SQ fun _ K2=>?_));clear H K1;intro a H;have H:=H.sub (T':=[(1,_)]) ⟨rfl,aC⟩;obtain ⟨Ga,hma,hb1',H⟩:=H.eG
 have hbl:aF Ga b1 0=some (.slice A l.length c):=by unfold aF;rw [hb1'];rfl
 have hcb:=akP hbl (hv.mono hma) hl ht;refine dI hmx [[],[0],[0,1],[0,1,2],[],[4],[4,5],[],(ra 0 8),(ra 0 9),(ra 0 10),(ra 0 11)] [9,10,11] (by kernel_rfl) [_,_,_,vi (bQ (decide (64 < (l.length:Int))) 9),_,_,vi ((min l.length 64:Nat):Int),.func (.func 158) #[] #[(aM b1 0)],vi (iI (yx l) (min l.length 64))] H (aG (X0 rfl fun hG=>Rg kR rfl (ay hG hbl)) (Z1 0 3 rfl (Rl jE rfl)) (Z1 1 4 rfl (Rc rfl)) ?_ (aG (X0 rfl fun hG=>Rg kR rfl (ay hG hbl)) (Z1 4 7 rfl (Rl jE rfl)) ?_ ?_ (aG ?_ (bY rfl) (bY rfl) (bY rfl) dD))) ?_
 ·refine dN 2 5 rfl rfl fun _ a w G1 hG HT H fin=>?_;refine s_call kD H wn rfl (kI _ _ H.ro _ 9) rfl ?_;clear H;rintro v6 G6 a w ⟨rfl,-⟩ fH H;exact fin H fH (rfl)
 ·refine dN 5 8 rfl rfl fun _ a w G1 hG HT H fin=>?_;refine PZ H wn rfl rfl rfl ?_;clear H;intro a H;exact fin H iJ (aB vi (by omega))
 ·refine yR rfl fun _ a w G1 hG HT H fin=>?_;refine qX H wn rfl rfl ?_;clear H;intro a H;exact fin H iJ rfl
 ·refine eu 6 9 7 10 rfl rfl fun _ a w G1 hG HT H fin=>?_;refine s_call Jj H wn rfl (KF _ _ H.ro (min l.length 64) (yx l) _ (by omega) ((hcb.mono hG).le (Nat.min_le_left _ _))) rfl ?_;clear H;rintro v11 wh a w rfl qQ H;exact fin H qQ (rfl)
 clear H;intro a w G jY H hv;have H:=H.aZ (hv 3 6 rfl rfl) rfl;have H:=H.aZ (hv 8 11 rfl rfl) rfl;clear hv;refine jJ qZ iW [_,_] [_,_] H wn rfl rfl rfl rfl rfl (by intro i q h;match i,h with|0,h=>exact h|1,h=>exact h|n+2,h=>simp at h) rfl rfl ?_;clear H;intro b12 a w Fg H;obtain ⟨Dp,BA,Ht,H⟩:=H.eG;refine s_call sj H wn rfl (sw _ _ H.ro _ _ (AQ Ht)) rfl ?_;clear H;rintro v13 _ a w ⟨rfl,rfl⟩ - H;refine kH H (Ra rfl ?_);clear H;intro a H;refine aH ⟨rfl,?_⟩;refine K2 _ _ ?_;clear K2;refine lr H results120 rfl ?_;exact H.rt rfl
end
section
open Go.RowKit
theorem ko:prog.underlying 31=some (.slice 159):=by kernel_rfl
theorem iR:Ty prog 159 6 72 [.int .i64 0,.int .i64 0,.string ⟨#[]⟩,.int .i64 0,.int .i64 0,.slice none 0 0] true:=⟨by kernel_rfl,by kernel_rfl⟩
theorem wH:dV prog 159 1 1:=⟨by kernel_rfl⟩
theorem EX:dV prog 159 2 2:=⟨by kernel_rfl⟩
theorem uK:dV prog 159 0 0:=⟨by kernel_rfl⟩
theorem Xy:∀ args w,(callFunc 186 args).run prog w=.ok (.enter 186 args) w:=enters func186 rfl (by kernel_rfl)
theorem afp:∀ args w,(callFunc 172 args).run prog w=.ok (.enter 172 args) w:=enters func172 rfl (by kernel_rfl)
theorem afD:∀ args w,(callFunc 187 args).run prog w=.ok (.enter 187 args) w:=enters func187 rfl (by kernel_rfl)
theorem afE:∀ args w,(callFunc 188 args).run prog w=.ok (.enter 188 args) w:=enters func188 rfl (by kernel_rfl)
structure bL where
 id:Int
 kind:Int
 name:ByteArray
 base:Int
 next:Int
 props:List gV
def bL.dat (x:bL):List Dat:=[li x.id,li x.kind,.lf (.string x.name),li x.base,li x.next,.sl 2 (x.props.map gV.dat)]
theorem MV {G:GH} {x:bL} {cs:List ak} (h:bH G x.dat cs):∃ A c,cs=[vi x.id,vi x.kind,.string x.name,vi x.base,vi x.next,.slice A x.props.length c]∧au G (.sl 2 (x.props.map gV.dat)) (.slice A x.props.length c):=by
 simp only [bL.dat,bH] at h
 obtain ⟨v1,_,rfl,h1,v2,_,rfl,h2,v3,_,rfl,h3,v4,_,rfl,h4,v5,_,rfl,h5,v6,_,rfl,h6,rfl⟩:=h
 simp only [au] at h1 h2 h3 h4 h5
 obtain ⟨rfl,-⟩:=h1;obtain ⟨rfl,-⟩:=h2;obtain ⟨rfl,-⟩:=h3;obtain ⟨rfl,-⟩:=h4;obtain ⟨rfl,-⟩:=h5;obtain ⟨A,c,rfl,-,-,-⟩:=h6.slice;rw [bV] at *;exact ⟨A,c,rfl,h6⟩
theorem BZ {G:GH} {l:List bL} {A:Option Addr} {n c k:Nat} (hv:au G (.sl 6 (l.map bL.dat)) (.slice A n c)) (hk:k < l.length):∃ b o pA pc,A=some ⟨b,o,none⟩∧(∀ j u,[vi l[k].id,vi l[k].kind,.string l[k].name,vi l[k].base,vi l[k].next,.slice pA l[k].props.length pc][j]?=some u→aF G b (o+k*6+j)=some u)∧au G (.sl 2 (l[k].props.map gV.dat)) (.slice pA l[k].props.length pc) ∧
  bH G l[k].dat [vi l[k].id,vi l[k].kind,.string l[k].name,vi l[k].base,vi l[k].next,.slice pA l[k].props.length pc]:=by
 obtain ⟨A',c',he,_,_,hg⟩:=hv.slice
 injection he with e1 e2 e3
 subst e1;obtain ⟨b,o,cs,h1,h2,h3,h4⟩:=hg k l[k].dat (by simp [hk]);obtain ⟨pA,pc,rfl,hp⟩:=MV h4;exact ⟨b,o,pA,pc,h1,h3,hp,h4⟩
def okB (x:Int):Bool:=decide (32≤x∧x≤126)
def Ip (s:ByteArray) (k:Nat):Bool:=(List.range k).all fun i=>okB (ji s i)
def pE (s:ByteArray):Bool:=decide (s.size≠0∧s.size≤40∧ji s 0≠32∧ji s (s.size - 1)≠32) && Ip s s.size
theorem ale (s:ByteArray) (k:Nat):Ip s (k+1)=(Ip s k && okB (ji s k)):=by simp [Ip,List.range_succ]
theorem Iq {s:ByteArray} {k:Nat} (hk:k < s.size) (h:okB (ji s k)=false):Ip s s.size=false:=by
 rw [Ip,List.all_eq_false];exact ⟨k,by simpa using hk,by simp [h]⟩
theorem O7 (G:GH) (w0:World) (hG:Hold G w0) (s:ByteArray) (hs:s.size≤4611686018427387904):Calls prog 169 #[.string s] w0 (bJ w0 G fun u G'=>u=.bool (pE s)):=by
 refine eN [(0,_)] func169 rfl ntmps169 rfl rfl hG ?_;intro a H;refine kP H (SR fun _ K1=>aj K1 rfl (SQ fun _ K2=>SR fun _ K3=>Rm rfl (Rv iD rfl (Rc rfl (Rm rfl (Sp 7 rfl ?_ ?_)))))) <;> clear H K1
 ·intro h7 a H
  try have p7:=dT h7
  refine kH H (aQ h7 rfl (Pt h7 rfl (Rm rfl (aQ rfl rfl (Pt rfl rfl (Rm rfl (aQ rfl rfl (aQ rfl rfl (Pt rfl rfl (Kz K3 (Ct rfl rfl (SR fun _ K4=>aj K4 rfl ?_))))))))))));clear H K3 K4;intro a H;refine lr H results169 rfl ?_
  first
   | exact H.rt (aL (by rw [pE,fZ (by omega),uw]))
   | exact H.rt (aL (by rw [pE,gW (by omega),show s.size=k by omega,hno];rfl))
   | exact H.rt (aL (by rw [pE,Iq (k:=k) (by omega) (fZ (by omega)),Bool.and_false]))
 intro h7 a H
 try have p7:=dF h7
 refine kH H (YM h7 rfl ?_);clear H;intro a H;refine BU iD H (wg H rfl rfl h7) rfl rfl ?_;clear H;intro a H;refine kH H (YC h7 rfl (Pf h7 rfl (Rm rfl (Sp 12 rfl ?_ ?_)))) <;> clear H
 ·intro h12 a H
  try have pF:=dT h12
  refine kH H (aQ h12 rfl (Pt h12 rfl (Rm rfl (aQ rfl rfl (aQ rfl rfl (Pt rfl rfl (Kz K3 (Ct rfl rfl (SR fun _ K5=>aj K5 rfl ?_)))))))));clear H K3 K5;intro a H;refine lr H results169 rfl ?_
  first
   | exact H.rt (aL (by rw [pE,fZ (by omega),uw]))
   | exact H.rt (aL (by rw [pE,gW (by omega),show s.size=k by omega,hno];rfl))
   | exact H.rt (aL (by rw [pE,Iq (k:=k) (by omega) (fZ (by omega)),Bool.and_false]))
 intro h12 a H
 try have pF:=dF h12
 refine kH H (YM h12 rfl ?_);clear H;intro a H;refine qC 0 iD H (wg H rfl rfl h12) rfl rfl rfl (by omega) rfl ?_;clear H;intro a H;rw [← oh] at H;refine kH H (YC h12 rfl (Pf h12 rfl (Rm rfl (Sp 17 rfl ?_ ?_)))) <;> clear H
 ·intro bX a H
  try have kQ:=dT bX
  refine kH H (aQ bX rfl (aQ bX rfl (Pt bX rfl (Kz K3 (Ct rfl rfl (SR fun _ K6=>aj K6 rfl ?_))))));clear H K3 K6;intro a H;refine lr H results169 rfl ?_
  first
   | exact H.rt (aL (by rw [pE,fZ (by omega),uw]))
   | exact H.rt (aL (by rw [pE,gW (by omega),show s.size=k by omega,hno];rfl))
   | exact H.rt (aL (by rw [pE,Iq (k:=k) (by omega) (fZ (by omega)),Bool.and_false]))
 intro bX a H
 try have kQ:=dF bX
 refine kH H (YM bX rfl (YM bX rfl ?_));clear H;intro a H;refine BU iD H (wg H rfl rfl bX) rfl rfl ?_;clear H;intro a H;refine nU _ H (wg H rfl rfl bX) rfl rfl rfl (by omega) (by omega) rfl ?_;clear H;intro a H;refine qC (s.size - 1) iD H (wg H rfl rfl bX) rfl rfl (by omega) (by omega) rfl ?_;clear H;intro a H;rw [← oh] at H;refine kH H (YC bX rfl (Pf bX rfl (Kz K3 (Cd rfl ?_ ?_)))) <;> clear H K3
 ·intro bE a H
  try have jP:=dT bE
  refine kP H (SR fun _ K7=>aj K7 rfl ?_);clear H K7;intro a H;refine lr H results169 rfl ?_
  first
   | exact H.rt (aL (by rw [pE,fZ (by omega),uw]))
   | exact H.rt (aL (by rw [pE,gW (by omega),show s.size=k by omega,hno];rfl))
   | exact H.rt (aL (by rw [pE,Iq (k:=k) (by omega) (fZ (by omega)),Bool.and_false]))
 intro bE a H
 try have jP:=dF bE
 refine kP H (Kc K2 (SQ fun _ K8=>SR fun _ K9=>Rm rfl (Rv iD rfl (Rm rfl (Kz K9 (SB ?_))))));clear H K2 K9;intro a H;skip;refine eH (ι:=Nat) (Tc:=[(0,_),(26,_)]) (Lc:=[]) (fun gh=>[(27,vi gh)]) (fun gh=>[]) (fun gh=>G) (fun gh=>gh≤s.size∧Ip s gh=true) (fun gh=>s.size - gh) (0) (by exact (H).sub ⟨rfl,rfl,rfl,aC⟩) ?_ ?_
 ·exact ⟨iF _,rfl⟩
 clear H;intro gh a w hI H;obtain ⟨k,hgh⟩:∃ x,x=gh:=⟨_,rfl⟩;subst hgh;obtain ⟨hk,hno⟩:=hI;dsimp only [lca,aV] at H;refine kP H (SR fun _ aT=>Rc rfl (Kz aT (SQ fun _ bB=>Cd rfl ?_ ?_))) <;> clear H aT
 ·intro gQ a H
  try have p28:=dT gQ
  refine kP H (Kc bB (SQ fun _ bC=>SB (SR fun _ bK=>Rm rfl (aj bK rfl (SR fun _ bP=>Rm rfl (Rm rfl ?_))))));clear H bB bK;intro a H;refine qC k iD H wn rfl rfl rfl (by omega) rfl ?_;clear H;intro a H;rw [← oh] at H;refine kH H (Rc rfl (Rm rfl (Sp 34 rfl ?_ ?_))) <;> clear H
  ·intro fD a H
   try have p34:=dT fD
   refine kH H (aN fD rfl (aN fD rfl (Pt fD rfl (Kz bP (Ct rfl rfl (SR fun _ dx=>aj dx rfl ?_))))));clear H bP dx;intro a H;refine lr H results169 rfl ?_
   first
    | exact H.rt (aL (by rw [pE,fZ (by omega),uw]))
    | exact H.rt (aL (by rw [pE,gW (by omega),show s.size=k by omega,hno];rfl))
    | exact H.rt (aL (by rw [pE,Iq (k:=k) (by omega) (fZ (by omega)),Bool.and_false]))
  intro fD a H
  try have p34:=dF fD
  refine kH H (YM fD rfl (YM fD rfl ?_));clear H;intro a H;refine qC k iD H (wg H rfl rfl fD) rfl rfl rfl (by omega) rfl ?_;clear H;intro a H;rw [← oh] at H;refine kH H (YC fD rfl (Pf fD rfl (Kz bP (Cd rfl ?_ ?_)))) <;> clear H bP
  ·intro lT a H
   try have p39:=dT lT
   refine kP H (SR fun _ dP=>aj dP rfl ?_);clear H dP;intro a H;refine lr H results169 rfl ?_
   first
    | exact H.rt (aL (by rw [pE,fZ (by omega),uw]))
    | exact H.rt (aL (by rw [pE,gW (by omega),show s.size=k by omega,hno];rfl))
    | exact H.rt (aL (by rw [pE,Iq (k:=k) (by omega) (fZ (by omega)),Bool.and_false]))
  intro lT a H
  try have p39:=dF lT
  refine kP H (Kc bC (SC (Rd rfl (Rm rfl ?_))));clear H bC;intro a H;refine aH ?_;refine dK ((k+1)) (by exact (H).sub ⟨rfl,rfl,rfl,aC⟩) ?_ ?_
  ·exact ⟨by omega,by rw [ale,hno];simp [okB];omega⟩
  first|omega|(dsimp only;omega)
 intro gQ a H
 try have p28:=dF gQ
 refine dW ?_;refine K8 _ _ ?_;clear K8;refine kP H (SR fun _ dB=>aj dB rfl ?_);clear H dB;intro a H;refine lr H results169 rfl ?_
 first
  | exact H.rt (aL (by rw [pE,fZ (by omega),uw]))
  | exact H.rt (aL (by rw [pE,gW (by omega),show s.size=k by omega,hno];rfl))
  | exact H.rt (aL (by rw [pE,Iq (k:=k) (by omega) (fZ (by omega)),Bool.and_false]))
theorem ZQ (G:GH) (w0:World) (hG:Hold G w0) (l:List bL) (p:bL→Bool) (v fv:ak) (hv:au G (.sl 6 (l.map bL.dat)) v) (hf:∀ x∈l,wB fv G x.dat (p x)) :
  Calls prog 186 #[v,fv] w0 (bJ w0 G fun u G'=>u=vi (qV (l.findIdx? p))):=by
 obtain ⟨A,c,rfl,hc1,hc2,-⟩:=hv.slice;have hml:maxLen=9223372036854775807:=rfl;rw [bV] at *;refine eN [(0,_),(1,_)] func186 rfl ntmps186 rfl rfl hG ?_;intro a H;refine kP H (SR fun _ K1=>aj K1 rfl (SQ fun _ K2=>SR fun _ K3=>Rm rfl (Rl ko rfl (Rm rfl (Kz K3 (SB ?_))))));clear H K1 K3;intro a H;skip;refine eH (ι:=Nat × GH) (Tc:=[(0,_),(1,_),(7,_)]) (Lc:=[]) (fun gh=>[(8,vi gh.1)]) (fun gh=>[]) (fun gh=>gh.2) (fun gh=>gh.1≤l.length∧(l.take gh.1).findIdx? p=none∧(∀ b o,G b=some o→gh.2 b=some o)) (fun gh=>l.length - gh.1) ((0,G)) (by exact (H).sub ⟨rfl,rfl,rfl,rfl,aC⟩) ?_ ?_
 ·exact ⟨by omega,rfl,fun _ _ h=>h⟩
 clear H;intro gh a w hI H;obtain ⟨k,g⟩:=gh;dsimp only at hI H;obtain ⟨hk,hno,hgm⟩:=hI;dsimp only [lca,aV] at H;refine kP H (SR fun _ K4=>Rc rfl (Kz K4 (SQ fun _ K5=>Cd rfl ?_ ?_))) <;> clear H K4
 ·intro h9 a H
  try have p9:=dT h9
  have hk2:k < l.length:=by omega
  obtain ⟨b,o,pA,pc,rfl,hrow,hp,hrep⟩:=BZ (hv.mono hgm) hk2;refine kP H (Kc K5 (SQ fun _ K6=>SB (SR fun _ K7=>Rm rfl (aj K7 rfl (SR fun _ K8=>Rm rfl (Rm rfl (Rm rfl (Ri ko iR rfl rfl ?_))))))));clear H K5 K7;intro a H;refine aW iR (cs:=[_,_,_,_,_,_]) H wn rfl rfl (fun j v hj=>H.hp.aF (hrow j v hj)) rfl ?_;clear H;intro a H;refine pI H wn rfl rfl (hf _ (jW hk2) _ _ _ hgm H.ro hrep) rfl ?_;clear H;rintro v16 yP a w rfl pY H;refine K8 _ _ ?_;clear K8;refine jX H rfl ?_ ?_
  ·intro h16
   try have p16:=dT h16
   refine kP H (SR fun _ K9=>Rm rfl (aj K9 rfl ?_));clear H K9;intro a H;refine lr H results186 rfl ?_
   first
    | exact H.rt (by rw [zK hk2 hno h16];rfl)
    | exact H.rt (by rw [show l.take k=l from iH (by omega)] at hno;rw [hno];rfl)
  intro h16
  try have p16:=dF h16
  refine kP H (Kc K6 (SC (Rd rfl (Rm rfl ?_))));clear H K6;intro a H;refine aH ?_;refine dK ((k+1,yP)) (by exact (H).sub ⟨rfl,rfl,rfl,rfl,aC⟩) ?_ ?_
  ·(try dsimp only);exact ⟨by omega,Ie hk2 hno h16,fun b o h=>pY b o (hgm b o h)⟩
  first|omega|(dsimp only;omega)
 intro h9 a H
 try have p9:=dF h9
 refine dW ?_;refine K2 _ _ ?_;clear K2;refine kP H (SR fun _ aT=>aj aT rfl ?_);clear H aT;intro a H;refine lr H results186 rfl ?_
 first
  | exact H.rt (by rw [zK hk2 hno h16];rfl)
  | exact H.rt (by rw [show l.take k=l from iH (by omega)] at hno;rw [hno];rfl)
def Mw (p q:ByteArray):Bool:=p.toList == q.toList
theorem ahv {G:GH} {bk bn:Nat} {kind:Int} {name:ByteArray} (hk:aF G bk 0=some (vi kind)) (hn:aF G bn 0=some (.string name)) (x:bL):wB (.func (.func 187) #[] #[(aM bk 0),(aM bn 0)]) G x.dat (decide (x.kind=kind) && Mw x.name name):=by
 intro G1 w0 cs hm hG hr;refine mF (caps:=[(aM bk 0),(aM bn 0)]) afD ?_;obtain ⟨pA,pc,rfl,-⟩:=MV hr;replace hk:=ay hm hk;replace hn:=ay hm hn;refine eN [(0,_),(1,_),(2,_)] func187 rfl ntmps187 rfl rfl hG ?_;intro a H;refine dw (fun _ K1=>?_);refine eD (cs:=[_,_,_,_,_,_]) H wn rfl rfl rfl ?_;clear H;intro b3 a w hb3 H;refine kH H (aj K1 rfl (SR fun _ K2=>bg wH aD 0 rfl rfl (Rg aD rfl (by assumption) ?_)));clear H K1;intro a H;refine kH H (Rc rfl (Rm rfl (Sp 9 rfl ?_ ?_))) <;> clear H
 ·intro h9 a H
  try have p9:=dT h9
  refine kH H (YF EX h9 rfl (YO gD 0 h9 rfl (YR gD h9 rfl (by assumption) ?_)));clear H;intro a H;refine Eo H (wg H rfl rfl h9) rfl rfl rfl ?_;clear H;intro a H;exact kH H (Pt h9 rfl (aj K2 rfl (LR results187 rfl fun H=>H.rt (by unfold Mw;simp_all))))
 intro h9 a H
 try have p9:=dF h9
 exact kH H (aN h9 rfl (aN h9 rfl (Pf h9 rfl (aj K2 rfl (LR results187 rfl fun H=>H.rt (by unfold Mw;simp_all))))))
theorem ahu {G:GH} {bi:Nat} {id:Int} (hb:aF G bi 0=some (vi id)) (x:bL):wB (.func (.func 188) #[] #[(aM bi 0)]) G x.dat (decide (x.id=id)):=by
 intro G1 w0 cs hm hG hr;refine mF (caps:=[(aM bi 0)]) afE ?_;obtain ⟨pA,pc,rfl,-⟩:=MV hr;replace hb:=ay hm hb;refine eN [(0,_),(1,_)] func188 rfl ntmps188 rfl rfl hG ?_;intro a H;refine dw (fun _ K1=>?_);refine eD (cs:=[_,_,_,_,_,_]) H wn rfl rfl rfl ?_;clear H;intro b2 a w hb2 H;refine kH H (aj K1 rfl (SR fun _ K2=>bg uK aD 0 rfl rfl (Rg aD rfl (by assumption) ?_)));clear H K1;intro a H;exact kH H (Rc rfl (aj K2 rfl (LR results188 rfl fun H=>H.rt rfl)))
def EZ (l:List bL) (kind:Int) (name:ByteArray):Option Nat:=l.findIdx? fun x=>decide (x.kind=kind) && Mw x.name name
def N9 (l:List bL) (id:Int):Option Nat:=l.findIdx? fun x=>decide (x.id=id)
theorem ZV (o:Option Nat):decide (0≤qV o)=o.isSome:=by cases o <;> simp [qV]
theorem ahw (G:GH) (w0:World) (hG:Hold G w0) (l:List bL) (kind:Int) (name:ByteArray) (v:ak) (hv:au G (.sl 6 (l.map bL.dat)) v) :
  Calls prog 170 #[v,vi kind,.string name] w0 (bJ w0 G fun u G'=>u=.tuple #[vi (max (qV (EZ l kind name)) 0),.bool (EZ l kind name).isSome]):=by
 obtain ⟨A,c,rfl,hc1,hc2,-⟩:=hv.slice;rw [bV] at *;refine eN [(0,_),(1,_),(2,_)] func170 rfl ntmps170 rfl rfl hG ?_;intro a H;refine dw (fun _ K1=>?_);refine eD (cs:=[_]) H wn rfl rfl rfl ?_;clear H;intro b4 a w hb4 H;refine eD (cs:=[_]) H wn rfl rfl rfl ?_;clear H;intro b5 a w hb5 H;refine kH H (Ra rfl (aj K1 rfl (SQ fun _ K2=>?_)));clear H K1;intro a H;obtain ⟨Ga,hma,zC,H⟩:=H.eG;obtain ⟨Gb,hmb,Bv,H⟩:=H.eG
 have q4:aF Gb b4 0=some (vi kind):=by unfold aF;rw [Bv];rfl
 have q5:aF Gb b5 0=some (.string name):=by unfold aF;rw [hmb _ _ zC];rfl
 refine kP H (SC (Rm rfl ?_));clear H;intro a H;refine qX H wn rfl rfl ?_;clear H;intro a H;refine s_call Xy H wn rfl (ZQ _ _ H.ro l (fun x=>decide (x.kind=kind) && Mw x.name name) _ _ ((hv.mono hma).mono hmb) (fun x _=>ahv q4 q5 x)) rfl ?_;clear H;rintro v11 wh a w rfl HY H;refine kH H (aO K2 rfl (SR fun _ K3=>Rm rfl ?_));clear H K2;intro a H;refine FD H wn rfl rfl rfl ?_;clear H;intro a H;refine kH H (Rm rfl (Rc rfl (Ra rfl (aj K3 rfl ?_))));clear H K3;intro a H;refine dR ?_;refine (iB H results170 (.cons (bM H rfl) (.cons (bM H rfl) .nil)) ?_).1;exact H.rt (by rw [← ZV];rfl)
theorem ahy (G:GH) (w0:World) (hG:Hold G w0) (l:List bL) (id:Int) (v:ak) (hv:au G (.sl 6 (l.map bL.dat)) v) :
  Calls prog 172 #[v,vi id] w0 (bJ w0 G fun u G'=>u=.tuple #[vi (max (qV (N9 l id)) 0),.bool (N9 l id).isSome]):=by
 obtain ⟨A,c,rfl,hc1,hc2,-⟩:=hv.slice;rw [bV] at *;refine eN [(0,_),(1,_)] func172 rfl ntmps172 rfl rfl hG ?_;intro a H;refine dw (fun _ K1=>?_);refine eD (cs:=[_]) H wn rfl rfl rfl ?_;clear H;intro b3 a w hb3 H;refine kH H (Ra rfl (aj K1 rfl (SQ fun _ K2=>?_)));clear H K1;intro a H;obtain ⟨Ga,hma,sM,H⟩:=H.eG
 have q3:aF Ga b3 0=some (vi id):=by unfold aF;rw [sM];rfl
 refine kP H (SC (Rm rfl ?_));clear H;intro a H;refine qX H wn rfl rfl ?_;clear H;intro a H;refine s_call Xy H wn rfl (ZQ _ _ H.ro l (fun x=>decide (x.id=id)) _ _ (hv.mono hma) (fun x _=>ahu q3 x)) rfl ?_;clear H;rintro v9 G9 a w rfl CV H;refine kH H (aO K2 rfl (SR fun _ K3=>Rm rfl ?_));clear H K2;intro a H;refine FD H wn rfl rfl rfl ?_;clear H;intro a H;refine kH H (Rm rfl (Rc rfl (Ra rfl (aj K3 rfl ?_))));clear H K3;intro a H;refine dR ?_;refine (iB H results172 (.cons (bM H rfl) (.cons (bM H rfl) .nil)) ?_).1;exact H.rt (by rw [← ZV];rfl)
def Ih (l:List bL) (kind id:Int):Bool:=match N9 l id with|some i=>decide ((l[i]?.map bL.kind)=some kind)|none=>false
theorem Uq (G:GH) (w0:World) (hG:Hold G w0) (l:List bL) (kind id:Int) (v:ak) (hv:au G (.sl 6 (l.map bL.dat)) v) :
  Calls prog 139 #[v,vi kind,vi id] w0 (bJ w0 G fun u G'=>u=.bool (Ih l kind id)):=by
 obtain ⟨A,c,rfl,hc1,hc2,-⟩:=hv.slice;rw [bV] at *;refine eN [(0,_),(1,_),(2,_)] func139 rfl ntmps139 rfl rfl hG ?_;intro a H;refine kP H (SR fun _ K1=>aj K1 rfl (SR fun _ K2=>Rm rfl (Rm rfl ?_)));clear H K1;intro a H;refine s_call afp H wn rfl (ahy _ _ H.ro l id _ hv) rfl ?_;clear H;rintro v12 Dp a w rfl BA H;obtain ⟨o,ho⟩:∃ o,o=N9 l id:=⟨_,rfl⟩;rw [← ho] at H;refine kH H (Rm rfl ?_);clear H;intro a H;(iterate 2 refine uT H wn rfl rfl rfl ?_;clear H;intro a H);refine kH H (Ra rfl (aj K2 rfl (SR fun _ K3=>Rm rfl (Rm rfl (Sp 16 rfl ?_ ?_))))) <;> clear H K2
 ·intro h16 a H
  try have p16:=dT h16
  obtain ⟨i,rfl⟩:=Option.isSome_iff_exists.1 h16
  have hil:i < l.length:=by
   obtain ⟨hi,-⟩:=List.findIdx?_eq_some_iff_getElem.1 ho.symm;exact hi
  rw [show max (qV (some i)) 0=(i:Int) by simp [qV]] at H;obtain ⟨b,o',pA,pc,rfl,hrow,hp,hrep⟩:=BZ (hv.mono BA) hil;have r1:aF Dp b (o'+i*6+1)=some (vi l[i].kind):=hrow 1 _ rfl;refine kH H (YM h16 rfl (YM h16 rfl (YI ko iR h16 rfl rfl (YF wH h16 rfl (YR aD h16 rfl (by assumption) ?_)))));clear H;intro a H;refine kH H (YM h16 rfl (YC h16 rfl (Pt h16 rfl (aj K3 rfl ?_))));clear H K3;intro a H;refine lr H results139 rfl ?_
  first
   | exact H.rt (aL (by rw [Ih,← ho];dsimp only;rw [fT hil];simp))
   | exact H.rt (aL (by rw [Ih,← ho];cases o <;> simp_all))
 intro h16 a H
 try have p16:=dF h16
 refine kH H (aQ h16 rfl (aN h16 rfl (aN h16 rfl (Pf h16 rfl (aj K3 rfl ?_)))));clear H K3;intro a H;refine lr H results139 rfl ?_
 first
  | exact H.rt (aL (by rw [Ih,← ho];dsimp only;rw [fT hil];simp))
  | exact H.rt (aL (by rw [Ih,← ho];cases o <;> simp_all))
end
section
open Go.RowKit
section
variable {N:Nat} {D:List Deferred} {w0:World} {F:Nat→Prop} {G0 G:GH} {L Li Lo:OL} {T:List (Nat × ak)}
variable {r:Option Nat} {P:Program} {ops:Array Oper} {Q:Exit→Act→World→Prop} {rest:List Oper} {a:Act} {w:World}
variable {d:Nat} {ty:TypeId} {pos:String} {aU:Array Edge} {g:Option (Nat × Bool)}
theorem aaU {t e:TypeId} {sz bytes:Nat} {zero:List ak} {agg:Bool} (hs:P.underlying t=some (.slice e)) (ht:Ty P e sz bytes zero agg) {x z:Operand} {A:Option Addr} {n c:Nat} (hi:Nat) {q:Int} (H:St N D w0 F G0 G L T a w)
  (hw:Region.wanted ⟨some d,.slice t x none (some z) none,ty,pos,aU,g⟩ (yielded ops a.tmps)=true) (hx:ev T x=some (.slice A n c)) (hz:ev T z=some (.int .i64 q)) (hq:q=(hi:Int)) (h2:hi≤c) (hd:Nat.blt d N=true)
  (k:∀ a',St N D w0 F G0 G L ((d,.slice A hi c) :: T) a' w→WL r P ops Q rest a' w):WL r P ops Q (⟨some d,.slice t x none (some z) none,ty,pos,aU,g⟩ :: rest) a w:=by
 subst hq
 refine gZ (v:=.slice A hi c) (w':=w) hw rfl ?_ (k _ (H.put hd _ H.hp))
 simp [execOp,H.ev hx,H.ev hz,Instr.sliceAt,Instr.slice,Instr.sliceBounds,Instr.sliceBound,eT,rT hs,ht.FC,asIntOf,h2]
 intro _
 cases A with
 | none=>rfl
 | some p=>simp [Addr.add]
end
end
section
open Go.RowKit
theorem NS:∀ args w,(callFunc 169 args).run prog w=.ok (.enter 169 args) w:=enters func169 rfl (by kernel_rfl)
theorem afn:∀ args w,(callFunc 170 args).run prog w=.ok (.enter 170 args) w:=enters func170 rfl (by kernel_rfl)
theorem GV:dV prog 159 5 5:=⟨by kernel_rfl⟩
theorem afo:∀ args w,(callFunc 171 args).run prog w=.ok (.enter 171 args) w:=enters func171 rfl (by kernel_rfl)
theorem Rx:∀ args w,(callFunc 78 args).run prog w=.ok (.enter 78 args) w:=enters func78 rfl (by kernel_rfl)
theorem au.pre {G:GH} {sz:Nat} {rows:List (List Dat)} {A:Option Addr} {n c:Nat} (h:au G (.sl sz rows) (.slice A n c)) (k:Nat) (hk:k≤rows.length):au G (.sl sz (rows.take k)) (.slice A k c):=by
 have h:=h.part 0 k (iF _) hk
 have e:(if c=0 then A else A.map (·.add (0*sz)))=A:=by
  split
  ·rfl
  cases A <;> simp [Addr.add]
 rw [e] at h
 simpa using h
theorem aew (G:GH) (w0:World) (hG:Hold G w0) (kind:Int):Calls prog 171 #[vi kind] w0 (bJ w0 G fun u G'=>u=vi (if kind=1 then 2 else 1)):=by
 refine eN [(0,_)] func171 rfl ntmps171 rfl rfl hG ?_;intro a H;refine kP H (SR fun _ K1=>aj K1 rfl (SQ fun _ K2=>SR fun _ K3=>Rm rfl (Rc rfl (Kz K3 (Cd rfl ?_ ?_))))) <;> clear H K1 K3
 ·intro h4 a H
  try have p4:=dT h4
  exact kP H (SR fun _ K4=>aj K4 rfl (LR results171 rfl fun H=>H.rt (by first|(rw [av (by omega)];done)|rw [ah (by omega)])))
 intro h4 a H
 try have p4:=dF h4
 exact kP H (Kc K2 (SR fun _ K5=>aj K5 rfl (LR results171 rfl fun H=>H.rt (by first|(rw [av (by omega)];done)|rw [ah (by omega)]))))
def AJ (l:List bL) (k:Nat):Option Int:=if k=0 then none else l[k - 1]?.map bL.id
theorem PL {l:List bL} {k:Nat} (h:k=0):AJ l k=none:=av h
def I9 (k:Int):Bool:=decide (k=20) || decide (k=1)
def nJ (q:Option Int) (dup:Bool) (s:bL):Int :=
 if s.id < 1∨1073741824 < s.id then 18 else if q=some s.id then 7 else if JM q s.id=true then 6 else if s.kind≠1∧s.kind≠2 then 3 else if pE s.name=false then 13 else if dup=true then 7
 else if s.props.any (fun p=>I9 p.key)=true then 4 else iU (if s.kind=1 then 2 else 1) s.props
def jG (l:List bL) (k:Nat) (s:bL):Int:=nJ (AJ l k) (EZ (l.take k) s.kind s.name).isSome s
set_option maxHeartbeats 1000000 in
theorem alo (G:GH) (w0:World) (hG:Hold G w0) (l:List bL) (k:Nat) (v:ak) (hv:au G (.sl 6 (l.map bL.dat)) v) (hk:k < l.length) (hs:l[k].name.size≤4611686018427387904) :
  Calls prog 138 #[v,vi k] w0 (bJ w0 G fun u G'=>u=vi (jG l k l[k])):=by
 obtain ⟨A,c,rfl,hc1,hc2,-⟩:=hv.slice;have hml:maxLen=9223372036854775807:=rfl;rw [bV] at *;obtain ⟨b,o,pA,pc,rfl,hrow,hp,hrep⟩:=BZ hv hk;obtain ⟨x,hx⟩:∃ x,x=l[k]:=⟨_,rfl⟩;rw [← hx] at hs hrow hp hrep ⊢;have hdp:∀ j v,[vi x.id,vi x.kind,.string x.name,vi x.base,vi x.next,.slice pA x.props.length pc][j]?=some v→aF G b (o+k*6+j)=some v:=hrow;obtain ⟨_,_,he0,apo,apq,-⟩:=hp.slice
 injection he0 with _ he1 he2
 rw [bV] at *;subst he2
 obtain ⟨pk,hpk⟩:∃ pk,0 < k→aF G b (o+(k - 1)*6+0)=some (vi pk)∧AJ l k=some pk:=by
  by_cases h0:0 < k
  ·obtain ⟨b',o',_,_,he,hr',-,-⟩:=BZ hv (show k - 1 < l.length by omega)
   injection he with he
   injection he with e1 e2 e3
   subst e1;subst e2;exact ⟨_,fun _=>⟨hr' 0 _ rfl,by rw [AJ,ah (by omega),fT (by omega)];rfl⟩⟩
  exact ⟨0,fun h=>absurd h h0⟩
 refine eN [(0,_),(1,_)] func138 rfl ntmps138 rfl rfl hG ?_;intro a H;refine kP H (SR fun _ K1=>aj K1 rfl (SR fun _ K2=>Rm rfl (Rm rfl (Ri ko iR rfl rfl ?_))));clear H K1;intro a H;refine aW iR (cs:=[_,_,_,_,_,_]) H wn rfl rfl (fun j v hj=>H.hp.aF (hrow j v hj)) rfl ?_;clear H;intro a H;refine dU iR H wn rfl ?_;clear H;intro b5 a w hb5 H;refine bN iR 0 (vs:=[_,_,_,_,_,_]) _ H wn rfl rfl rfl rfl rfl rfl rfl rfl ?_;clear H;intro w H;dsimp only [List.set,setRow] at H;refine K2 _ _ ?_;clear K2;refine qL (ι:=GH) (Tc:=[(0,_),(1,_),(5,_)]) (Lc:=[(_,_)]) (fun gh=>[]) (fun gh=>[]) (fun gh=>gh) (fun gh=>¬ (x.id < 1∨1073741824 < x.id)∧¬ AJ l k=some x.id∧¬ JM (AJ l k) x.id=true∧¬ (x.kind≠1∧x.kind≠2)∧¬ pE x.name=false∧(∀ b o,G b=some o→gh b=some o)) (by exact (H).sub ⟨rfl,rfl,rfl,aC⟩) ?_ ?_
 ·skip;refine kP H (SB (SR fun _ K3=>bg uK aD 0 rfl rfl (Rc rfl (Rm rfl (Sp 18 rfl ?_ ?_))))) <;> clear H
  ·intro h18 a H
   try have pG:=dT h18
   refine kH H (aQ h18 rfl (Pt h18 rfl (aj K3 rfl (Ct rfl rfl (SR fun _ K4=>aj K4 rfl ?_)))));clear H K3 K4;intro a H;refine lr H results138 rfl ?_
   first
    | exact H.rt (aB vi e0.symm)
    | exact H.rt (aB vi e4.symm)
    | exact H.rt (aB vi e7.symm)
    | exact H.rt (aB vi e13.symm)
    | exact H.rt (aB vi e3.symm)
    | exact H.rt (aB vi e6.symm)
    | exact H.rt (aB vi (by rw [jG,nJ,av (by omega)]))
  intro h18 a H
  try have pG:=dF h18
  refine kH H (YF uK h18 rfl (YO aD 0 h18 rfl (YC h18 rfl (Pf h18 rfl (aj K3 rfl (Cd rfl ?_ ?_)))))) <;> clear H K3
  ·intro dM a H
   try have jH:=dT dM
   refine kP H (SR fun _ K5=>aj K5 rfl ?_);clear H K5;intro a H;refine lr H results138 rfl ?_
   first
    | exact H.rt (aB vi e0.symm)
    | exact H.rt (aB vi e4.symm)
    | exact H.rt (aB vi e7.symm)
    | exact H.rt (aB vi e13.symm)
    | exact H.rt (aB vi e3.symm)
    | exact H.rt (aB vi e6.symm)
    | exact H.rt (aB vi (by rw [jG,nJ,av (by omega)]))
  intro dM a H
  try have jH:=dF dM
  refine aS (fun _ K6=>?_)
  by_cases c0:0 < (k:Int)
  ·skip
   by_cases c1:x.id=pk
   ·skip;refine dI hmx [[],[0],[0,1],[0,1,2],(ra 0 4),[0,1,2],[0,1,2],[0,1,2,6],[0,1,2,5,6,7],[0,1,2,5,6,7,8],[0,1,2,5,6,7,8,9],(ra 0 11),(ra 0 12),(ra 0 13)] [13] (by kernel_rfl) [_,_,_,_,vi x.id,_,_,vi ((k - 1:Nat):Int),_,_,_,_,_] H (aG (Z0 rfl (Rm rfl)) (Z1 0 24 rfl (Rc rfl)) (Z1 1 25 rfl (Rm rfl)) (Z1 2 26 rfl (YF uK (aI c0) rfl)) (aG (Z2 3 27 2 26 rfl (YO aD 0 (aI c0) rfl)) (Z1 2 26 rfl (YM (aI c0) rfl)) (Z1 2 26 rfl (YM (aI c0) rfl)) ?_ (aG (Z3 5 29 7 31 2 26 rfl (YI ko iR (aI c0) rfl rfl)) (Z2 8 32 2 26 rfl (YF uK (aI c0) rfl)) (X2 9 33 2 26 rfl fun hG=>YR aD (aI c0) rfl (ay hG (hpk (by omega)).1)) (Z3 4 28 10 34 2 26 rfl (YC (aI c0) rfl)) (bq (Z2 2 26 11 35 rfl (Pt (aI c0) rfl)) (bq (bY rfl) dD))))) ?_
    ·refine eu 6 30 2 26 rfl rfl fun _ a w G1 hG HT H fin=>?_;refine nU _ H (wg H rfl rfl (aI c0)) rfl rfl rfl (by omega) (by omega) rfl ?_;clear H;intro a H;exact fin H iJ (by show _=_;first|rfl|exact aB vi (by omega))
    clear H;intro a w G tL H hv;have H:=H.aZ (hv 12 36 rfl rfl) rfl;clear hv;refine kH H (Ra rfl ?_);clear H;intro a H;refine aH ⟨rfl,?_⟩;refine K6 _ _ ?_;clear K6;refine yV H rfl (aI c1) ?_;refine aS (fun _ K7=>?_)
    have e7:jG l k x=7:=by rw [jG,nJ,ah (by omega),av (by rw [(hpk (by omega)).2,c1])]
    refine kP H (SC (aO K7 rfl ?_));clear H K7;intro a H;refine lr H results138 rfl ?_
    first
     | exact H.rt (aB vi e0.symm)
     | exact H.rt (aB vi e4.symm)
     | exact H.rt (aB vi e7.symm)
     | exact H.rt (aB vi e13.symm)
     | exact H.rt (aB vi e3.symm)
     | exact H.rt (aB vi e6.symm)
     | exact H.rt (aB vi (by rw [jG,nJ,av (by omega)]))
   skip;refine dI hmx [[],[0],[0,1],[0,1,2],(ra 0 4),[0,1,2],[0,1,2],[0,1,2,6],[0,1,2,5,6,7],[0,1,2,5,6,7,8],[0,1,2,5,6,7,8,9],(ra 0 11),(ra 0 12),(ra 0 13)] [13] (by kernel_rfl) [_,_,_,_,vi x.id,_,_,vi ((k - 1:Nat):Int),_,_,_,_,_] H (aG (Z0 rfl (Rm rfl)) (Z1 0 24 rfl (Rc rfl)) (Z1 1 25 rfl (Rm rfl)) (Z1 2 26 rfl (YF uK (aI c0) rfl)) (aG (Z2 3 27 2 26 rfl (YO aD 0 (aI c0) rfl)) (Z1 2 26 rfl (YM (aI c0) rfl)) (Z1 2 26 rfl (YM (aI c0) rfl)) ?_ (aG (Z3 5 29 7 31 2 26 rfl (YI ko iR (aI c0) rfl rfl)) (Z2 8 32 2 26 rfl (YF uK (aI c0) rfl)) (X2 9 33 2 26 rfl fun hG=>YR aD (aI c0) rfl (ay hG (hpk (by omega)).1)) (Z3 4 28 10 34 2 26 rfl (YC (aI c0) rfl)) (bq (Z2 2 26 11 35 rfl (Pt (aI c0) rfl)) (bq (bY rfl) dD))))) ?_
   ·refine eu 6 30 2 26 rfl rfl fun _ a w G1 hG HT H fin=>?_;refine nU _ H (wg H rfl rfl (aI c0)) rfl rfl rfl (by omega) (by omega) rfl ?_;clear H;intro a H;exact fin H iJ (by show _=_;first|rfl|exact aB vi (by omega))
   clear H;intro a w G tL H hv;have H:=H.aZ (hv 12 36 rfl rfl) rfl;clear hv;refine kH H (Ra rfl ?_);clear H;intro a H;refine aH ⟨rfl,?_⟩;refine K6 _ _ ?_;clear K6;refine om H rfl (aR c1) ?_;refine aS (fun _ K8=>?_)
   have q1:¬ (0 < (k:Int)∧x.id=pk):=by first|exact fun h=>c1 h.2|exact fun h=>c0 h.1
   have q1':¬ AJ l k=some x.id:=fun h=>q1 (by
    by_cases h0:0 < k
    ·rw [(hpk h0).2] at h
     injection h with h
     exact ⟨by omega,h.symm⟩
    rw [PL (by omega)] at h
    cases h)
   by_cases c3:x.id < pk
   ·skip;refine dI hmx [[],[0],[0,1],[0,1,2],(ra 0 4),[0,1,2],[0,1,2],[0,1,2,6],[0,1,2,5,6,7],[0,1,2,5,6,7,8],[0,1,2,5,6,7,8,9],(ra 0 11),(ra 0 12),(ra 0 13)] [13] (by kernel_rfl) [_,_,_,_,vi x.id,_,_,vi ((k - 1:Nat):Int),_,_,_,_,_] H (aG (Z0 rfl (Rm rfl)) (Z1 0 38 rfl (Rc rfl)) (Z1 1 39 rfl (Rm rfl)) (Z1 2 40 rfl (YF uK (aI c0) rfl)) (aG (Z2 3 41 2 40 rfl (YO aD 0 (aI c0) rfl)) (Z1 2 40 rfl (YM (aI c0) rfl)) (Z1 2 40 rfl (YM (aI c0) rfl)) ?_ (aG (Z3 5 43 7 45 2 40 rfl (YI ko iR (aI c0) rfl rfl)) (Z2 8 46 2 40 rfl (YF uK (aI c0) rfl)) (X2 9 47 2 40 rfl fun hG=>YR aD (aI c0) rfl (ay hG (ay tL (hpk (by omega)).1))) (Z3 4 42 10 48 2 40 rfl (YC (aI c0) rfl)) (bq (Z2 2 40 11 49 rfl (Pt (aI c0) rfl)) (bq (bY rfl) dD))))) ?_
    ·refine eu 6 44 2 40 rfl rfl fun _ a w G1 hG HT H fin=>?_;refine nU _ H (wg H rfl rfl (aI c0)) rfl rfl rfl (by omega) (by omega) rfl ?_;clear H;intro a H;exact fin H iJ (by show _=_;first|rfl|exact aB vi (by omega))
    clear H;intro a w G fH H hv;have H:=H.aZ (hv 12 50 rfl rfl) rfl;clear hv;refine kH H (Ra rfl ?_);clear H;intro a H;refine aH ⟨rfl,?_⟩;refine K8 _ _ ?_;clear K8;refine yV H rfl (aI c3) ?_;refine aS (fun _ K9=>?_)
    have e6:jG l k x=6:=by rw [jG,nJ,ah (by omega),ah q1',av (by rw [(hpk (by omega)).2];exact aI c3)]
    refine kP H (SC (aO K9 rfl ?_));clear H K9;intro a H;refine lr H results138 rfl ?_
    first
     | exact H.rt (aB vi e0.symm)
     | exact H.rt (aB vi e4.symm)
     | exact H.rt (aB vi e7.symm)
     | exact H.rt (aB vi e13.symm)
     | exact H.rt (aB vi e3.symm)
     | exact H.rt (aB vi e6.symm)
     | exact H.rt (aB vi (by rw [jG,nJ,av (by omega)]))
   skip;refine dI hmx [[],[0],[0,1],[0,1,2],(ra 0 4),[0,1,2],[0,1,2],[0,1,2,6],[0,1,2,5,6,7],[0,1,2,5,6,7,8],[0,1,2,5,6,7,8,9],(ra 0 11),(ra 0 12),(ra 0 13)] [13] (by kernel_rfl) [_,_,_,_,vi x.id,_,_,vi ((k - 1:Nat):Int),_,_,_,_,_] H (aG (Z0 rfl (Rm rfl)) (Z1 0 38 rfl (Rc rfl)) (Z1 1 39 rfl (Rm rfl)) (Z1 2 40 rfl (YF uK (aI c0) rfl)) (aG (Z2 3 41 2 40 rfl (YO aD 0 (aI c0) rfl)) (Z1 2 40 rfl (YM (aI c0) rfl)) (Z1 2 40 rfl (YM (aI c0) rfl)) ?_ (aG (Z3 5 43 7 45 2 40 rfl (YI ko iR (aI c0) rfl rfl)) (Z2 8 46 2 40 rfl (YF uK (aI c0) rfl)) (X2 9 47 2 40 rfl fun hG=>YR aD (aI c0) rfl (ay hG (ay tL (hpk (by omega)).1))) (Z3 4 42 10 48 2 40 rfl (YC (aI c0) rfl)) (bq (Z2 2 40 11 49 rfl (Pt (aI c0) rfl)) (bq (bY rfl) dD))))) ?_
   ·refine eu 6 44 2 40 rfl rfl fun _ a w G1 hG HT H fin=>?_;refine nU _ H (wg H rfl rfl (aI c0)) rfl rfl rfl (by omega) (by omega) rfl ?_;clear H;intro a H;exact fin H iJ (by show _=_;first|rfl|exact aB vi (by omega))
   clear H;intro a w G fH H hv;have H:=H.aZ (hv 12 50 rfl rfl) rfl;clear hv;refine kH H (Ra rfl ?_);clear H;intro a H;refine aH ⟨rfl,?_⟩;refine K8 _ _ ?_;clear K8;refine om H rfl (aR c3) ?_;refine aS (fun _ aT=>?_)
   have q2:¬ (0 < (k:Int)∧x.id < pk):=by first|exact fun h=>c3 h.2|exact fun h=>c0 h.1
   have q2':¬ JM (AJ l k) x.id=true:=fun h=>q2 (by
    by_cases h0:0 < k
    ·rw [(hpk h0).2] at h;exact ⟨by omega,tC h⟩
    rw [PL (by omega)] at h
    cases h)
   refine kP H (SC (bg wH aD 0 rfl rfl (Rc rfl (Rm rfl (Sp 55 rfl ?_ ?_))))) <;> clear H
   ·intro nP a H
    try have p55:=dT nP
    refine kH H (YF wH nP rfl (YO aD 0 nP rfl (YC nP rfl (Pt nP rfl (aO aT rfl (Cd rfl ?_ ?_)))))) <;> clear H aT
    ·intro lY a H
     try have p51:=dT lY
     refine aS (fun _ bB=>?_)
     have e3:jG l k x=3:=by rw [jG,nJ,ah (by omega),ah q1',ah q2',av (by omega)]
     refine kP H (SC (aO bB rfl ?_));clear H bB;intro a H;refine lr H results138 rfl ?_
     first
      | exact H.rt (aB vi e0.symm)
      | exact H.rt (aB vi e4.symm)
      | exact H.rt (aB vi e7.symm)
      | exact H.rt (aB vi e13.symm)
      | exact H.rt (aB vi e3.symm)
      | exact H.rt (aB vi e6.symm)
      | exact H.rt (aB vi (by rw [jG,nJ,av (by omega)]))
    intro lY a H
    try have p51:=dF lY
    refine kP H (SR fun _ bC=>bg EX gD 0 rfl rfl ?_);clear H;intro a H;refine s_call NS H wn rfl (O7 _ _ H.ro x.name hs) rfl ?_;clear H;rintro v63 FZ a w rfl hm63 H;refine kH H (Rn rfl (aj bC rfl (Cd rfl ?_ ?_))) <;> clear H bC
    ·intro gX a H
     try have p60:=dT gX
     refine aS (fun _ bK=>?_)
     have e13:jG l k x=13:=by rw [jG,nJ,ah (by omega),ah q1',ah q2',ah (by omega),av (by simpa using gX)]
     refine kP H (SC (aO bK rfl ?_));clear H bK;intro a H;refine lr H results138 rfl ?_
     first
      | exact H.rt (aB vi e0.symm)
      | exact H.rt (aB vi e4.symm)
      | exact H.rt (aB vi e7.symm)
      | exact H.rt (aB vi e13.symm)
      | exact H.rt (aB vi e3.symm)
      | exact H.rt (aB vi e6.symm)
      | exact H.rt (aB vi (by rw [jG,nJ,av (by omega)]))
    intro gX a H
    try have p60:=dF gX
    refine fu ?_;refine ⟨FZ,by exact (H).sub ⟨rfl,rfl,rfl,aC⟩,?_⟩;exact ⟨by omega,q1',q2',by omega,by simpa using gX,fun b o h=>hm63 b o (fH b o (tL b o h))⟩
   intro nP a H
   try have p55:=dF nP
   refine kH H (aQ nP rfl (Pf nP rfl (aO aT rfl (Cf rfl rfl (SR fun _ bP=>bg EX gD 0 rfl rfl ?_)))));clear H aT;intro a H;refine s_call NS H wn rfl (O7 _ _ H.ro x.name hs) rfl ?_;clear H;rintro v63 FZ a w rfl hm63 H;refine kH H (Rn rfl (aj bP rfl (Cd rfl ?_ ?_))) <;> clear H bP
   ·intro gX a H
    try have p60:=dT gX
    refine aS (fun _ dx=>?_)
    have e13:jG l k x=13:=by rw [jG,nJ,ah (by omega),ah q1',ah q2',ah (by omega),av (by simpa using gX)]
    refine kP H (SC (aO dx rfl ?_));clear H dx;intro a H;refine lr H results138 rfl ?_
    first
     | exact H.rt (aB vi e0.symm)
     | exact H.rt (aB vi e4.symm)
     | exact H.rt (aB vi e7.symm)
     | exact H.rt (aB vi e13.symm)
     | exact H.rt (aB vi e3.symm)
     | exact H.rt (aB vi e6.symm)
     | exact H.rt (aB vi (by rw [jG,nJ,av (by omega)]))
   intro gX a H
   try have p60:=dF gX
   refine fu ?_;refine ⟨FZ,by exact (H).sub ⟨rfl,rfl,rfl,aC⟩,?_⟩;exact ⟨by omega,q1',q2',by omega,by simpa using gX,fun b o h=>hm63 b o (fH b o (tL b o h))⟩
  skip;refine dI hmx [[],[0],[0,1],[0,1,2],(ra 0 4),[0,1,2],[0,1,2],[0,1,2,6],[0,1,2,5,6,7],[0,1,2,5,6,7,8],[0,1,2,5,6,7,8,9],(ra 0 11),(ra 0 12),(ra 0 13)] [13] (by kernel_rfl) [_,_,_,undef,undef,undef,undef,undef,undef,undef,undef,undef,_] H (aG (Z0 rfl (Rm rfl)) (Z1 0 24 rfl (Rc rfl)) (Z1 1 25 rfl (Rm rfl)) (aX (j:=2) (by kernel_rfl) (fun _ _ _ _ _ h=>h) rfl rfl rfl rfl rfl (fun _ _ h=>aY h (aL (aR c0))) rfl (fun _=>rfl)) (aG (aX (j:=2) (by kernel_rfl) (fun _ _ _ _ _ h=>h) rfl rfl rfl rfl rfl (fun _ _ h=>aY h (aL (aR c0))) rfl (fun _=>rfl)) (aX (j:=2) (by kernel_rfl) (fun _ _ _ _ _ h=>h) rfl rfl rfl rfl rfl (fun _ _ h=>aY h (aL (aR c0))) rfl (fun _=>rfl)) (aX (j:=2) (by kernel_rfl) (fun _ _ _ _ _ h=>h) rfl rfl rfl rfl rfl (fun _ _ h=>aY h (aL (aR c0))) rfl (fun _=>rfl)) (aX (j:=2) (by kernel_rfl) (fun _ _ _ _ _ h=>h) rfl rfl rfl rfl rfl (fun _ _ h=>aY h (aL (aR c0))) rfl (fun _=>rfl)) (aG (aX (j:=2) (by kernel_rfl) (fun _ _ _ _ _ h=>h) rfl rfl rfl rfl rfl (fun _ _ h=>aY h (aL (aR c0))) rfl (fun _=>rfl)) (aX (j:=2) (by kernel_rfl) (fun _ _ _ _ _ h=>h) rfl rfl rfl rfl rfl (fun _ _ h=>aY h (aL (aR c0))) rfl (fun _=>rfl)) (aX (j:=2) (by kernel_rfl) (fun _ _ _ _ _ h=>h) rfl rfl rfl rfl rfl (fun _ _ h=>aY h (aL (aR c0))) rfl (fun _=>rfl)) (aX (j:=2) (by kernel_rfl) (fun _ _ _ _ _ h=>h) rfl rfl rfl rfl rfl (fun _ _ h=>aY h (aL (aR c0))) rfl (fun _=>rfl)) (bq (Z2 2 26 11 35 rfl (Pf (aR c0) rfl)) (bq (bY rfl) dD))))) ?_
  clear H;intro a w G tL H hv;have H:=H.aZ (hv 12 36 rfl rfl) rfl;clear hv;refine kH H (Ra rfl ?_);clear H;intro a H;refine aH ⟨rfl,?_⟩;refine K6 _ _ ?_;clear K6;refine om H rfl rfl ?_;refine aS (fun _ dP=>?_)
  have q1:¬ (0 < (k:Int)∧x.id=pk):=by first|exact fun h=>c1 h.2|exact fun h=>c0 h.1
  have q1':¬ AJ l k=some x.id:=fun h=>q1 (by
   by_cases h0:0 < k
   ·rw [(hpk h0).2] at h
    injection h with h
    exact ⟨by omega,h.symm⟩
   rw [PL (by omega)] at h
   cases h)
  refine dI hmx [[],[0],[0,1],[0,1,2],(ra 0 4),[0,1,2],[0,1,2],[0,1,2,6],[0,1,2,5,6,7],[0,1,2,5,6,7,8],[0,1,2,5,6,7,8,9],(ra 0 11),(ra 0 12),(ra 0 13)] [13] (by kernel_rfl) [_,_,_,undef,undef,undef,undef,undef,undef,undef,undef,undef,_] H (aG (Z0 rfl (Rm rfl)) (Z1 0 38 rfl (Rc rfl)) (Z1 1 39 rfl (Rm rfl)) (aX (j:=2) (by kernel_rfl) (fun _ _ _ _ _ h=>h) rfl rfl rfl rfl rfl (fun _ _ h=>aY h (aL (aR c0))) rfl (fun _=>rfl)) (aG (aX (j:=2) (by kernel_rfl) (fun _ _ _ _ _ h=>h) rfl rfl rfl rfl rfl (fun _ _ h=>aY h (aL (aR c0))) rfl (fun _=>rfl)) (aX (j:=2) (by kernel_rfl) (fun _ _ _ _ _ h=>h) rfl rfl rfl rfl rfl (fun _ _ h=>aY h (aL (aR c0))) rfl (fun _=>rfl)) (aX (j:=2) (by kernel_rfl) (fun _ _ _ _ _ h=>h) rfl rfl rfl rfl rfl (fun _ _ h=>aY h (aL (aR c0))) rfl (fun _=>rfl)) (aX (j:=2) (by kernel_rfl) (fun _ _ _ _ _ h=>h) rfl rfl rfl rfl rfl (fun _ _ h=>aY h (aL (aR c0))) rfl (fun _=>rfl)) (aG (aX (j:=2) (by kernel_rfl) (fun _ _ _ _ _ h=>h) rfl rfl rfl rfl rfl (fun _ _ h=>aY h (aL (aR c0))) rfl (fun _=>rfl)) (aX (j:=2) (by kernel_rfl) (fun _ _ _ _ _ h=>h) rfl rfl rfl rfl rfl (fun _ _ h=>aY h (aL (aR c0))) rfl (fun _=>rfl)) (aX (j:=2) (by kernel_rfl) (fun _ _ _ _ _ h=>h) rfl rfl rfl rfl rfl (fun _ _ h=>aY h (aL (aR c0))) rfl (fun _=>rfl)) (aX (j:=2) (by kernel_rfl) (fun _ _ _ _ _ h=>h) rfl rfl rfl rfl rfl (fun _ _ h=>aY h (aL (aR c0))) rfl (fun _=>rfl)) (bq (Z2 2 40 11 49 rfl (Pf (aR c0) rfl)) (bq (bY rfl) dD))))) ?_
  clear H;intro a w G fH H hv;have H:=H.aZ (hv 12 50 rfl rfl) rfl;clear hv;refine kH H (Ra rfl ?_);clear H;intro a H;refine aH ⟨rfl,?_⟩;refine dP _ _ ?_;clear dP;refine om H rfl rfl ?_;refine aS (fun _ dB=>?_)
  have q2:¬ (0 < (k:Int)∧x.id < pk):=by first|exact fun h=>c3 h.2|exact fun h=>c0 h.1
  have q2':¬ JM (AJ l k) x.id=true:=fun h=>q2 (by
   by_cases h0:0 < k
   ·rw [(hpk h0).2] at h;exact ⟨by omega,tC h⟩
   rw [PL (by omega)] at h
   cases h)
  refine kP H (SC (bg wH aD 0 rfl rfl (Rc rfl (Rm rfl (Sp 55 rfl ?_ ?_))))) <;> clear H
  ·intro nP a H
   try have p55:=dT nP
   refine kH H (YF wH nP rfl (YO aD 0 nP rfl (YC nP rfl (Pt nP rfl (aO dB rfl (Cd rfl ?_ ?_)))))) <;> clear H dB
   ·intro lY a H
    try have p51:=dT lY
    refine aS (fun _ dY=>?_)
    have e3:jG l k x=3:=by rw [jG,nJ,ah (by omega),ah q1',ah q2',av (by omega)]
    refine kP H (SC (aO dY rfl ?_));clear H dY;intro a H;refine lr H results138 rfl ?_
    first
     | exact H.rt (aB vi e0.symm)
     | exact H.rt (aB vi e4.symm)
     | exact H.rt (aB vi e7.symm)
     | exact H.rt (aB vi e13.symm)
     | exact H.rt (aB vi e3.symm)
     | exact H.rt (aB vi e6.symm)
     | exact H.rt (aB vi (by rw [jG,nJ,av (by omega)]))
   intro lY a H
   try have p51:=dF lY
   refine kP H (SR fun _ eP=>bg EX gD 0 rfl rfl ?_);clear H;intro a H;refine s_call NS H wn rfl (O7 _ _ H.ro x.name hs) rfl ?_;clear H;rintro v63 FZ a w rfl hm63 H;refine kH H (Rn rfl (aj eP rfl (Cd rfl ?_ ?_))) <;> clear H eP
   ·intro gX a H
    try have p60:=dT gX
    refine aS (fun _ dZ=>?_)
    have e13:jG l k x=13:=by rw [jG,nJ,ah (by omega),ah q1',ah q2',ah (by omega),av (by simpa using gX)]
    refine kP H (SC (aO dZ rfl ?_));clear H dZ;intro a H;refine lr H results138 rfl ?_
    first
     | exact H.rt (aB vi e0.symm)
     | exact H.rt (aB vi e4.symm)
     | exact H.rt (aB vi e7.symm)
     | exact H.rt (aB vi e13.symm)
     | exact H.rt (aB vi e3.symm)
     | exact H.rt (aB vi e6.symm)
     | exact H.rt (aB vi (by rw [jG,nJ,av (by omega)]))
   intro gX a H
   try have p60:=dF gX
   refine fu ?_;refine ⟨FZ,by exact (H).sub ⟨rfl,rfl,rfl,aC⟩,?_⟩;exact ⟨by omega,q1',q2',by omega,by simpa using gX,fun b o h=>hm63 b o (fH b o (tL b o h))⟩
  intro nP a H
  try have p55:=dF nP
  refine kH H (aQ nP rfl (Pf nP rfl (aO dB rfl (Cf rfl rfl (SR fun _ eU=>bg EX gD 0 rfl rfl ?_)))));clear H dB;intro a H;refine s_call NS H wn rfl (O7 _ _ H.ro x.name hs) rfl ?_;clear H;rintro v63 FZ a w rfl hm63 H;refine kH H (Rn rfl (aj eU rfl (Cd rfl ?_ ?_))) <;> clear H eU
  ·intro gX a H
   try have p60:=dT gX
   refine aS (fun _ fK=>?_)
   have e13:jG l k x=13:=by rw [jG,nJ,ah (by omega),ah q1',ah q2',ah (by omega),av (by simpa using gX)]
   refine kP H (SC (aO fK rfl ?_));clear H fK;intro a H;refine lr H results138 rfl ?_
   first
    | exact H.rt (aB vi e0.symm)
    | exact H.rt (aB vi e4.symm)
    | exact H.rt (aB vi e7.symm)
    | exact H.rt (aB vi e13.symm)
    | exact H.rt (aB vi e3.symm)
    | exact H.rt (aB vi e6.symm)
    | exact H.rt (aB vi (by rw [jG,nJ,av (by omega)]))
  intro gX a H
  try have p60:=dF gX
  refine fu ?_;refine ⟨FZ,by exact (H).sub ⟨rfl,rfl,rfl,aC⟩,?_⟩;exact ⟨by omega,q1',q2',by omega,by simpa using gX,fun b o h=>hm63 b o (fH b o (tL b o h))⟩
 clear H;intro gh a w hI H;obtain ⟨g,hgh⟩:∃ x,x=gh:=⟨_,rfl⟩;subst hgh;obtain ⟨q0,q1',q2',q3,q4,hgm⟩:=hI;dsimp only [lca,aV] at H;refine aS (fun _ gM=>?_);refine aS (fun _ iC=>?_);have Zy:=(hv.mono hgm).pre k (by rw [bV];omega);rw [← List.map_take] at Zy;have ajF:=hp.mono hgm;refine dI hmx [[],[],[0,1],[],[3],[],[5],(ra 0 7),(ra 0 8),(ra 0 9),(ra 0 9),(ra 0 10),(ra 0 12)] [12] (by kernel_rfl) [_,_,.slice (some ⟨b,o,none⟩) k c,_,vi x.kind,_,.string x.name,.tuple #[vi (max (qV (EZ (l.take k) x.kind x.name)) 0),.bool (EZ (l.take k) x.kind x.name).isSome],_,vi (max (qV (EZ (l.take k) x.kind x.name)) 0),.bool (EZ (l.take k) x.kind x.name).isSome,_] H (aG (Z0 rfl (Rm rfl)) (Z0 rfl (Rm rfl)) ?_ (Z0 rfl (Rf wH rfl)) (aG (Z1 3 69 rfl (Ro aD 0 rfl)) (Z0 rfl (Rf EX rfl)) (Z1 5 71 rfl (Ro gD 0 rfl)) ?_ (aG (Z1 7 73 rfl (Rm rfl)) ?_ ?_ (Z1 9 74 rfl (Ra rfl)) (bq (bY rfl) dD)))) ?_
 ·refine eu 0 66 1 67 rfl rfl fun _ a w G1 hG HT H fin=>?_;refine aaU ko iR k H wn rfl rfl rfl (by omega) rfl ?_;clear H;intro a H;exact fin H iJ rfl
 ·refine rC 2 68 4 70 6 72 rfl rfl fun _ a w G1 hG HT H fin=>?_;refine s_call afn H wn rfl (ahw _ _ H.ro (l.take k) x.kind x.name _ (Zy.mono hG)) rfl ?_;clear H;rintro v73 G73 a w rfl aif H;exact fin H aif (rfl)
 ·refine dN 8 65 rfl rfl fun _ a w G1 hG HT H fin=>?_;refine uT H wn rfl rfl rfl ?_;clear H;intro a H;exact fin H iJ rfl
 ·refine dN 8 65 rfl rfl fun _ a w G1 hG HT H fin=>?_;refine uT H wn rfl rfl rfl ?_;clear H;intro a H;exact fin H iJ rfl
 clear H;intro a w G tK H hv;have H:=H.aZ (hv 10 75 rfl rfl) rfl;clear hv;refine kH H (Ra rfl ?_);clear H;intro a H;refine aH ⟨rfl,?_⟩;refine iC _ _ ?_;clear iC;refine kP H (SR fun _ gu=>Rm rfl (Kz gu (Cd rfl ?_ ?_))) <;> clear H gu
 ·intro sJ a H
  try have UR:=dT sJ
  refine aS (fun _ iX=>?_)
  have e7:jG l k x=7:=by rw [jG,nJ,ah (by omega),ah q1',ah q2',ah q3,ah q4,av sJ]
  refine kP H (SC (aO iX rfl ?_));clear H iX;intro a H;refine lr H results138 rfl ?_
  first
   | exact H.rt (aB vi e0.symm)
   | exact H.rt (aB vi e4.symm)
   | exact H.rt (aB vi e7.symm)
   | exact H.rt (aB vi e13.symm)
   | exact H.rt (aB vi e3.symm)
   | exact H.rt (aB vi e6.symm)
   | exact H.rt (aB vi (by rw [jG,nJ,av (by omega)]))
 intro sJ a H
 try have UR:=dF sJ
 refine kP H (Kc gM (SQ fun _ jo=>SQ fun _ iN=>?_));clear H gM;intro a H
 have q5:¬ (EZ (l.take k) x.kind x.name).isSome=true:=by simpa using sJ
 have Fq:=ajF.mono tK;refine kP H (SC (bg GV qY 0 rfl rfl (Rl nW rfl (Rm rfl (Kn iN (SB ?_))))));clear H iN;intro a H;skip;refine eH (ι:=Nat) (Tc:=[(5,_),(78,_),(79,_)]) (Lc:=[(_,_)]) (fun gh=>[(80,vi gh)]) (fun gh=>[]) (fun gh=>G) (fun gh=>gh≤x.props.length∧(x.props.take gh).any (fun p=>I9 p.key)=false) (fun gh=>x.props.length - gh) (0) (by exact (H).sub ⟨rfl,rfl,rfl,rfl,aC⟩) ?_ ?_
 ·exact ⟨iF _,rfl⟩
 clear H;intro gh a w hI H;obtain ⟨n,hgh⟩:∃ x,x=gh:=⟨_,rfl⟩;subst hgh;obtain ⟨hn,hno⟩:=hI;dsimp only [lca,aV] at H;refine kP H (SR fun _ kJ=>Rc rfl (Kz kJ (SQ fun _ kK=>Cd rfl ?_ ?_))) <;> clear H kJ
 ·intro nQ a H
  try have zP:=dT nQ
  have hn2:n < x.props.length:=by omega
  obtain ⟨pb,po,rfl,hrow2⟩:=MN Fq hn2;have hrow:=hrow2;refine kP H (Kc kK (SQ fun _ jA=>SB (SR fun _ kT=>Ri nW oN rfl rfl ?_)));clear H kK;intro a H;refine aW oN (cs:=[_,_]) H wn rfl rfl (fun j v hj=>H.hp.aF (hrow j v hj)) rfl ?_;clear H;intro a H;refine dU oN H wn rfl ?_;clear H;intro b9 a w rH H;refine bN oN 0 (vs:=[_,_]) _ H wn rfl rfl rfl rfl rfl rfl rfl rfl ?_;clear H;intro w H;dsimp only [List.set,setRow] at H;refine kT _ _ ?_;clear kT;refine kP H (SR fun _ kU=>bg xO aD 0 rfl rfl (Rc rfl (Rm rfl (Sp 87 rfl ?_ ?_)))) <;> clear H
  ·intro h87 a H
   try have MH:=dT h87
   refine kH H (aQ h87 rfl (Pt h87 rfl (Kz kU (Ct rfl rfl (SQ fun _ lM=>?_)))));clear H kU;intro a H
   have e4:jG l k x=4:=by
    rw [jG,nJ,ah (by omega),ah q1',ah q2',ah q3,ah q4,ah q5,av];rw [List.any_eq_true];exact ⟨x.props[n],jW hn2,by simp [I9];omega⟩
   refine kP H (SC (aO lM rfl ?_));clear H lM;intro a H;refine lr H results138 rfl ?_
   first
    | exact H.rt (aB vi e0.symm)
    | exact H.rt (aB vi e4.symm)
    | exact H.rt (aB vi e7.symm)
    | exact H.rt (aB vi e13.symm)
    | exact H.rt (aB vi e3.symm)
    | exact H.rt (aB vi e6.symm)
    | exact H.rt (aB vi (by rw [jG,nJ,av (by omega)]))
  intro h87 a H
  try have MH:=dF h87
  refine kH H (YF xO h87 rfl (YO aD 0 h87 rfl (YC h87 rfl (Pf h87 rfl (Kz kU (Cd rfl ?_ ?_)))))) <;> clear H kU
  ·intro Am a H
   try have zQ:=dT Am
   refine aS (fun _ lN=>?_)
   have e4:jG l k x=4:=by
    rw [jG,nJ,ah (by omega),ah q1',ah q2',ah q3,ah q4,ah q5,av];rw [List.any_eq_true];exact ⟨x.props[n],jW hn2,by simp [I9];omega⟩
   refine kP H (SC (aO lN rfl ?_));clear H lN;intro a H;refine lr H results138 rfl ?_
   first
    | exact H.rt (aB vi e0.symm)
    | exact H.rt (aB vi e4.symm)
    | exact H.rt (aB vi e7.symm)
    | exact H.rt (aB vi e13.symm)
    | exact H.rt (aB vi e3.symm)
    | exact H.rt (aB vi e6.symm)
    | exact H.rt (aB vi (by rw [jG,nJ,av (by omega)]))
  intro Am a H
  try have zQ:=dF Am
  refine kP H (Kc jA (SC (Rd rfl (Rm rfl ?_))));clear H jA;intro a H;refine aH ?_;refine dK ((n+1)) (by exact (H.dS (Pl:=[_,_]) (dL:=[_]) [1] (by decide) rfl).sub ⟨rfl,rfl,rfl,rfl,aC⟩) ?_ ?_
  ·exact ⟨by omega,by rw [iG hn2,List.any_append,hno];simp [I9];omega⟩
  first|omega|(dsimp only;omega)
 intro nQ a H
 try have zP:=dF nQ
 refine dW ?_;refine jo _ _ ?_;clear jo;refine aS (fun _ lQ=>?_)
 have q6:¬ x.props.any (fun p=>I9 p.key)=true:=by
  rw [show x.props.take n=x.props from iH (by omega)] at hno;rw [hno];decide
 have e0:jG l k x=iU (if x.kind=1 then 2 else 1) x.props:=by rw [jG,nJ,ah (by omega),ah q1',ah q2',ah q3,ah q4,ah q5,ah q6]
 refine dI hmx [[],[0],[0,1],[],[3],(ra 0 5),(ra 0 6)] [5,6] (by kernel_rfl) [_,vi x.kind,vi (if x.kind=1 then 2 else 1),_,.slice pA x.props.length pc] H (aG (Z0 rfl (Rf wH rfl)) (Z1 0 93 rfl (Ro aD 0 rfl)) ?_ (Z0 rfl (Rf GV rfl)) (bq (Z1 3 96 rfl (Ro qY 0 rfl)) (bq (bY rfl) (bq (bY rfl) dD)))) ?_
 ·refine dN 1 94 rfl rfl fun _ a w G1 hG HT H fin=>?_;refine s_call afo H wn rfl (aew _ _ H.ro x.kind) rfl ?_;clear H;rintro v95 G95 a w rfl aij H;exact fin H aij (rfl)
 clear H;intro a w G E9 H hv;have H:=H.aZ (hv 2 95 rfl rfl) rfl;have H:=H.aZ (hv 4 97 rfl rfl) rfl;clear hv;refine s_call Rx H wn rfl (U2 _ _ H.ro _ x.props _ (Fq.mono E9)) rfl ?_;clear H;rintro v98 G98 a w rfl apn H;refine kH H (Ra rfl ?_);clear H;intro a H;refine aH ⟨rfl,?_⟩;refine lQ _ _ ?_;clear lQ;refine lr H results138 rfl ?_
 first
  | exact H.rt (aB vi e0.symm)
  | exact H.rt (aB vi e4.symm)
  | exact H.rt (aB vi e7.symm)
  | exact H.rt (aB vi e13.symm)
  | exact H.rt (aB vi e3.symm)
  | exact H.rt (aB vi e6.symm)
  | exact H.rt (aB vi (by rw [jG,nJ,av (by omega)]))
end
end Go.Proofs.YtdacibabefnabaaGreat
