/-
  What the claim stands on, part 4: Stz Dsc Mi Ro Ri Chn Chk Dsv Mq Nck Cid Mt Ehd Hdr Hea Frm Itc Vis Okd.
-/
import Derived.Test.YtdacibabefnabaaGreatWzc
namespace Go.Proofs.YtdacibabefnabaaGreat
open Go.Proofs.Tryz
section
open Go.RowKit
theorem I9:∀ args w,(callFunc 169 args).run prog w=.ok (.enter 169 args) w:=enters func169 rfl (by kernel_rfl)
theorem aaz:∀ args w,(callFunc 170 args).run prog w=.ok (.enter 170 args) w:=enters func170 rfl (by kernel_rfl)
theorem SE:bV prog 159 5 5:=⟨by kernel_rfl⟩
theorem aaA:∀ args w,(callFunc 171 args).run prog w=.ok (.enter 171 args) w:=enters func171 rfl (by kernel_rfl)
theorem Sj:∀ args w,(callFunc 78 args).run prog w=.ok (.enter 78 args) w:=enters func78 rfl (by kernel_rfl)
theorem av.pre {G:GH} {sz:Nat} {rows:List (List Dat)} {A:Option Addr} {n c:Nat} (h:av G (.sl sz rows) (.slice A n c)) (k:Nat) (hk:k≤rows.length):av G (.sl sz (rows.take k)) (.slice A k c):=by
 have h:=h.part 0 k (gW _) hk
 have e:(if c=0 then A else A.map (·.add (0*sz)))=A:=by
  split
  ·rfl
  cases A <;> simp [Addr.add]
 rw [e] at h
 simpa using h
theorem ZM (G:GH) (w0:World) (hG:Hold G w0) (kind:Int):Calls prog 171 #[vi kind] w0 (aZ w0 G fun u G'=>u=vi (if kind=1 then 2 else 1)):=by
 refine eN [(0,_)] func171 rfl ntmps171 rfl rfl hG ?_;intro a H;refine kP H (SR fun _ K1=>ak K1 rfl (SQ fun _ K2=>SR fun _ K3=>Rm rfl (Rc rfl (Kz K3 (Cd rfl ?_ ?_))))) <;> clear H K1 K3
 ·intro h4 a H
  try have p4:=dT h4
  exact kP H (SR fun _ K4=>ak K4 rfl (LR results171 rfl fun H=>H.rt (by first|(rw [au (by omega)];done)|rw [ah (by omega)])))
 intro h4 a H
 try have p4:=dF h4
 exact kP H (Kc K2 (SR fun _ K5=>ak K5 rfl (LR results171 rfl fun H=>H.rt (by first|(rw [au (by omega)];done)|rw [ah (by omega)]))))
def vE (l:List bL) (k:Nat):Option Int:=if k=0 then none else l[k - 1]?.map bL.id
theorem J5 {l:List bL} {k:Nat} (h:k=0):vE l k=none:=au h
def Dt (k:Int):Bool:=decide (k=20) || decide (k=1)
def ku (q:Option Int) (dup:Bool) (s:bL):Int :=
 if s.id < 1∨1073741824 < s.id then 18 else if q=some s.id then 7 else if Es q s.id=true then 6 else if s.kind≠1∧s.kind≠2 then 3 else if lV s.name=false then 13 else if dup=true then 7
 else if s.props.any (fun p=>Dt p.key)=true then 4 else gL (if s.kind=1 then 2 else 1) s.props
def iy (l:List bL) (k:Nat) (s:bL):Int:=ku (vE l k) (Aq (l.take k) s.kind s.name).isSome s
set_option maxHeartbeats 1000000 in
theorem afr (G:GH) (w0:World) (hG:Hold G w0) (l:List bL) (k:Nat) (v:aj) (hv:av G (.sl 6 (l.map bL.dat)) v) (hk:k < l.length) (hs:l[k].name.size≤4611686018427387904) :
  Calls prog 138 #[v,vi k] w0 (aZ w0 G fun u G'=>u=vi (iy l k l[k])):=by
 obtain ⟨A,c,rfl,hc1,hc2,-⟩:=hv.slice;have hml:maxLen=9223372036854775807:=rfl;rw [bW] at *;obtain ⟨b,o,pA,pc,rfl,hrow,hp,hrep⟩:=zJ hv hk;obtain ⟨x,hx⟩:∃ x,x=l[k]:=⟨_,rfl⟩;rw [← hx] at hs hrow hp hrep ⊢;have hdp:∀ j v,[vi x.id,vi x.kind,.string x.name,vi x.base,vi x.next,.slice pA x.props.length pc][j]?=some v→aI G b (o+k*6+j)=some v:=hrow;obtain ⟨_,_,he0,ajj,ajk,-⟩:=hp.slice
 injection he0 with _ he1 he2
 rw [bW] at *;subst he2
 obtain ⟨pk,hpk⟩:∃ pk,0 < k→aI G b (o+(k - 1)*6+0)=some (vi pk)∧vE l k=some pk:=by
  by_cases h0:0 < k
  ·obtain ⟨b',o',_,_,he,hr',-,-⟩:=zJ hv (show k - 1 < l.length by omega)
   injection he with he
   injection he with e1 e2 e3
   subst e1;subst e2;exact ⟨_,fun _=>⟨hr' 0 _ rfl,by rw [vE,ah (by omega),gy (by omega)];rfl⟩⟩
  exact ⟨0,fun h=>absurd h h0⟩
 refine eN [(0,_),(1,_)] func138 rfl ntmps138 rfl rfl hG ?_;intro a H;refine kP H (SR fun _ K1=>ak K1 rfl (SR fun _ K2=>Rm rfl (Rm rfl (Ri mZ jK rfl rfl ?_))));clear H K1;intro a H;refine aW jK (cs:=[_,_,_,_,_,_]) H wn rfl rfl (fun j v hj=>H.hp.aI (hrow j v hj)) rfl ?_;clear H;intro a H;refine dx jK H wn rfl ?_;clear H;intro b5 a w hb5 H;refine aX jK 0 (vs:=[_,_,_,_,_,_]) _ H wn rfl rfl rfl rfl rfl rfl rfl rfl ?_;clear H;intro w H;dsimp only [List.set,setRow] at H;refine K2 _ _ ?_;clear K2;refine uU (ι:=GH) (Tc:=[(0,_),(1,_),(5,_)]) (Lc:=[(_,_)]) (fun gh=>[]) (fun gh=>[]) (fun gh=>gh) (fun gh=>¬ (x.id < 1∨1073741824 < x.id)∧¬ vE l k=some x.id∧¬ Es (vE l k) x.id=true∧¬ (x.kind≠1∧x.kind≠2)∧¬ lV x.name=false∧(∀ b o,G b=some o→gh b=some o)) (by exact (H).sub ⟨rfl,rfl,rfl,aD⟩) ?_ ?_
 ·skip;refine kP H (SB (SR fun _ K3=>aO sS aC 0 rfl rfl (Rc rfl (Rm rfl (Sp 18 rfl ?_ ?_))))) <;> clear H
  ·intro h18 a H
   try have rZ:=dT h18
   refine kH H (cK h18 rfl (Pt h18 rfl (ak K3 rfl (Ct rfl rfl (SR fun _ K4=>ak K4 rfl ?_)))));clear H K3 K4;intro a H;refine lr H results138 rfl ?_
   first
    | exact H.rt (ay vi e0.symm)
    | exact H.rt (ay vi e4.symm)
    | exact H.rt (ay vi e7.symm)
    | exact H.rt (ay vi e13.symm)
    | exact H.rt (ay vi e3.symm)
    | exact H.rt (ay vi e6.symm)
    | exact H.rt (ay vi (by rw [iy,ku,au (by omega)]))
  intro h18 a H
  try have rZ:=dF h18
  refine kH H (YF sS h18 rfl (YO aC 0 h18 rfl (YC h18 rfl (Pf h18 rfl (ak K3 rfl (Cd rfl ?_ ?_)))))) <;> clear H K3
  ·intro dX a H
   try have kJ:=dT dX
   refine kP H (SR fun _ K5=>ak K5 rfl ?_);clear H K5;intro a H;refine lr H results138 rfl ?_
   first
    | exact H.rt (ay vi e0.symm)
    | exact H.rt (ay vi e4.symm)
    | exact H.rt (ay vi e7.symm)
    | exact H.rt (ay vi e13.symm)
    | exact H.rt (ay vi e3.symm)
    | exact H.rt (ay vi e6.symm)
    | exact H.rt (ay vi (by rw [iy,ku,au (by omega)]))
  intro dX a H
  try have kJ:=dF dX
  refine bg (fun _ K6=>?_)
  by_cases c0:0 < (k:Int)
  ·skip
   by_cases c1:x.id=pk
   ·skip;refine dI hmx [[],[0],[0,1],[0,1,2],(ra 0 4),[0,1,2],[0,1,2],[0,1,2,6],[0,1,2,5,6,7],[0,1,2,5,6,7,8],[0,1,2,5,6,7,8,9],(ra 0 11),(ra 0 12),(ra 0 13)] [13] (by kernel_rfl) [_,_,_,_,vi x.id,_,_,vi ((k - 1:Nat):Int),_,_,_,_,_] H (aF (Z0 rfl (Rm rfl)) (Z1 0 24 rfl (Rc rfl)) (Z1 1 25 rfl (Rm rfl)) (Z1 2 26 rfl (YF sS (aG c0) rfl)) (aF (Z2 3 27 2 26 rfl (YO aC 0 (aG c0) rfl)) (Z1 2 26 rfl (YM (aG c0) rfl)) (Z1 2 26 rfl (YM (aG c0) rfl)) ?_ (aF (Z3 5 29 7 31 2 26 rfl (YI mZ jK (aG c0) rfl rfl)) (Z2 8 32 2 26 rfl (YF sS (aG c0) rfl)) (X2 9 33 2 26 rfl fun hG=>YR aC (aG c0) rfl (aL hG (hpk (by omega)).1)) (Z3 4 28 10 34 2 26 rfl (YC (aG c0) rfl)) (bM (Z2 2 26 11 35 rfl (Pt (aG c0) rfl)) (bM (bJ rfl) dP))))) ?_
    ·refine eB 6 30 2 26 rfl rfl fun _ a w G1 hG HT H fin=>?_;refine oV _ H (wg H rfl rfl (aG c0)) rfl rfl rfl (by omega) (by omega) rfl ?_;clear H;intro a H;exact fin H iJ (by show _=_;first|rfl|exact ay vi (by omega))
    clear H;intro a w G yZ H hv;have H:=H.aT (hv 12 36 rfl rfl) rfl;clear hv;refine kH H (Ra rfl ?_);clear H;intro a H;refine aH ⟨rfl,?_⟩;refine K6 _ _ ?_;clear K6;refine yI H rfl (aG c1) ?_;refine bg (fun _ K7=>?_)
    have e7:iy l k x=7:=by rw [iy,ku,ah (by omega),au (by rw [(hpk (by omega)).2,c1])]
    refine kP H (SC (aU K7 rfl ?_));clear H K7;intro a H;refine lr H results138 rfl ?_
    first
     | exact H.rt (ay vi e0.symm)
     | exact H.rt (ay vi e4.symm)
     | exact H.rt (ay vi e7.symm)
     | exact H.rt (ay vi e13.symm)
     | exact H.rt (ay vi e3.symm)
     | exact H.rt (ay vi e6.symm)
     | exact H.rt (ay vi (by rw [iy,ku,au (by omega)]))
   skip;refine dI hmx [[],[0],[0,1],[0,1,2],(ra 0 4),[0,1,2],[0,1,2],[0,1,2,6],[0,1,2,5,6,7],[0,1,2,5,6,7,8],[0,1,2,5,6,7,8,9],(ra 0 11),(ra 0 12),(ra 0 13)] [13] (by kernel_rfl) [_,_,_,_,vi x.id,_,_,vi ((k - 1:Nat):Int),_,_,_,_,_] H (aF (Z0 rfl (Rm rfl)) (Z1 0 24 rfl (Rc rfl)) (Z1 1 25 rfl (Rm rfl)) (Z1 2 26 rfl (YF sS (aG c0) rfl)) (aF (Z2 3 27 2 26 rfl (YO aC 0 (aG c0) rfl)) (Z1 2 26 rfl (YM (aG c0) rfl)) (Z1 2 26 rfl (YM (aG c0) rfl)) ?_ (aF (Z3 5 29 7 31 2 26 rfl (YI mZ jK (aG c0) rfl rfl)) (Z2 8 32 2 26 rfl (YF sS (aG c0) rfl)) (X2 9 33 2 26 rfl fun hG=>YR aC (aG c0) rfl (aL hG (hpk (by omega)).1)) (Z3 4 28 10 34 2 26 rfl (YC (aG c0) rfl)) (bM (Z2 2 26 11 35 rfl (Pt (aG c0) rfl)) (bM (bJ rfl) dP))))) ?_
   ·refine eB 6 30 2 26 rfl rfl fun _ a w G1 hG HT H fin=>?_;refine oV _ H (wg H rfl rfl (aG c0)) rfl rfl rfl (by omega) (by omega) rfl ?_;clear H;intro a H;exact fin H iJ (by show _=_;first|rfl|exact ay vi (by omega))
   clear H;intro a w G yZ H hv;have H:=H.aT (hv 12 36 rfl rfl) rfl;clear hv;refine kH H (Ra rfl ?_);clear H;intro a H;refine aH ⟨rfl,?_⟩;refine K6 _ _ ?_;clear K6;refine pJ H rfl (aR c1) ?_;refine bg (fun _ K8=>?_)
   have q1:¬ (0 < (k:Int)∧x.id=pk):=by first|exact fun h=>c1 h.2|exact fun h=>c0 h.1
   have q1':¬ vE l k=some x.id:=fun h=>q1 (by
    by_cases h0:0 < k
    ·rw [(hpk h0).2] at h
     injection h with h
     exact ⟨by omega,h.symm⟩
    rw [J5 (by omega)] at h
    cases h)
   by_cases c3:x.id < pk
   ·skip;refine dI hmx [[],[0],[0,1],[0,1,2],(ra 0 4),[0,1,2],[0,1,2],[0,1,2,6],[0,1,2,5,6,7],[0,1,2,5,6,7,8],[0,1,2,5,6,7,8,9],(ra 0 11),(ra 0 12),(ra 0 13)] [13] (by kernel_rfl) [_,_,_,_,vi x.id,_,_,vi ((k - 1:Nat):Int),_,_,_,_,_] H (aF (Z0 rfl (Rm rfl)) (Z1 0 38 rfl (Rc rfl)) (Z1 1 39 rfl (Rm rfl)) (Z1 2 40 rfl (YF sS (aG c0) rfl)) (aF (Z2 3 41 2 40 rfl (YO aC 0 (aG c0) rfl)) (Z1 2 40 rfl (YM (aG c0) rfl)) (Z1 2 40 rfl (YM (aG c0) rfl)) ?_ (aF (Z3 5 43 7 45 2 40 rfl (YI mZ jK (aG c0) rfl rfl)) (Z2 8 46 2 40 rfl (YF sS (aG c0) rfl)) (X2 9 47 2 40 rfl fun hG=>YR aC (aG c0) rfl (aL hG (aL yZ (hpk (by omega)).1))) (Z3 4 42 10 48 2 40 rfl (YC (aG c0) rfl)) (bM (Z2 2 40 11 49 rfl (Pt (aG c0) rfl)) (bM (bJ rfl) dP))))) ?_
    ·refine eB 6 44 2 40 rfl rfl fun _ a w G1 hG HT H fin=>?_;refine oV _ H (wg H rfl rfl (aG c0)) rfl rfl rfl (by omega) (by omega) rfl ?_;clear H;intro a H;exact fin H iJ (by show _=_;first|rfl|exact ay vi (by omega))
    clear H;intro a w G jF H hv;have H:=H.aT (hv 12 50 rfl rfl) rfl;clear hv;refine kH H (Ra rfl ?_);clear H;intro a H;refine aH ⟨rfl,?_⟩;refine K8 _ _ ?_;clear K8;refine yI H rfl (aG c3) ?_;refine bg (fun _ K9=>?_)
    have e6:iy l k x=6:=by rw [iy,ku,ah (by omega),ah q1',au (by rw [(hpk (by omega)).2];exact aG c3)]
    refine kP H (SC (aU K9 rfl ?_));clear H K9;intro a H;refine lr H results138 rfl ?_
    first
     | exact H.rt (ay vi e0.symm)
     | exact H.rt (ay vi e4.symm)
     | exact H.rt (ay vi e7.symm)
     | exact H.rt (ay vi e13.symm)
     | exact H.rt (ay vi e3.symm)
     | exact H.rt (ay vi e6.symm)
     | exact H.rt (ay vi (by rw [iy,ku,au (by omega)]))
   skip;refine dI hmx [[],[0],[0,1],[0,1,2],(ra 0 4),[0,1,2],[0,1,2],[0,1,2,6],[0,1,2,5,6,7],[0,1,2,5,6,7,8],[0,1,2,5,6,7,8,9],(ra 0 11),(ra 0 12),(ra 0 13)] [13] (by kernel_rfl) [_,_,_,_,vi x.id,_,_,vi ((k - 1:Nat):Int),_,_,_,_,_] H (aF (Z0 rfl (Rm rfl)) (Z1 0 38 rfl (Rc rfl)) (Z1 1 39 rfl (Rm rfl)) (Z1 2 40 rfl (YF sS (aG c0) rfl)) (aF (Z2 3 41 2 40 rfl (YO aC 0 (aG c0) rfl)) (Z1 2 40 rfl (YM (aG c0) rfl)) (Z1 2 40 rfl (YM (aG c0) rfl)) ?_ (aF (Z3 5 43 7 45 2 40 rfl (YI mZ jK (aG c0) rfl rfl)) (Z2 8 46 2 40 rfl (YF sS (aG c0) rfl)) (X2 9 47 2 40 rfl fun hG=>YR aC (aG c0) rfl (aL hG (aL yZ (hpk (by omega)).1))) (Z3 4 42 10 48 2 40 rfl (YC (aG c0) rfl)) (bM (Z2 2 40 11 49 rfl (Pt (aG c0) rfl)) (bM (bJ rfl) dP))))) ?_
   ·refine eB 6 44 2 40 rfl rfl fun _ a w G1 hG HT H fin=>?_;refine oV _ H (wg H rfl rfl (aG c0)) rfl rfl rfl (by omega) (by omega) rfl ?_;clear H;intro a H;exact fin H iJ (by show _=_;first|rfl|exact ay vi (by omega))
   clear H;intro a w G jF H hv;have H:=H.aT (hv 12 50 rfl rfl) rfl;clear hv;refine kH H (Ra rfl ?_);clear H;intro a H;refine aH ⟨rfl,?_⟩;refine K8 _ _ ?_;clear K8;refine pJ H rfl (aR c3) ?_;refine bg (fun _ aQ=>?_)
   have q2:¬ (0 < (k:Int)∧x.id < pk):=by first|exact fun h=>c3 h.2|exact fun h=>c0 h.1
   have q2':¬ Es (vE l k) x.id=true:=fun h=>q2 (by
    by_cases h0:0 < k
    ·rw [(hpk h0).2] at h;exact ⟨by omega,rF h⟩
    rw [J5 (by omega)] at h
    cases h)
   refine kP H (SC (aO vg aC 0 rfl rfl (Rc rfl (Rm rfl (Sp 55 rfl ?_ ?_))))) <;> clear H
   ·intro kI a H
    try have p55:=dT kI
    refine kH H (YF vg kI rfl (YO aC 0 kI rfl (YC kI rfl (Pt kI rfl (aU aQ rfl (Cd rfl ?_ ?_)))))) <;> clear H aQ
    ·intro gY a H
     try have p51:=dT gY
     refine bg (fun _ bH=>?_)
     have e3:iy l k x=3:=by rw [iy,ku,ah (by omega),ah q1',ah q2',au (by omega)]
     refine kP H (SC (aU bH rfl ?_));clear H bH;intro a H;refine lr H results138 rfl ?_
     first
      | exact H.rt (ay vi e0.symm)
      | exact H.rt (ay vi e4.symm)
      | exact H.rt (ay vi e7.symm)
      | exact H.rt (ay vi e13.symm)
      | exact H.rt (ay vi e3.symm)
      | exact H.rt (ay vi e6.symm)
      | exact H.rt (ay vi (by rw [iy,ku,au (by omega)]))
    intro gY a H
    try have p51:=dF gY
    refine kP H (SR fun _ bR=>aO DR iB 0 rfl rfl ?_);clear H;intro a H;refine s_call I9 H wn rfl (JN _ _ H.ro x.name hs) rfl ?_;clear H;rintro v63 Bz a w rfl hm63 H;refine kH H (Rn rfl (ak bR rfl (Cd rfl ?_ ?_))) <;> clear H bR
    ·intro gZ a H
     try have p60:=dT gZ
     refine bg (fun _ bY=>?_)
     have e13:iy l k x=13:=by rw [iy,ku,ah (by omega),ah q1',ah q2',ah (by omega),au (by simpa using gZ)]
     refine kP H (SC (aU bY rfl ?_));clear H bY;intro a H;refine lr H results138 rfl ?_
     first
      | exact H.rt (ay vi e0.symm)
      | exact H.rt (ay vi e4.symm)
      | exact H.rt (ay vi e7.symm)
      | exact H.rt (ay vi e13.symm)
      | exact H.rt (ay vi e3.symm)
      | exact H.rt (ay vi e6.symm)
      | exact H.rt (ay vi (by rw [iy,ku,au (by omega)]))
    intro gZ a H
    try have p60:=dF gZ
    refine fQ ?_;refine ⟨Bz,by exact (H).sub ⟨rfl,rfl,rfl,aD⟩,?_⟩;exact ⟨by omega,q1',q2',by omega,by simpa using gZ,fun b o h=>hm63 b o (jF b o (yZ b o h))⟩
   intro kI a H
   try have p55:=dF kI
   refine kH H (cK kI rfl (Pf kI rfl (aU aQ rfl (Cf rfl rfl (SR fun _ bX=>aO DR iB 0 rfl rfl ?_)))));clear H aQ;intro a H;refine s_call I9 H wn rfl (JN _ _ H.ro x.name hs) rfl ?_;clear H;rintro v63 Bz a w rfl hm63 H;refine kH H (Rn rfl (ak bX rfl (Cd rfl ?_ ?_))) <;> clear H bX
   ·intro gZ a H
    try have p60:=dT gZ
    refine bg (fun _ dO=>?_)
    have e13:iy l k x=13:=by rw [iy,ku,ah (by omega),ah q1',ah q2',ah (by omega),au (by simpa using gZ)]
    refine kP H (SC (aU dO rfl ?_));clear H dO;intro a H;refine lr H results138 rfl ?_
    first
     | exact H.rt (ay vi e0.symm)
     | exact H.rt (ay vi e4.symm)
     | exact H.rt (ay vi e7.symm)
     | exact H.rt (ay vi e13.symm)
     | exact H.rt (ay vi e3.symm)
     | exact H.rt (ay vi e6.symm)
     | exact H.rt (ay vi (by rw [iy,ku,au (by omega)]))
   intro gZ a H
   try have p60:=dF gZ
   refine fQ ?_;refine ⟨Bz,by exact (H).sub ⟨rfl,rfl,rfl,aD⟩,?_⟩;exact ⟨by omega,q1',q2',by omega,by simpa using gZ,fun b o h=>hm63 b o (jF b o (yZ b o h))⟩
  skip;refine dI hmx [[],[0],[0,1],[0,1,2],(ra 0 4),[0,1,2],[0,1,2],[0,1,2,6],[0,1,2,5,6,7],[0,1,2,5,6,7,8],[0,1,2,5,6,7,8,9],(ra 0 11),(ra 0 12),(ra 0 13)] [13] (by kernel_rfl) [_,_,_,undef,undef,undef,undef,undef,undef,undef,undef,undef,_] H (aF (Z0 rfl (Rm rfl)) (Z1 0 24 rfl (Rc rfl)) (Z1 1 25 rfl (Rm rfl)) (bq (j:=2) (by kernel_rfl) (fun _ _ _ _ _ h=>h) rfl rfl rfl rfl rfl (fun _ _ h=>bD h (aM (aR c0))) rfl (fun _=>rfl)) (aF (bq (j:=2) (by kernel_rfl) (fun _ _ _ _ _ h=>h) rfl rfl rfl rfl rfl (fun _ _ h=>bD h (aM (aR c0))) rfl (fun _=>rfl)) (bq (j:=2) (by kernel_rfl) (fun _ _ _ _ _ h=>h) rfl rfl rfl rfl rfl (fun _ _ h=>bD h (aM (aR c0))) rfl (fun _=>rfl)) (bq (j:=2) (by kernel_rfl) (fun _ _ _ _ _ h=>h) rfl rfl rfl rfl rfl (fun _ _ h=>bD h (aM (aR c0))) rfl (fun _=>rfl)) (bq (j:=2) (by kernel_rfl) (fun _ _ _ _ _ h=>h) rfl rfl rfl rfl rfl (fun _ _ h=>bD h (aM (aR c0))) rfl (fun _=>rfl)) (aF (bq (j:=2) (by kernel_rfl) (fun _ _ _ _ _ h=>h) rfl rfl rfl rfl rfl (fun _ _ h=>bD h (aM (aR c0))) rfl (fun _=>rfl)) (bq (j:=2) (by kernel_rfl) (fun _ _ _ _ _ h=>h) rfl rfl rfl rfl rfl (fun _ _ h=>bD h (aM (aR c0))) rfl (fun _=>rfl)) (bq (j:=2) (by kernel_rfl) (fun _ _ _ _ _ h=>h) rfl rfl rfl rfl rfl (fun _ _ h=>bD h (aM (aR c0))) rfl (fun _=>rfl)) (bq (j:=2) (by kernel_rfl) (fun _ _ _ _ _ h=>h) rfl rfl rfl rfl rfl (fun _ _ h=>bD h (aM (aR c0))) rfl (fun _=>rfl)) (bM (Z2 2 26 11 35 rfl (Pf (aR c0) rfl)) (bM (bJ rfl) dP))))) ?_
  clear H;intro a w G yZ H hv;have H:=H.aT (hv 12 36 rfl rfl) rfl;clear hv;refine kH H (Ra rfl ?_);clear H;intro a H;refine aH ⟨rfl,?_⟩;refine K6 _ _ ?_;clear K6;refine pJ H rfl rfl ?_;refine bg (fun _ dJ=>?_)
  have q1:¬ (0 < (k:Int)∧x.id=pk):=by first|exact fun h=>c1 h.2|exact fun h=>c0 h.1
  have q1':¬ vE l k=some x.id:=fun h=>q1 (by
   by_cases h0:0 < k
   ·rw [(hpk h0).2] at h
    injection h with h
    exact ⟨by omega,h.symm⟩
   rw [J5 (by omega)] at h
   cases h)
  refine dI hmx [[],[0],[0,1],[0,1,2],(ra 0 4),[0,1,2],[0,1,2],[0,1,2,6],[0,1,2,5,6,7],[0,1,2,5,6,7,8],[0,1,2,5,6,7,8,9],(ra 0 11),(ra 0 12),(ra 0 13)] [13] (by kernel_rfl) [_,_,_,undef,undef,undef,undef,undef,undef,undef,undef,undef,_] H (aF (Z0 rfl (Rm rfl)) (Z1 0 38 rfl (Rc rfl)) (Z1 1 39 rfl (Rm rfl)) (bq (j:=2) (by kernel_rfl) (fun _ _ _ _ _ h=>h) rfl rfl rfl rfl rfl (fun _ _ h=>bD h (aM (aR c0))) rfl (fun _=>rfl)) (aF (bq (j:=2) (by kernel_rfl) (fun _ _ _ _ _ h=>h) rfl rfl rfl rfl rfl (fun _ _ h=>bD h (aM (aR c0))) rfl (fun _=>rfl)) (bq (j:=2) (by kernel_rfl) (fun _ _ _ _ _ h=>h) rfl rfl rfl rfl rfl (fun _ _ h=>bD h (aM (aR c0))) rfl (fun _=>rfl)) (bq (j:=2) (by kernel_rfl) (fun _ _ _ _ _ h=>h) rfl rfl rfl rfl rfl (fun _ _ h=>bD h (aM (aR c0))) rfl (fun _=>rfl)) (bq (j:=2) (by kernel_rfl) (fun _ _ _ _ _ h=>h) rfl rfl rfl rfl rfl (fun _ _ h=>bD h (aM (aR c0))) rfl (fun _=>rfl)) (aF (bq (j:=2) (by kernel_rfl) (fun _ _ _ _ _ h=>h) rfl rfl rfl rfl rfl (fun _ _ h=>bD h (aM (aR c0))) rfl (fun _=>rfl)) (bq (j:=2) (by kernel_rfl) (fun _ _ _ _ _ h=>h) rfl rfl rfl rfl rfl (fun _ _ h=>bD h (aM (aR c0))) rfl (fun _=>rfl)) (bq (j:=2) (by kernel_rfl) (fun _ _ _ _ _ h=>h) rfl rfl rfl rfl rfl (fun _ _ h=>bD h (aM (aR c0))) rfl (fun _=>rfl)) (bq (j:=2) (by kernel_rfl) (fun _ _ _ _ _ h=>h) rfl rfl rfl rfl rfl (fun _ _ h=>bD h (aM (aR c0))) rfl (fun _=>rfl)) (bM (Z2 2 40 11 49 rfl (Pf (aR c0) rfl)) (bM (bJ rfl) dP))))) ?_
  clear H;intro a w G jF H hv;have H:=H.aT (hv 12 50 rfl rfl) rfl;clear hv;refine kH H (Ra rfl ?_);clear H;intro a H;refine aH ⟨rfl,?_⟩;refine dJ _ _ ?_;clear dJ;refine pJ H rfl rfl ?_;refine bg (fun _ dD=>?_)
  have q2:¬ (0 < (k:Int)∧x.id < pk):=by first|exact fun h=>c3 h.2|exact fun h=>c0 h.1
  have q2':¬ Es (vE l k) x.id=true:=fun h=>q2 (by
   by_cases h0:0 < k
   ·rw [(hpk h0).2] at h;exact ⟨by omega,rF h⟩
   rw [J5 (by omega)] at h
   cases h)
  refine kP H (SC (aO vg aC 0 rfl rfl (Rc rfl (Rm rfl (Sp 55 rfl ?_ ?_))))) <;> clear H
  ·intro kI a H
   try have p55:=dT kI
   refine kH H (YF vg kI rfl (YO aC 0 kI rfl (YC kI rfl (Pt kI rfl (aU dD rfl (Cd rfl ?_ ?_)))))) <;> clear H dD
   ·intro gY a H
    try have p51:=dT gY
    refine bg (fun _ dU=>?_)
    have e3:iy l k x=3:=by rw [iy,ku,ah (by omega),ah q1',ah q2',au (by omega)]
    refine kP H (SC (aU dU rfl ?_));clear H dU;intro a H;refine lr H results138 rfl ?_
    first
     | exact H.rt (ay vi e0.symm)
     | exact H.rt (ay vi e4.symm)
     | exact H.rt (ay vi e7.symm)
     | exact H.rt (ay vi e13.symm)
     | exact H.rt (ay vi e3.symm)
     | exact H.rt (ay vi e6.symm)
     | exact H.rt (ay vi (by rw [iy,ku,au (by omega)]))
   intro gY a H
   try have p51:=dF gY
   refine kP H (SR fun _ fP=>aO DR iB 0 rfl rfl ?_);clear H;intro a H;refine s_call I9 H wn rfl (JN _ _ H.ro x.name hs) rfl ?_;clear H;rintro v63 Bz a w rfl hm63 H;refine kH H (Rn rfl (ak fP rfl (Cd rfl ?_ ?_))) <;> clear H fP
   ·intro gZ a H
    try have p60:=dT gZ
    refine bg (fun _ eG=>?_)
    have e13:iy l k x=13:=by rw [iy,ku,ah (by omega),ah q1',ah q2',ah (by omega),au (by simpa using gZ)]
    refine kP H (SC (aU eG rfl ?_));clear H eG;intro a H;refine lr H results138 rfl ?_
    first
     | exact H.rt (ay vi e0.symm)
     | exact H.rt (ay vi e4.symm)
     | exact H.rt (ay vi e7.symm)
     | exact H.rt (ay vi e13.symm)
     | exact H.rt (ay vi e3.symm)
     | exact H.rt (ay vi e6.symm)
     | exact H.rt (ay vi (by rw [iy,ku,au (by omega)]))
   intro gZ a H
   try have p60:=dF gZ
   refine fQ ?_;refine ⟨Bz,by exact (H).sub ⟨rfl,rfl,rfl,aD⟩,?_⟩;exact ⟨by omega,q1',q2',by omega,by simpa using gZ,fun b o h=>hm63 b o (jF b o (yZ b o h))⟩
  intro kI a H
  try have p55:=dF kI
  refine kH H (cK kI rfl (Pf kI rfl (aU dD rfl (Cf rfl rfl (SR fun _ fZ=>aO DR iB 0 rfl rfl ?_)))));clear H dD;intro a H;refine s_call I9 H wn rfl (JN _ _ H.ro x.name hs) rfl ?_;clear H;rintro v63 Bz a w rfl hm63 H;refine kH H (Rn rfl (ak fZ rfl (Cd rfl ?_ ?_))) <;> clear H fZ
  ·intro gZ a H
   try have p60:=dT gZ
   refine bg (fun _ gN=>?_)
   have e13:iy l k x=13:=by rw [iy,ku,ah (by omega),ah q1',ah q2',ah (by omega),au (by simpa using gZ)]
   refine kP H (SC (aU gN rfl ?_));clear H gN;intro a H;refine lr H results138 rfl ?_
   first
    | exact H.rt (ay vi e0.symm)
    | exact H.rt (ay vi e4.symm)
    | exact H.rt (ay vi e7.symm)
    | exact H.rt (ay vi e13.symm)
    | exact H.rt (ay vi e3.symm)
    | exact H.rt (ay vi e6.symm)
    | exact H.rt (ay vi (by rw [iy,ku,au (by omega)]))
  intro gZ a H
  try have p60:=dF gZ
  refine fQ ?_;refine ⟨Bz,by exact (H).sub ⟨rfl,rfl,rfl,aD⟩,?_⟩;exact ⟨by omega,q1',q2',by omega,by simpa using gZ,fun b o h=>hm63 b o (jF b o (yZ b o h))⟩
 clear H;intro gh a w hI H;obtain ⟨g,hgh⟩:∃ x,x=gh:=⟨_,rfl⟩;subst hgh;obtain ⟨q0,q1',q2',q3,q4,hgm⟩:=hI;dsimp only [lca,aV] at H;refine bg (fun _ iW=>?_);refine bg (fun _ iN=>?_);have TW:=(hv.mono hgm).pre k (by rw [bW];omega);rw [← List.map_take] at TW;have aeb:=hp.mono hgm;refine dI hmx [[],[],[0,1],[],[3],[],[5],(ra 0 7),(ra 0 8),(ra 0 9),(ra 0 9),(ra 0 10),(ra 0 12)] [12] (by kernel_rfl) [_,_,.slice (some ⟨b,o,none⟩) k c,_,vi x.kind,_,.string x.name,.tuple #[vi (max (nH (Aq (l.take k) x.kind x.name)) 0),.bool (Aq (l.take k) x.kind x.name).isSome],_,vi (max (nH (Aq (l.take k) x.kind x.name)) 0),.bool (Aq (l.take k) x.kind x.name).isSome,_] H (aF (Z0 rfl (Rm rfl)) (Z0 rfl (Rm rfl)) ?_ (Z0 rfl (Rf vg rfl)) (aF (Z1 3 69 rfl (Ro aC 0 rfl)) (Z0 rfl (Rf DR rfl)) (Z1 5 71 rfl (Ro iB 0 rfl)) ?_ (aF (Z1 7 73 rfl (Rm rfl)) ?_ ?_ (Z1 9 74 rfl (Ra rfl)) (bM (bJ rfl) dP)))) ?_
 ·refine eB 0 66 1 67 rfl rfl fun _ a w G1 hG HT H fin=>?_;refine Vx mZ jK k H wn rfl rfl rfl (by omega) rfl ?_;clear H;intro a H;exact fin H iJ rfl
 ·refine wY 2 68 4 70 6 72 rfl rfl fun _ a w G1 hG HT H fin=>?_;refine s_call aaz H wn rfl (acv _ _ H.ro (l.take k) x.kind x.name _ (TW.mono hG)) rfl ?_;clear H;rintro v73 Xp a w rfl acW H;exact fin H acW (rfl)
 ·refine eH 8 65 rfl rfl fun _ a w G1 hG HT H fin=>?_;refine jy H wn rfl rfl rfl ?_;clear H;intro a H;exact fin H iJ rfl
 ·refine eH 8 65 rfl rfl fun _ a w G1 hG HT H fin=>?_;refine jy H wn rfl rfl rfl ?_;clear H;intro a H;exact fin H iJ rfl
 clear H;intro a w G pO H hv;have H:=H.aT (hv 10 75 rfl rfl) rfl;clear hv;refine kH H (Ra rfl ?_);clear H;intro a H;refine aH ⟨rfl,?_⟩;refine iN _ _ ?_;clear iN;refine kP H (SR fun _ iO=>Rm rfl (Kz iO (Cd rfl ?_ ?_))) <;> clear H iO
 ·intro Gj a H
  try have p76:=dT Gj
  refine bg (fun _ jM=>?_)
  have e7:iy l k x=7:=by rw [iy,ku,ah (by omega),ah q1',ah q2',ah q3,ah q4,au Gj]
  refine kP H (SC (aU jM rfl ?_));clear H jM;intro a H;refine lr H results138 rfl ?_
  first
   | exact H.rt (ay vi e0.symm)
   | exact H.rt (ay vi e4.symm)
   | exact H.rt (ay vi e7.symm)
   | exact H.rt (ay vi e13.symm)
   | exact H.rt (ay vi e3.symm)
   | exact H.rt (ay vi e6.symm)
   | exact H.rt (ay vi (by rw [iy,ku,au (by omega)]))
 intro Gj a H
 try have p76:=dF Gj
 refine kP H (Kc iW (SQ fun _ kC=>SQ fun _ jo=>?_));clear H iW;intro a H
 have q5:¬ (Aq (l.take k) x.kind x.name).isSome=true:=by simpa using Gj
 have A9:=aeb.mono pO;refine kP H (SC (aO SE EM 0 rfl rfl (Rl tO rfl (Rm rfl (Kn jo (SB ?_))))));clear H jo;intro a H;skip;refine gq (ι:=Nat) (Tc:=[(5,_),(78,_),(79,_)]) (Lc:=[(_,_)]) (fun gh=>[(80,vi gh)]) (fun gh=>[]) (fun gh=>G) (fun gh=>gh≤x.props.length∧(x.props.take gh).any (fun p=>Dt p.key)=false) (fun gh=>x.props.length - gh) (0) (by exact (H).sub ⟨rfl,rfl,rfl,rfl,aD⟩) ?_ ?_
 ·exact ⟨gW _,rfl⟩
 clear H;intro gh a w hI H;obtain ⟨n,hgh⟩:∃ x,x=gh:=⟨_,rfl⟩;subst hgh;obtain ⟨hn,hno⟩:=hI;dsimp only [lca,aV] at H;refine kP H (SR fun _ ng=>Rc rfl (Kz ng (SQ fun _ nO=>Cd rfl ?_ ?_))) <;> clear H ng
 ·intro M7 a H
  try have p81:=dT M7
  have hn2:n < x.props.length:=by omega
  obtain ⟨pb,po,rfl,hrow2⟩:=J6 A9 hn2;have hrow:=hrow2;refine kP H (Kc nO (SQ fun _ ow=>SB (SR fun _ nQ=>Ri tO oZ rfl rfl ?_)));clear H nO;intro a H;refine aW oZ (cs:=[_,_]) H wn rfl rfl (fun j v hj=>H.hp.aI (hrow j v hj)) rfl ?_;clear H;intro a H;refine dx oZ H wn rfl ?_;clear H;intro b9 a w um H;refine aX oZ 0 (vs:=[_,_]) _ H wn rfl rfl rfl rfl rfl rfl rfl rfl ?_;clear H;intro w H;dsimp only [List.set,setRow] at H;refine nQ _ _ ?_;clear nQ;refine kP H (SR fun _ nk=>aO tZ aC 0 rfl rfl (Rc rfl (Rm rfl (Sp 87 rfl ?_ ?_)))) <;> clear H
  ·intro h87 a H
   try have OW:=dT h87
   refine kH H (cK h87 rfl (Pt h87 rfl (Kz nk (Ct rfl rfl (SQ fun _ pF=>?_)))));clear H nk;intro a H
   have e4:iy l k x=4:=by
    rw [iy,ku,ah (by omega),ah q1',ah q2',ah q3,ah q4,ah q5,au];rw [List.any_eq_true];exact ⟨x.props[n],jT hn2,by simp [Dt];omega⟩
   refine kP H (SC (aU pF rfl ?_));clear H pF;intro a H;refine lr H results138 rfl ?_
   first
    | exact H.rt (ay vi e0.symm)
    | exact H.rt (ay vi e4.symm)
    | exact H.rt (ay vi e7.symm)
    | exact H.rt (ay vi e13.symm)
    | exact H.rt (ay vi e3.symm)
    | exact H.rt (ay vi e6.symm)
    | exact H.rt (ay vi (by rw [iy,ku,au (by omega)]))
  intro h87 a H
  try have OW:=dF h87
  refine kH H (YF tZ h87 rfl (YO aC 0 h87 rfl (YC h87 rfl (Pf h87 rfl (Kz nk (Cd rfl ?_ ?_)))))) <;> clear H nk
  ·intro M8 a H
   try have p91:=dT M8
   refine bg (fun _ qN=>?_)
   have e4:iy l k x=4:=by
    rw [iy,ku,ah (by omega),ah q1',ah q2',ah q3,ah q4,ah q5,au];rw [List.any_eq_true];exact ⟨x.props[n],jT hn2,by simp [Dt];omega⟩
   refine kP H (SC (aU qN rfl ?_));clear H qN;intro a H;refine lr H results138 rfl ?_
   first
    | exact H.rt (ay vi e0.symm)
    | exact H.rt (ay vi e4.symm)
    | exact H.rt (ay vi e7.symm)
    | exact H.rt (ay vi e13.symm)
    | exact H.rt (ay vi e3.symm)
    | exact H.rt (ay vi e6.symm)
    | exact H.rt (ay vi (by rw [iy,ku,au (by omega)]))
  intro M8 a H
  try have p91:=dF M8
  refine kP H (Kc ow (SC (Rd rfl (Rm rfl ?_))));clear H ow;intro a H;refine aH ?_;refine eO ((n+1)) (by exact (H.bU (Pl:=[_,_]) (bN:=[_]) [1] (by decide) rfl).sub ⟨rfl,rfl,rfl,rfl,aD⟩) ?_ ?_
  ·exact ⟨by omega,by rw [mP hn2,List.any_append,hno];simp [Dt];omega⟩
  first|omega|(dsimp only;omega)
 intro M7 a H
 try have p81:=dF M7
 refine fI ?_;refine kC _ _ ?_;clear kC;refine bg (fun _ oz=>?_)
 have q6:¬ x.props.any (fun p=>Dt p.key)=true:=by
  rw [show x.props.take n=x.props from jU (by omega)] at hno;rw [hno];decide
 have e0:iy l k x=gL (if x.kind=1 then 2 else 1) x.props:=by rw [iy,ku,ah (by omega),ah q1',ah q2',ah q3,ah q4,ah q5,ah q6]
 refine dI hmx [[],[0],[0,1],[],[3],(ra 0 5),(ra 0 6)] [5,6] (by kernel_rfl) [_,vi x.kind,vi (if x.kind=1 then 2 else 1),_,.slice pA x.props.length pc] H (aF (Z0 rfl (Rf vg rfl)) (Z1 0 93 rfl (Ro aC 0 rfl)) ?_ (Z0 rfl (Rf SE rfl)) (bM (Z1 3 96 rfl (Ro EM 0 rfl)) (bM (bJ rfl) (bM (bJ rfl) dP)))) ?_
 ·refine eH 1 94 rfl rfl fun _ a w G1 hG HT H fin=>?_;refine s_call aaA H wn rfl (ZM _ _ H.ro x.kind) rfl ?_;clear H;rintro v95 G95 a w rfl acX H;exact fin H acX (rfl)
 clear H;intro a w G D8 H hv;have H:=H.aT (hv 2 95 rfl rfl) rfl;have H:=H.aT (hv 4 97 rfl rfl) rfl;clear hv;refine s_call Sj H wn rfl (U5 _ _ H.ro _ x.props _ (A9.mono D8)) rfl ?_;clear H;rintro v98 G98 a w rfl ajg H;refine kH H (Ra rfl ?_);clear H;intro a H;refine aH ⟨rfl,?_⟩;refine oz _ _ ?_;clear oz;refine lr H results138 rfl ?_
 first
  | exact H.rt (ay vi e0.symm)
  | exact H.rt (ay vi e4.symm)
  | exact H.rt (ay vi e7.symm)
  | exact H.rt (ay vi e13.symm)
  | exact H.rt (ay vi e3.symm)
  | exact H.rt (ay vi e6.symm)
  | exact H.rt (ay vi (by rw [iy,ku,au (by omega)]))
end
section
open Go.RowKit
theorem ER:Ty prog 33 1 24 [.slice none 0 0] false:=⟨by kernel_rfl,by kernel_rfl⟩
theorem C8:prog.underlying 33=some (.slice 96):=by kernel_rfl
theorem Bo:Ty prog 96 6 64 [.int .i64 0,.int .i64 0,.string ⟨#[]⟩,.int .i64 0,.string ⟨#[]⟩,.bool false] true:=⟨by kernel_rfl,by kernel_rfl⟩
theorem SY:bV prog 96 0 0:=⟨by kernel_rfl⟩
theorem S9:bV prog 96 1 1:=⟨by kernel_rfl⟩
theorem aaL:∀ args w,(callFunc 185 args).run prog w=.ok (.enter 185 args) w:=enters func185 rfl (by kernel_rfl)
theorem aas:∀ args w,(callFunc 161 args).run prog w=.ok (.enter 161 args) w:=enters func161 rfl (by kernel_rfl)
theorem acn:bV prog 96 2 2:=⟨by kernel_rfl⟩
theorem RZ:∀ args w,(callFunc 127 args).run prog w=.ok (.enter 127 args) w:=enters func127 rfl (by kernel_rfl)
theorem aco:bV prog 96 3 3:=⟨by kernel_rfl⟩
theorem acp:bV prog 96 4 4:=⟨by kernel_rfl⟩
theorem Mr:∀ args w,(callFunc 164 args).run prog w=.ok (.enter 164 args) w:=enters func164 rfl (by kernel_rfl)
theorem aau:∀ args w,(callFunc 163 args).run prog w=.ok (.enter 163 args) w:=enters func163 rfl (by kernel_rfl)
theorem aat:∀ args w,(callFunc 162 args).run prog w=.ok (.enter 162 args) w:=enters func162 rfl (by kernel_rfl)
theorem aar:∀ args w,(callFunc 160 args).run prog w=.ok (.enter 160 args) w:=enters func160 rfl (by kernel_rfl)
theorem Co {G:GH} {b:Nat} (l:List Int) (h:G b=some (.cells (l.map vi).toArray 41 (0,0))) (hl:l.length≤maxLen):av G (.sl 1 (l.map fun k=>[li k])) (.slice (some ⟨b,0,none⟩) l.length l.length) :=
 av.dS h (by simp) (bP _) hl (jU (by simp)) (eD G l)
theorem L8 {G:GH} {l:List iC} {A:Option Addr} {n c k:Nat} (hv:av G (.sl 6 (l.map iC.dat)) (.slice A n c)) (hk:k < l.length):∃ b o,A=some ⟨b,o,none⟩∧(∀ j u,l[k].cells[j]?=some u→aI G b (o+k*6+j)=some u)∧aS G l[k].dat l[k].cells:=by
 obtain ⟨A',c',he,_,_,hg⟩:=hv.slice
 injection he with e1 e2 e3
 subst e1;obtain ⟨b,o,cs,h1,h2,h3,h4⟩:=hg k l[k].dat (by simp [hk]);have:=Rw h4;subst this;exact ⟨b,o,h1,h3,h4⟩
theorem Y7 {G:GH} {bl:Nat} {l:List iC} {A:Option Addr} {n c:Nat} (hb:aI G bl 0=some (.slice A n c)) (hv:av G (.sl 6 (l.map iC.dat)) (.slice A n c)):qM (.func (.func 163) #[] #[(aJ bl 0)]) G l.length fun k=>(l[k]?.map iC.id).getD 0:=by
 intro k hk G1 w0 hm hG;refine kG (caps:=[(aJ bl 0)]) aau ?_;replace hb:=aL hm hb
 obtain rfl:n=l.length:=by have:=hv.len;simpa using this
 obtain ⟨b,o,rfl,hrow,-⟩:=L8 (hv.mono hm) hk;have hq:=hrow 0 _ rfl;refine eN [(0,_),(1,_)] func163 rfl ntmps163 rfl rfl hG ?_;intro a H;refine kP H (SR fun _ K1=>ak K1 rfl (SR fun _ K2=>Rg ER rfl (by assumption) ?_));clear H K1;intro a H;refine kH H (Rm rfl (Ri C8 Bo rfl rfl (Rf SY rfl (Rg aC rfl (by assumption) ?_))));clear H;intro a H;exact kH H (ak K2 rfl (LR results163 rfl fun H=>H.rt (by dsimp only;rw [gy hk];rfl)))
theorem Y9 {G:GH} {bc:Nat} {x:iC} (hb:aI G bc 1=some (vi x.parent)) (y:iC):rC (.func (.func 162) #[] #[(aJ bc 0)]) G y.dat (decide (y.id=x.parent)):=by
 intro G1 w0 cs hm hG hr;refine kG (caps:=[(aJ bc 0)]) aat ?_;obtain rfl:=Rw hr;replace hb:=aL hm hb;refine eN [(0,_),(1,_)] func162 rfl ntmps162 rfl rfl hG ?_;intro a H;refine bK (fun _ K1=>?_);refine dz (cs:=[_,_,_,_,_,_]) H wn rfl rfl rfl ?_;clear H;intro b2 a w hb2 H;refine kH H (ak K1 rfl (SR fun _ K2=>aO SY aC 0 rfl rfl (Rf S9 rfl (Rg aC rfl (by assumption) ?_))));clear H K1;intro a H;exact kH H (Rc rfl (ak K2 rfl (LR results162 rfl fun H=>H.rt rfl)))
theorem aeA (G:GH) (w0:World) (hG:Hold G w0) (l:List iC) (p:iC→Bool) (v fv:aj) (hv:av G (.sl 6 (l.map iC.dat)) v) (hf:∀ x∈l,rC fv G x.dat (p x)) :
  Calls prog 185 #[v,fv] w0 (aZ w0 G fun u G'=>u=vi (nH (l.findIdx? p))):=by
 obtain ⟨A,c,rfl,hc1,hc2,hg⟩:=hv.slice;have hml:maxLen=9223372036854775807:=rfl;rw [bW] at *;refine eN [(0,_),(1,_)] func185 rfl ntmps185 rfl rfl hG ?_;intro a H;refine kP H (SR fun _ K1=>ak K1 rfl (SQ fun _ K2=>SR fun _ K3=>Rm rfl (Rl C8 rfl (Rm rfl (Kz K3 (SB ?_))))));clear H K1 K3;intro a H;skip;refine gq (ι:=Nat × GH) (Tc:=[(0,_),(1,_),(7,_)]) (Lc:=[]) (fun gh=>[(8,vi gh.1)]) (fun gh=>[]) (fun gh=>gh.2) (fun gh=>gh.1≤l.length∧(l.take gh.1).findIdx? p=none∧(∀ b o,G b=some o→gh.2 b=some o)) (fun gh=>l.length - gh.1) ((0,G)) (by exact (H).sub ⟨rfl,rfl,rfl,rfl,aD⟩) ?_ ?_
 ·exact ⟨by omega,rfl,fun _ _ h=>h⟩
 clear H;intro gh a w hI H;obtain ⟨k,g⟩:=gh;dsimp only at hI H;obtain ⟨hk,hno,hgm⟩:=hI;dsimp only [lca,aV] at H;refine kP H (SR fun _ K4=>Rc rfl (Kz K4 (SQ fun _ K5=>Cd rfl ?_ ?_))) <;> clear H K4
 ·intro h9 a H
  try have p9:=dT h9
  have hk2:k < l.length:=by omega
  obtain ⟨b,o,rfl,hrow,hrep⟩:=L8 hv hk2;refine kP H (Kc K5 (SQ fun _ K6=>SB (SR fun _ K7=>Rm rfl (ak K7 rfl (SR fun _ K8=>Rm rfl (Rm rfl (Rm rfl (Ri C8 Bo rfl rfl ?_))))))));clear H K5 K7;intro a H;refine aW Bo (cs:=l[k].cells) H wn rfl rfl (fun j v hj=>H.hp.aI (aL hgm (hrow j v hj))) rfl ?_;clear H;intro a H;refine oU H wn rfl rfl (hf _ (jT hk2) _ _ _ hgm H.ro (hrep.mono hgm)) rfl ?_;clear H;rintro v16 sG a w rfl qw H;refine K8 _ _ ?_;clear K8;refine mV H rfl ?_ ?_
  ·intro h16
   try have p16:=dT h16
   refine kP H (SR fun _ K9=>Rm rfl (ak K9 rfl ?_));clear H K9;intro a H;refine lr H results185 rfl ?_
   first
    | exact H.rt (by rw [tC hk2 hno h16];rfl)
    | exact H.rt (by rw [show l.take k=l from jU (by omega)] at hno;rw [hno];rfl)
  intro h16
  try have p16:=dF h16
  refine kP H (Kc K6 (SC (Rd rfl (Rm rfl ?_))));clear H K6;intro a H;refine aH ?_;refine eO ((k+1,sG)) (by exact (H).sub ⟨rfl,rfl,rfl,rfl,aD⟩) ?_ ?_
  ·(try dsimp only);exact ⟨by omega,Bb hk2 hno h16,fun b o h=>qw b o (hgm b o h)⟩
  first|omega|(dsimp only;omega)
 intro h9 a H
 try have p9:=dF h9
 refine fI ?_;refine K2 _ _ ?_;clear K2;refine kP H (SR fun _ aQ=>ak aQ rfl ?_);clear H aQ;intro a H;refine lr H results185 rfl ?_
 first
  | exact H.rt (by rw [tC hk2 hno h16];rfl)
  | exact H.rt (by rw [show l.take k=l from jU (by omega)] at hno;rw [hno];rfl)
theorem Zd (G:GH) (w0:World) (hG:Hold G w0) (l:List iC) (p:iC→Bool) (v fv:aj) (hv:av G (.sl 6 (l.map iC.dat)) v) (hf:∀ x∈l,rC fv G x.dat (p x)) :
  Calls prog 161 #[v,fv] w0 (aZ w0 G fun u G'=>u=.bool (l.findIdx? p).isSome):=by
 obtain ⟨A,c,rfl,hc1,hc2,-⟩:=hv.slice;rw [bW] at *;refine eN [(0,_),(1,_)] func161 rfl ntmps161 rfl rfl hG ?_;intro a H;refine kP H (SR fun _ K1=>ak K1 rfl (SR fun _ K2=>Rm rfl (Rm rfl ?_)));clear H K1;intro a H;refine s_call aaL H wn rfl (aeA _ _ H.ro l p _ _ hv hf) rfl ?_;clear H;rintro v7 G7 a w rfl xO H;exact kH H (Rc rfl (ak K2 rfl (LR results161 rfl fun H=>H.rt (aM (OB _)))))
def Du (l:List iC) (i:Nat) (x:iC):Bool:=decide (x.parent=0) || ((l.take i).findIdx? fun y=>decide (y.id=x.parent)).isSome
def LZ (l:List iC) (i:Nat) (x:iC):Int:=dB [og (fun k=>(l[k]?.map iC.id).getD 0) i,bS (!Du l i x) 8,bS (!uT x.author) 39,bS (!decide (0≤x.time∧x.time≤1099511627776)) 40,zL x.text]
def DC (l:List iC) (i:Nat):Int:=match l[i]? with|some x=>LZ l i x|none=>0
theorem Y6 {G:GH} {bl:Nat} {l:List iC} {A:Option Addr} {n c:Nat} (hb:aI G bl 0=some (.slice A n c)) (hv:av G (.sl 6 (l.map iC.dat)) (.slice A n c)) (hl:l.length≤4294967296) (ht:∀ x∈l,x.author.size < 4611686018427387904∧x.text.size < 4611686018427387904):qM (.func (.func 160) #[] #[(aJ bl 0)]) G l.length (DC l):=by
 intro k hk G1 w0 hm hG;refine kG (caps:=[(aJ bl 0)]) aar ?_;replace hb:=aL hm hb;replace hv:=hv.mono hm;have hcb:=Y7 hb hv;obtain ⟨_,_,hee,hvc,-,-⟩:=hv.slice
 injection hee with _ _ hcc
 subst hcc;rw [bW] at hvc
 obtain rfl:n=l.length:=by have:=hv.len;simpa using this
 obtain ⟨b,o,rfl,hrow,hrep⟩:=L8 hv hk;have hte:=ht _ (jT hk);obtain ⟨x,hx⟩:∃ x,x=l[k]:=⟨_,rfl⟩;rw [← hx] at hrow hte
 have he:DC l k=LZ l k x:=by unfold DC;rw [gy hk,hx]
 refine eN [(0,_),(1,_)] func160 rfl ntmps160 rfl rfl hG ?_;intro a H;refine kP H (SR fun _ K1=>ak K1 rfl (SR fun _ K2=>Rg ER rfl (by assumption) ?_));clear H K1;intro a H;refine kH H (Rm rfl (Ri C8 Bo rfl rfl ?_));clear H;intro a H;refine aW Bo (cs:=x.cells) H wn rfl rfl (fun j v hj=>H.hp.aI (hrow j v hj)) rfl ?_;clear H;intro a H;refine dx Bo H wn rfl ?_;clear H;intro b4 a w hb4 H;refine aX Bo 0 (vs:=[_,_,_,_,_,_]) _ H wn rfl rfl rfl rfl rfl rfl rfl rfl ?_;clear H;intro w H;dsimp only [List.set,setRow] at H;obtain ⟨Ga,hma,wz,H⟩:=H.dQ
 have hcell:∀ (j:Nat) (u:aj),x.cells[j]?=some u→aI Ga b4 j=some u:=fun j u hj=>by unfold aI;rw [wz];simpa using hj
 have q1:=hcell 1 _ rfl;have hbA:=aL hma hb;have T9:=(hv.mono hma).pre k (by rw [bW];omega);rw [← List.map_take] at T9;refine K2 _ _ ?_;clear K2;refine uU (ι:=Bool × GH) (Tc:=[(0,_),(1,_),(4,_)]) (Lc:=[]) (fun gh=>[(5,.bool gh.1)]) (fun gh=>[]) (fun gh=>gh.2) (fun gh=>gh.1=Du l k x∧(∀ b o,Ga b=some o→gh.2 b=some o)) (by exact (H).sub ⟨rfl,rfl,rfl,aD⟩) ?_ ?_
 ·skip;refine kP H (SC (Rf S9 rfl (Rg aC rfl (by assumption) ?_)));clear H;intro a H;refine kH H (Rc rfl (Rm rfl (Sp 13 rfl ?_ ?_))) <;> clear H
  ·intro gB a H
   try have qE:=dT gB
   refine kH H (cK gB rfl (bO gB rfl (Pt gB rfl (Ra rfl ?_))));clear H;intro a H;refine aH ?_;refine ⟨(_,_),by exact (H).sub ⟨rfl,rfl,rfl,rfl,aD⟩,?_⟩;(try dsimp only)
   first
   | exact ⟨by unfold Du;rw [kT (by assumption)];rfl,fun _ _ h=>h⟩
   | exact ⟨by unfold Du;rw [kF (by assumption)];rfl,hm18⟩
  intro gB a H
  try have qE:=dF gB
  refine kH H (YR ER gB rfl (by assumption) ?_);clear H;intro a H;refine kH H (YM gB rfl ?_);clear H;intro a H;refine Vx C8 Bo k H (wg H rfl rfl gB) rfl rfl rfl (by omega) rfl ?_;clear H;intro a H;refine nK H (wg H rfl rfl gB) rfl rfl ?_;clear H;intro a H;refine s_call aas H (wg H rfl rfl gB) rfl (Zd _ _ H.ro (l.take k) (fun y=>decide (y.id=x.parent)) _ _ T9 (fun y _=>Y9 q1 y)) rfl ?_;clear H;rintro v18 KQ a w rfl hm18 H;refine kH H (Pf gB rfl (Ra rfl ?_));clear H;intro a H;refine aH ?_;refine ⟨(_,_),by exact (H).sub ⟨rfl,rfl,rfl,rfl,aD⟩,?_⟩;(try dsimp only)
  first
  | exact ⟨by unfold Du;rw [kT (by assumption)];rfl,fun _ _ h=>h⟩
  | exact ⟨by unfold Du;rw [kF (by assumption)];rfl,hm18⟩
 clear H;intro gh a w hI H;obtain ⟨bf,g⟩:=gh;dsimp only at hI H;obtain ⟨hbf,hgm⟩:=hI;replace hcell:=fun j u hj=>aL hgm (hcell j u hj);replace hcb:=(hcb.mono hma).mono hgm;dsimp only [lca,aV] at H;refine bg (fun _ K3=>?_);have H:=H.sub (T':=[(0,_),(1,_),(4,_),(5,_)]) ⟨rfl,rfl,rfl,rfl,aD⟩;refine dI hmx [[],[],[0,1],[],[3],(ra 0 5),[],[6],(ra 0 8),(ra 0 9),(ra 0 10),[],[11],(ra 0 13),(ra 0 14),(ra 0 15),[],[16],(ra 0 18),(ra 0 19),(ra 0 20),(ra 0 21)] [19,20,21] (by kernel_rfl) [_,.func (.func 163) #[] #[(aJ bl 0)],vi (og (fun k=>(l[k]?.map iC.id).getD 0) k),_,_,vi (bS (!bf) 8),_,_,.bool (uT x.author),_,vi (bS (!uT x.author) 39),_,_,.bool (decide (0≤x.time∧x.time≤1099511627776)),_,vi (bS (!decide (0≤x.time∧x.time≤1099511627776)) 40),_,_,vi (zL x.text)] H (aF (Z0 rfl (Rm rfl)) ?_ ?_ (Z0 rfl (Rm rfl)) (aF (Z1 3 23 rfl (Rn rfl)) ?_ (Z0 rfl (Rf acn rfl)) (X1 6 26 rfl fun hG=>Rg iB rfl (aL hG (hcell 2 _ rfl))) (aF ?_ (Z1 8 28 rfl (Rn rfl)) ?_ (Z0 rfl (Rf aco rfl)) (aF (X1 11 31 rfl fun hG=>Rg aC rfl (aL hG (hcell 3 _ rfl))) ?_ (Z1 13 33 rfl (Rn rfl)) ?_ (aF (Z0 rfl (Rf acp rfl)) (X1 16 36 rfl fun hG=>Rg iB rfl (aL hG (hcell 4 _ rfl))) ?_ (bJ rfl) (bM (bJ rfl) (bM (bJ rfl) dP))))))) ?_
 ·refine yE rfl fun _ a w G1 hG HT H fin=>?_;refine nK H wn rfl rfl ?_;clear H;intro a H;exact fin H iJ rfl
 ·refine eB 0 20 1 21 rfl rfl fun _ a w G1 hG HT H fin=>?_;refine s_call Mi H wn rfl (Ox _ _ H.ro k _ _ (by omega) (fun i hi=>(hcb.mono hG) i (by omega))) rfl ?_;clear H;rintro v22 Qb a w rfl Nc H;exact fin H Nc (rfl)
 ·refine eH 4 24 rfl rfl fun _ a w G1 hG HT H fin=>?_;refine s_call iP H wn rfl (iU _ _ H.ro _ 8) rfl ?_;clear H;rintro v25 Qd a w ⟨rfl,-⟩ acN H;exact fin H acN (rfl)
 ·refine eH 7 27 rfl rfl fun _ a w G1 hG HT H fin=>?_;refine s_call RZ H wn rfl (QO _ _ H.ro x.author hte.1) rfl ?_;clear H;rintro v28 Xf a w ⟨rfl,-⟩ acO H;exact fin H acO (rfl)
 ·refine eH 9 29 rfl rfl fun _ a w G1 hG HT H fin=>?_;refine s_call iP H wn rfl (iU _ _ H.ro _ 39) rfl ?_;clear H;rintro v30 yC a w ⟨rfl,-⟩ Ng H;exact fin H Ng (rfl)
 ·refine eH 12 32 rfl rfl fun _ a w G1 hG HT H fin=>?_;refine s_call tY H wn rfl (uE _ _ H.ro x.time 0 1099511627776) rfl ?_;clear H;rintro v33 G33 a w ⟨rfl,-⟩ acQ H;exact fin H acQ (rfl)
 ·refine eH 14 34 rfl rfl fun _ a w G1 hG HT H fin=>?_;refine s_call iP H wn rfl (iU _ _ H.ro _ 40) rfl ?_;clear H;rintro v35 KS a w ⟨rfl,-⟩ Nh H;exact fin H Nh (rfl)
 ·refine eH 17 37 rfl rfl fun _ a w G1 hG HT H fin=>?_;refine s_call Mr H wn rfl (Py _ _ H.ro x.text hte.2) rfl ?_;clear H;rintro v38 Qe a w rfl acS H;exact fin H acS (rfl)
 clear H;intro a w G acP H hv;have H:=H.aT (hv 2 22 rfl rfl) rfl;have H:=H.aT (hv 5 25 rfl rfl) rfl;have H:=H.aT (hv 10 30 rfl rfl) rfl;have H:=H.aT (hv 15 35 rfl rfl) rfl;have H:=H.aT (hv 18 38 rfl rfl) rfl;clear hv;refine ig nL eP [_,_,_,_,_] [_,_,_,_,_] H wn rfl rfl rfl rfl rfl (by intro i q h;match i,h with|0,h=>exact h|1,h=>exact h|2,h=>exact h|3,h=>exact h|4,h=>exact h|n+5,h=>simp at h) rfl rfl ?_;clear H;intro b39 a w aiQ H;obtain ⟨G39,ajc,ado,H⟩:=H.dQ;refine s_call oI H wn rfl (oJ _ _ H.ro _ _ (Co [og (fun k=>(l[k]?.map iC.id).getD 0) k,bS (!bf) 8,bS (!uT x.author) 39,bS (!decide (0≤x.time∧x.time≤1099511627776)) 40,zL x.text] ado (show 5≤maxLen by decide))) rfl ?_;clear H;rintro v40 _ a w ⟨rfl,rfl⟩ - H;refine kH H (Ra rfl ?_);clear H;intro a H;refine aH ⟨rfl,?_⟩;refine K3 _ _ ?_;clear K3;refine lr H results160 rfl ?_;exact H.rt (by rw [he,LZ,← hbf])
def IJ (l:List iC):Int:=dB [bS (decide (1024 < (l.length:Int))) 9,jV (DC l) (min l.length 1024)]
theorem YE (G:GH) (w0:World) (hG:Hold G w0) (l:List iC) (v:aj) (hv:av G (.sl 6 (l.map iC.dat)) v) (hl:l.length≤4294967296) (ht:∀ x∈l,x.author.size < 4611686018427387904∧x.text.size < 4611686018427387904) :
  Calls prog 121 #[v] w0 (aZ w0 G fun u G'=>u=vi (IJ l)):=by
 obtain ⟨A,c,rfl,hc1,hc2,-⟩:=hv.slice;rw [bW] at *;refine eN [(0,_)] func121 rfl ntmps121 rfl rfl hG ?_;intro a H;refine bK (fun _ K1=>?_);refine dz (cs:=[_]) H wn rfl rfl rfl ?_;clear H;intro b1 a w hb1 H;refine kH H (ak K1 rfl (SQ fun _ K2=>?_));clear H K1;intro a H;have H:=H.sub (T':=[(1,_)]) ⟨rfl,aD⟩;obtain ⟨Ga,hma,hb1',H⟩:=H.dQ
 have hbl:aI Ga b1 0=some (.slice A l.length c):=by unfold aI;rw [hb1'];rfl
 have hcb:=Y6 hbl (hv.mono hma) hl ht;refine dI hmx [[],[0],[0,1],[0,1,2],[],[4],[4,5],[],(ra 0 8),(ra 0 9),(ra 0 10),(ra 0 11)] [9,10,11] (by kernel_rfl) [_,_,_,vi (bS (decide (1024 < (l.length:Int))) 9),_,_,vi ((min l.length 1024:Nat):Int),.func (.func 160) #[] #[(aJ b1 0)],vi (jV (DC l) (min l.length 1024))] H (aF (X0 rfl fun hG=>Rg ER rfl (aL hG hbl)) (Z1 0 3 rfl (Rl C8 rfl)) (Z1 1 4 rfl (Rc rfl)) ?_ (aF (X0 rfl fun hG=>Rg ER rfl (aL hG hbl)) (Z1 4 7 rfl (Rl C8 rfl)) ?_ ?_ (aF ?_ (bJ rfl) (bJ rfl) (bJ rfl) dP))) ?_
 ·refine eH 2 5 rfl rfl fun _ a w G1 hG HT H fin=>?_;refine s_call iP H wn rfl (iU _ _ H.ro _ 9) rfl ?_;clear H;rintro v6 G6 a w ⟨rfl,-⟩ jF H;exact fin H jF (rfl)
 ·refine eH 5 8 rfl rfl fun _ a w G1 hG HT H fin=>?_;refine Kl H wn rfl rfl rfl ?_;clear H;intro a H;exact fin H iJ (ay vi (by omega))
 ·refine yE rfl fun _ a w G1 hG HT H fin=>?_;refine nK H wn rfl rfl ?_;clear H;intro a H;exact fin H iJ rfl
 ·refine eB 6 9 7 10 rfl rfl fun _ a w G1 hG HT H fin=>?_;refine s_call DK H wn rfl (FH _ _ H.ro (min l.length 1024) (DC l) _ (by omega) ((hcb.mono hG).le (Nat.min_le_left _ _))) rfl ?_;clear H;rintro v11 sF a w rfl rV H;exact fin H rV (rfl)
 clear H;intro a w G lU H hv;have H:=H.aT (hv 3 6 rfl rfl) rfl;have H:=H.aT (hv 8 11 rfl rfl) rfl;clear hv;refine ig nL eP [_,_] [_,_] H wn rfl rfl rfl rfl rfl (by intro i q h;match i,h with|0,h=>exact h|1,h=>exact h|n+2,h=>simp at h) rfl rfl ?_;clear H;intro b12 a w Ec H;obtain ⟨yx,uq,Cg,H⟩:=H.dQ;refine s_call oI H wn rfl (oJ _ _ H.ro _ _ (vG Cg)) rfl ?_;clear H;rintro v13 _ a w ⟨rfl,rfl⟩ - H;refine kH H (Ra rfl ?_);clear H;intro a H;refine aH ⟨rfl,?_⟩;refine K2 _ _ ?_;clear K2;refine lr H results121 rfl ?_;exact H.rt rfl
end
section
open Go.RowKit
def uF:Nat→List Int→List MapEntry
 | _,[]=>[]
 | i,k :: r=>⟨.int .i64 k,.int .i64 (i:Int),i⟩ :: uF (i+1) r
theorem UA (x:Int):∀ (i:Nat) (l:List Int),uF i (l++[x])=uF i l++[⟨.int .i64 x,.int .i64 ((i+l.length:Nat):Int),i+l.length⟩]
 | _,[]=>rfl
 | i,k :: r=>by
  rw [lN,uF,UA x (i+1) r,uF,lN,lX,show i+1+r.length=i+(r.length+1) by omega]
def rX (x:Int):Nat→List Int→Option Nat
 | _,[]=>none
 | i,k :: r=>if k=x then some i else rX x (i+1) r
theorem Ud {x:Int}:∀ {l:List Int} {i n:Nat},rX x i l=some n→i≤n
 | [],_,_,h=>by cases h
 | k :: r,i,n,h=>by
  rw [rX] at h;split at h
  ·cases h;exact bP _
  ·have:=Ud h;omega
theorem Uf {x:Int}:∀ {l:List Int} {i:Nat},x∉l→rX x i l=none
 | [],_,_=>rfl
 | k :: r,i,h=>by
  rw [rX,ah (fun e=>h (by simp [e])),Uf (fun hm=>h (rG _ hm))]
theorem MP (x:Int):∀ (i j:Nat) (l:List Int),Instr.findNow (.int .i64) (.int .i64 x) (uF i l) j=some ((rX x i l).map fun n=>(j+(n - i),.int .i64 (n:Int)))
 | _,_,[]=>rfl
 | i,j,k :: r=>by
  have ih:=MP x (i+1) (j+1) r
  by_cases e:k=x
  ·subst e
   simp only [uF,Instr.findNow,Instr.sameNow,au,rX,beq_self_eq_true]
   simp
  ·have hb:(x == k)=false:=by simp;exact fun h=>e h.symm
   simp only [uF,Instr.findNow,Instr.sameNow,au,hb,rX,ah e,ih]
   cases h:rX x (i+1) r with
   | none=>rfl
   | some n =>
    have:=Ud h
    simp only [Option.map_some,lq,gF,and_true]
    omega
abbrev XW (b:Nat) (l:List Int):Nat × Obj:=(b,.map (uF 0 l).toArray l.length)
theorem afi (l:List Int) (x:Int):(uF 0 l).toArray.push ⟨.int .i64 x,.int .i64 (l.length:Int),l.length⟩=(uF 0 (l++[x])).toArray:=by
 rw [UA,List.push_toArray,mQ]
end
section
open Go.RowKit
section
variable {P:Program} {N:Nat} {D:List Deferred} {w0 w w':World} {F:Nat→Prop} {G0 G G':GH} {L L' Li Lo:OL} {T:List (Nat × aj)} {a a':Act} {Q:Exit→Act→World→Prop}
variable {r:Option Nat} {ops:Array Oper} {rest:List Oper}
def KX (P:Program) (Gi:GH) (B:OL) (gv:aj) (xs:List AP):Prop :=
 ∀ (J:Nat→GH→OL→Prop) (Jx:GH→OL→Prop) (fv:aj) (G:GH) (L:OL) (w:World),fv.cells=#[fv]→(∀ b o,Gi b=some o→G b=some o)→BA J→BI Jx→J 0 G L→gI G (B++L) w→zU P fv G xs J Jx →
  tT P gv [fv] w (fT w G (B++L) fun _ G' L'=>J xs.length G' L'∨Jx G' L')
theorem KX.mono {Gi zW:GH} {B:OL} {gv:aj} {xs:List AP} (h:KX P Gi B gv xs) (hm:∀ b o,Gi b=some o→zW b=some o):KX P zW B gv xs :=
 fun J Jx fv G L w h0 h1=>h J Jx fv G L w h0 fun b o hb=>h1 b o (hm b o hb)
end
end
section
open Go.RowKit
section
variable {P:Program} {N:Nat} {D:List Deferred} {w0 w w':World} {F:Nat→Prop} {G0 G G':GH} {L L' Li Lo:OL} {T:List (Nat × aj)} {a a':Act} {Q:Exit→Act→World→Prop}
variable {r:Option Nat} {ops:Array Oper} {rest:List Oper}
def Dh (P:Program) (Gi:GH) (B:OL) (gv:aj) (xs:List AP) (fin:Bool):Prop :=
 ∀ (J:Nat→GH→OL→Prop) (Jx:GH→OL→Prop) (fv:aj) (G:GH) (L:OL) (w:World),fv.cells=#[fv]→(∀ b o,Gi b=some o→G b=some o)→BA J→BI Jx→J 0 G L→gI G (B++L) w→zU P fv G xs J Jx→(fin=false→∀ g l,¬ J xs.length g l) →
  tT P gv [fv] w (fT w G (B++L) fun _ G' L'=>J xs.length G' L'∨Jx G' L')
theorem Dh.mono {Gi zW:GH} {B:OL} {gv:aj} {xs:List AP} {fin:Bool} (h:Dh P Gi B gv xs fin) (hm:∀ b o,Gi b=some o→zW b=some o):Dh P zW B gv xs fin :=
 fun J Jx fv G L w h0 h1=>h J Jx fv G L w h0 fun b o hb=>h1 b o (hm b o hb)
theorem Yg {fin:Bool} {B:OL} {vX:Operand} {ps:List Nat} {assign body:Code} {gf:FuncId} {caps:List aj} {xs:List AP} {Gi:GH}
  (H:St N D w0 F G0 G (B++L) T a w) (hg:ev T vX=some (.func (.func gf) #[] caps.toArray)) (en:∀ args w,(callFunc gf args).run P w=.ok (.enter gf args) w) (hit:Dh P Gi B (.func (.func gf) #[] caps.toArray) xs fin) (hGi:∀ b o,Gi b=some o→G b=some o)
  (hps:ps.all (Nat.blt · N)=true) (hlen:∀ k args g,tQ xs k args g→args.length=ps.length)
  (J:Nat→GH→OL→Prop) (Jx:Code→GH→OL→Prop) (hno:fin=false→∀ g l,¬ J xs.length g l) (jY:BA J) (hJx:∀ c,BI (Jx c)) (h0:J 0 G L) (Oc:Lb P N ps assign body T G J Jx xs)
  (hdone:∀ Dk G1 L1 a1 w1,(∀ b o,G b=some o→G1 b=some o)→J xs.length G1 L1→St N ({ target:=.collected Dk,args:=#[] } :: D) w0 F G0 G1 ((Dk,.deferred (some [])) :: L1) T a1 w1→Q .normal a1 w1)
  (hstop:∀ Dk c G1 L1 a1 w1,(∀ b o,G b=some o→G1 b=some o)→Jx c G1 L1→St N ({ target:=.collected Dk,args:=#[] } :: D) w0 F G0 G1 ((Dk,.deferred (some [])) :: L1) T a1 w1→WP none P c Q a1 w1) :
  WP none P (.rangeFunc vX ps.toArray assign body) Q a w:=by
 refine wpIn_rangeFunc ?_
 intro fn _
 have hev:=H.ev hg
 let q:Rec:=⟨fn,a.tmps,ps.toArray,assign,body,w.heap.size⟩
 obtain ⟨W1,hW1⟩:∃ W1,W1=(w.alloc (.deferred (some []))).alloc (q.at .ready none):=⟨_,rfl⟩
 have H1:Hp w0 F G0 G (B++((w.heap.size+1,q.at .ready none) :: (w.heap.size,.deferred (some [])) :: L)) W1:=by
  have:=(H.hp.alloc (.deferred (some []))).alloc (q.at .ready none)
  rw [World.size_alloc] at this
  rw [hW1]
  refine this.perm ?_
  have e:=Aj (l₁:=[(w.heap.size+1,q.at .ready none),(w.heap.size,Obj.deferred (some []))]) (l₂:=B)
  have e2:=List.Perm.append_right L e
  rw [mg,mg] at e2
  exact e2
 refine ⟨w.heap.size+1,[{ target:=.collected w.heap.size,args:=#[] }],W1,{ target:=.fn (.func gf) caps.toArray,args:=#[.func (.yield (w.heap.size+1)) #[] #[]] },W1,gf,
  #[.func (.yield (w.heap.size+1)) #[] #[]]++caps.toArray,W1,by rw [hW1];exact run_enterLoop_outer fn a.tmps ps.toArray assign body,?_,fun _ _=>trivial,?_,Ij none,?_⟩
 ·simp only [resolve,rangeCall,hev]
  simp [Deferred.ofValue,Act.eval]
 ·simp [invoke,en]
 ·have hcv:=hit (fun k=>Jr (w.heap.size+1) q [(w.heap.size,.deferred (some []))] (J k)) (Io (w.heap.size+1) q [(w.heap.size,.deferred (some []))] Jx) (.func (.yield (w.heap.size+1)) #[] #[]) G
   ((w.heap.size+1,q.at .ready none) :: (w.heap.size,.deferred (some [])) :: L) W1 rfl hGi (fun k G G' L hm ⟨Lu,e,h⟩=>⟨Lu,e,jY k G G' Lu hm h⟩) (fun G G' L hm ⟨c,Lu,e,h⟩=>⟨c,Lu,e,hJx c G G' Lu hm h⟩) ⟨L,rfl,h0⟩ (Hp.owns (Li:=[]) H1) (Q7 H.kU H.get hps hlen Oc) (fun e g l ⟨Lu,_,h⟩=>hno e g Lu h)
  replace hcv:=hcv.go
  have e:(do let d ← Deferred.ofValue (.func (.func gf) #[] caps.toArray) [Value.func (.yield (w.heap.size+1)) #[] #[]].toArray;invoke d.target d.args:Sem Next).run P W1=.ok (.enter gf (#[.func (.yield (w.heap.size+1)) #[] #[]]++caps.toArray)) W1:=by
   simp [Deferred.ofValue,invoke,en]
  rw [e] at hcv
  refine (LM hcv).mono ?_
  rintro e w2 ⟨v,G2,L2,rfl,hch,hJ⟩
  have H2:=Hp.change (Li:=[]) H1 hch
  rcases hJ with ⟨Lu,rfl,hJ⟩|⟨c,Lu,rfl,hJ⟩
  ·have hl:=H2.own _ (jC)
   have H3:=(H2.upd (i:=0) rfl (Br (q.at .exhausted none) hl)).drop (yG _ _)
   exact ⟨none,_,run_endLoop hl (by simp),hdone _ G2 Lu _ _ hch.gm hJ ⟨H.kU,H.get,by simp [H.pX],H3⟩⟩
  ·have hl:=H2.own _ (jC)
   have H3:=(H2.upd (i:=0) rfl (Br (q.at .exhausted (some c)) hl)).drop (yG _ _)
   exact ⟨some c,_,run_endLoop hl (by simp),hstop _ c G2 Lu _ _ hch.gm hJ ⟨H.kU,H.get,by simp [H.pX],H3⟩⟩
theorem Yh {fin:Bool} {B:OL} {ι κ:Type} {Lc:OL} {vX:Operand} {ps:List Nat} {assign body:Code} {gf:FuncId} {caps:List aj} {xs:List AP} {Gi:GH}
  (Lv:Nat→ι→OL) (Lt:Nat→ι→OL) (inv:Nat→ι→GH→Prop) (cx:κ→Code) (Lx BH:κ→OL) (wI:κ→GH→Prop) (i0:ι)
  (H:St N D w0 F G0 G (B++(Lc++Lv 0 i0++Lt 0 i0)) T a w) (hg:ev T vX=some (.func (.func gf) #[] caps.toArray)) (en:∀ args w,(callFunc gf args).run P w=.ok (.enter gf args) w) (hit:Dh P Gi B (.func (.func gf) #[] caps.toArray) xs fin) (hGi:∀ b o,Gi b=some o→G b=some o)
  (hno:fin=false→∀ i g,¬ inv xs.length i g) (hps:ps.all (Nat.blt · N)=true) (hlen:∀ k args g,tQ xs k args g→args.length=ps.length) (hinv:∀ k i (G G':GH),(∀ b o,G b=some o→G' b=some o)→inv k i G→inv k i G') (NK:∀ x (G G':GH),(∀ b o,G b=some o→G' b=some o)→wI x G→wI x G') (h0:inv 0 i0 G)
  (round:∀ (l:Nat) (qG oF:Obj) (bk:OL) (k:Nat) (args:List aj) (i:ι) (G1:GH) (w1:World) (F1:Nat→Prop) (B1:Code→Exit→Act→World→Prop) (a1:Act),tQ xs k args G1→(∀ b o,G b=some o→G1 b=some o)→inv k i G1 →
   (∀ T' G2 L2 a2 w2 c,St N [] w1 F1 G1 G2 ((l,qG) :: L2) T' a2 w2→(∀ w3,St N [] w1 F1 G1 G2 ((l,oF) :: L2) T' a2 w3→WP (some l) P c (B1 c) a2 w3)→Exit.then (fun a2 w2=>∃ w3,(Instr.beginRound l).run P w2=.ok () w3∧c.wpIn (FW (some l)) 0 P (B1 c) a2 w3) (fun _ _ _=>False) .normal a2 w2) →
   (∀ i' T' G2 a2 w2 c,St N [] w1 F1 G1 G2 ((l,oF) :: (Lc++Lv (k+1) i'++(bk++Lt (k+1) i'))) T' a2 w2→inv (k+1) i' G2→B1 c .normal a2 w2) →
   (∀ x T' G2 a2 w2 c,St N [] w1 F1 G1 G2 ((l,oF) :: (Lc++Lx x++(bk++BH x))) T' a2 w2→wI x G2→(cx x=.ret→B1 c .ret a2 w2)∧∀ n,cx x=.exit n→B1 c (.exit n) a2 w2) →
   St N [] w1 F1 G1 G1 ((l,qG) :: (Lc++Lv k i++(bk++Lt k i))) (nT ps args T) a1 w1 →
   WP (some l) P assign (Exit.then (fun a2 w2=>∃ w3,(Instr.beginRound l).run P w2=.ok () w3∧body.wpIn (FW (some l)) 0 P (B1 body) a2 w3) (fun _ _ _=>False)) a1 w1)
  (hdone:∀ Dk i G1 a1 w1,(∀ b o,G b=some o→G1 b=some o)→inv xs.length i G1→St N ({ target:=.collected Dk,args:=#[] } :: D) w0 F G0 G1 ((Dk,.deferred (some [])) :: (Lc++Lv xs.length i++Lt xs.length i)) T a1 w1→Q .normal a1 w1)
  (hstop:∀ Dk x G1 a1 w1,(∀ b o,G b=some o→G1 b=some o)→wI x G1→St N ({ target:=.collected Dk,args:=#[] } :: D) w0 F G0 G1 ((Dk,.deferred (some [])) :: (Lc++Lx x++BH x)) T a1 w1→WP none P (cx x) Q a1 w1) :
  WP none P (.rangeFunc vX ps.toArray assign body) Q a w:=by
 refine Yg (J:=fun k g L=>∃ i,L=Lc++Lv k i++Lt k i∧inv k i g) (Jx:=fun c g L=>∃ x,c=cx x∧L=Lc++Lx x++BH x∧wI x g) H hg en hit hGi hps hlen (hno:=fun e g l ⟨i,_,h⟩=>hno e i g h) (fun k G G' L hm ⟨i,e,h⟩=>⟨i,e,hinv k i G G' hm h⟩) (fun c G G' L hm ⟨x,e1,e2,h⟩=>⟨x,e1,e2,NK x G G' hm h⟩) ⟨i0,rfl,h0⟩ ?_ ?_ ?_
 ·rintro l q bk k args G1 L1 w1 a1 hk hm ⟨i,rfl,hi⟩ H1
  have pm:∀ A B:OL,(bk++(A++B)).Perm (A++(bk++B)):=fun A B=>by
   rw [← mg,← mg]
   exact List.Perm.append_right B Aj
  refine round l (q.at .ready none) (q.at .busy none) bk k args i G1 w1 _ (fun _=>roundPost P l _) a1 hk hm hi ?_ ?_ ?_ (H1.perm (List.Perm.cons _ (pm _ _)))
  ·intro T' G2 L2 a2 w2 c H2 h
   exact Q0 H2 h
  ·intro i' T' G2 a2 w2 c H2 h2
   exact EB none (H2.perm (List.Perm.cons _ (pm _ _).symm)) ⟨_,rfl,i',rfl,h2⟩
  ·intro x T' G2 a2 w2 c H2 h2
   have H3:=H2.perm (List.Perm.cons _ (pm _ _).symm)
   refine ⟨fun e=>?_,fun n e=>?_⟩
   ·exact EB (some .ret) H3 ⟨_,_,rfl,x,e.symm,rfl,h2⟩
   ·exact EB (some (.exit n)) H3 ⟨_,_,rfl,x,e.symm,rfl,h2⟩
 ·rintro Dk G1 L1 a1 w1 hm ⟨i,rfl,hi⟩ H1
  exact hdone Dk i G1 a1 w1 hm hi H1
 ·rintro Dk c G1 L1 a1 w1 hm ⟨x,rfl,rfl,hx⟩ H1
  exact hstop Dk x G1 a1 w1 hm hx H1
end
end
section
open Go.RowKit
theorem CZ:prog.underlying 149=some (.map 3 3):=by kernel_rfl
theorem sw:Ty prog 31 1 24 [.slice none 0 0] false:=⟨by kernel_rfl,by kernel_rfl⟩
theorem MK:bV prog 159 3 3:=⟨by kernel_rfl⟩
theorem R4:∀ args w,(callFunc 173 args).run prog w=.ok (.enter 173 args) w:=enters func173 rfl (by kernel_rfl)
theorem Ue {x:Int}:∀ {l:List Int} {i n:Nat},rX x i l=some n→n < i+l.length
 | [],_,_,h=>by cases h
 | k :: r,i,n,h=>by
  rw [rX] at h;split at h
  ·cases h;simp
  have:=Ue h;simp only [lX];omega
def uV (l:List bL):Nat→Int→List bL
 | 0,_=>[]
 | f+1,id=>if id=0 then [] else match rX id 0 (l.map bL.id) with|none=>[]|some i=>match l[i]? with|none=>[]|some s=>s :: uV l f s.base
def Dz (l:List bL) (id:Int):List bL:=uV l (l.length+1) id
theorem Yz {l:List bL} {f:Nat} {id:Int} (h:id=0):uV l f id=[]:=by
 cases f with
 | zero=>rfl
 | succ f=>rw [uV,au h]
theorem Yx {l:List bL} {f:Nat} {id:Int} (h0:¬ id=0) (h:rX id 0 (l.map bL.id)=none):uV l f id=[]:=by
 cases f with
 | zero=>rfl
 | succ f=>rw [uV,ah h0,h]
theorem Yy {l:List bL} {f i:Nat} {id:Int} (h0:¬ id=0) (h:rX id 0 (l.map bL.id)=some i) (hi:i < l.length):uV l (f+1) id=l[i] :: uV l f l[i].base:=by
 rw [uV,ah h0,h];dsimp only;rw [gy hi]
def stP (x:bL):AP:=fun args g=>∃ cs,args=[.agg cs.toArray]∧aS g x.dat cs
theorem VJ {A:List bL} {k:Nat} {args:List aj} {g:GH} (h:tQ (A.map stP) k args g):∃ (hk:k < A.length) (cs:List aj),args=[.agg cs.toArray]∧aS g A[k].dat cs:=by
 obtain ⟨p,hp,hargs⟩:=h;rw [mM] at hp;obtain ⟨q,hq,rfl⟩:=kS.1 hp;obtain ⟨hk,rfl⟩:=jr.1 hq;obtain ⟨cs,h1,h2⟩:=hargs;exact ⟨hk,cs,h1,h2⟩
abbrev bI (b:Nat) (n:Int):Nat × Obj:=(b,.cells #[vi n] 3 (0,0))
set_option maxHeartbeats 1000000 in
theorem YA {G:GH} {bl bi:Nat} {l:List bL} {id:Int} {v:aj} (hb:aI G bl 0=some v) (hv:av G (.sl 6 (l.map bL.dat)) v) (hnd:∀ (k:Nat) (h:k < l.length),l[k].id∉(l.take k).map bL.id) :
  Dh prog G [bI bi id] (.func (.func 173) #[] #[(aJ bl 0),(aJ bi 0)]) ((Dz l id).map stP) (decide ((Dz l id).length≤l.length)):=by
 intro J Jx fv G1 L w0 AB hGi jY hJx hJ hO hcb hfin;refine kG (caps:=[(aJ bl 0),(aJ bi 0)]) R4 ?_;obtain ⟨A,c,rfl,hc1,hc2,-⟩:=hv.slice;have hml:maxLen=9223372036854775807:=rfl;rw [bW] at *;replace hb:=aL hGi hb;replace hv:=hv.mono hGi;refine jh (N:=46) (T:=[(0,_),(1,_),(2,_)]) func173 rfl ntmps173 rfl rfl hO ?_;intro a H;refine bK (fun _ K1=>?_);refine EH H wn rfl ?_;clear H;intro bm a w hbm H;refine kH H (ak K1 rfl (SQ fun _ K2=>SR fun _ K3=>Rg sw rfl (by assumption) ?_));clear H K1;intro a H;refine kH H (Rl mZ rfl (Rm rfl (Kz K3 (SB ?_))));clear H K3;intro a H;skip;refine gq (ι:=Nat) (Tc:=[(0,_),(1,_),(2,_),(4,_),(10,_),(11,_)]) (Lc:=[(_,_)]) (fun gh=>[(12,vi gh)]) (fun gh=>[XW bm ((l.take gh).map bL.id)]++L) (fun gh=>G1) (fun gh=>gh≤l.length) (fun gh=>l.length - gh) (0) (by exact (H.bU (Pl:=[_,_]) (bN:=[_,_]) [1,0] (by decide) rfl).sub ⟨rfl,rfl,rfl,rfl,rfl,rfl,rfl,aD⟩) ?_ ?_
 ·exact gW _
 clear H;intro gh a w hI H;obtain ⟨k,hgh⟩:∃ x,x=gh:=⟨_,rfl⟩;subst hgh;have hk:=hI;dsimp only [lca,aV] at H;refine kP H (SR fun _ K4=>Rc rfl (Kz K4 (SQ fun _ K5=>Cd rfl ?_ ?_))) <;> clear H K4
 ·intro gB a H
  try have qE:=dT gB
  have hk2:k < l.length:=by omega
  obtain ⟨b,o,pA,pc,rfl,hrow,hp,hrep⟩:=zJ hv hk2;have adY:=hnd k hk2
  have hlk:((l.take k).map bL.id).length=k:=by rw [bW,List.length_take];omega
  have hnx:(l.take k).map bL.id++[l[k].id]=(l.take (k+1)).map bL.id:=by rw [mP hk2,sN];rfl
  refine kP H (Kc K5 (SQ fun _ K6=>SB (SR fun _ K7=>Rm rfl (Ri mZ jK rfl rfl ?_))));clear H K5;intro a H;refine aW jK (cs:=[_,_,_,_,_,_]) H wn rfl rfl (fun j v hj=>H.hp.aI (hrow j v hj)) rfl ?_;clear H;intro a H;refine dx jK H wn rfl ?_;clear H;intro b6 a w hb6 H;refine kH H (Ra rfl ?_);clear H;intro a H;refine aX jK 0 (vs:=[_,_,_,_,_,_]) _ H wn rfl rfl rfl rfl rfl rfl rfl rfl ?_;clear H;intro w H;dsimp only [List.set,setRow] at H;refine K7 _ _ ?_;clear K7;refine kP H (SC (Rm rfl (aO sS aC 0 rfl rfl (Rm rfl ?_))));clear H;intro a H;refine Vq (i:=2) (ky:=vi l[k].id) (v:=vi k) CZ mJ H wn rfl rfl rfl rfl (by trivial) (by rw [List.toList_toArray,MP,Uf adY];rfl) ?_;clear H;intro w H
  have hpush:((uF 0 ((l.take k).map bL.id)).toArray.push ⟨vi l[k].id,vi k,((l.take k).map bL.id).length⟩)=(uF 0 ((l.take (k+1)).map bL.id)).toArray:=by rw [← hnx,← afi,hlk]
  rw [hpush,show ((l.take k).map bL.id).length+1=((l.take (k+1)).map bL.id).length by rw [← hnx];simp] at H;refine kH H (Kn K6 (SC (Rd rfl (Rm rfl ?_))));clear H K6;intro a H;refine aH ?_;refine eO ((k+1)) (by exact (H.bU (Pl:=[_,_,_]) (bN:=[_,_]) [1,2] (by decide) rfl).sub ⟨rfl,rfl,rfl,rfl,rfl,rfl,rfl,aD⟩) ?_ ?_
  ·exact by omega
  first|omega|(dsimp only;omega)
 intro gB a H
 try have qE:=dF gB
 obtain rfl:k=l.length:=by omega
 rw [List.take_length] at H;refine fI ?_;refine K2 _ _ ?_;clear K2;refine oG ?_;skip;refine gq (ι:=Int × Nat × Nat × OL × GH) (Tc:=[(0,_),(1,_),(2,_),(4,_)]) (Lc:=[(_,_)]) (fun gh=>[]) (fun gh=>[bI bi gh.1]++gh.2.2.2.1) (fun gh=>gh.2.2.2.2) (fun gh=>(∀ b o,G1 b=some o→gh.2.2.2.2 b=some o)∧Now ((Dz l id).map stP) stP J (Dz l id).length gh.2.2.1 (uV l gh.2.1 gh.1) gh.2.2.2.2 gh.2.2.2.1∧gh.2.2.1+gh.2.1=l.length+1) (fun gh=>gh.2.1) ((id,l.length+1,0,L,G1)) (by exact (H.bU (Pl:=[_,_]) (bN:=[_,_]) [1,0] (by decide) rfl).sub ⟨rfl,rfl,rfl,rfl,aD⟩) ?_ ?_
 ·exact ⟨fun _ _ h=>h,⟨hJ,fun i a h=>by rw [mQ,mM];rw [show uV l (l.length+1) id=Dz l id from rfl] at h;rw [h];rfl,mQ _⟩,mQ _⟩
 clear H;intro gh a w hI H;obtain ⟨i,f,j1,Lt,g⟩:=gh;dsimp only at hI H;obtain ⟨hgm,bQ,hjf⟩:=hI;have hbg:=aL hgm hb;dsimp only [lca,aV] at H;refine kP H (SQ fun _ K8=>SR fun _ K9=>Ro aC 1 rfl (Rc rfl (Kz K9 (Cd rfl ?_ ?_)))) <;> clear H K9
 ·intro h23 a H
  try have Bg:=dT h23
  have h0:¬ i=0:=by simpa using h23
  obtain ⟨an,han⟩:∃ an,an=rX i 0 (l.map bL.id):=⟨_,rfl⟩;have hfn:=MP i 0 0 (l.map bL.id);rw [← han] at hfn;refine kP H (Kc K8 (SB (SR fun _ aQ=>Rm rfl (Ro aC 1 rfl ?_))));clear H K8;intro a H;refine agt (i:=0) (zv:=vi 0) _ CZ mJ (by kernel_rfl) H wn rfl rfl rfl (by trivial) (by simpa using hfn) rfl ?_;clear H;intro a H;refine kH H (Rm rfl ?_);clear H;intro a H;(iterate 2 refine jy H wn rfl rfl rfl ?_;clear H;intro a H);refine kH H (Ra rfl (ak aQ rfl (SQ fun _ bH=>SR fun _ bR=>Rm rfl (Rn rfl (Rm rfl (Sp 32 rfl ?_ ?_)))))) <;> clear H aQ
  ·intro h32 a H
   try have p32:=dT h32
   obtain rfl:an=none:=by
    cases an with
    | none=>rfl
    | some n=>simp [zy] at h32
   rw [Yx h0 han.symm] at bQ;refine kH H (cK h32 rfl (bO h32 rfl (bO h32 rfl (Pt h32 rfl (Kz bR (Ct rfl rfl ?_))))));clear H bR;intro a H;refine bF ?_;refine (leave0 H results173 ?_).1;refine H.hp.cu (L':=Lt) (by repeat (first|exact cZ _|apply List.Sublist.cons)) (.inl ?_);have h:=bQ.len
   simp only [List.length_nil,lZ] at h
   rw [← h];exact bQ.now
  intro h32 a H
  try have p32:=dF h32
  obtain ⟨n,rfl⟩:∃ n,an=some n:=by
   cases an with
   | none=>simp [zy] at h32
   | some n=>exact ⟨n,rfl⟩
  have hnl:n < l.length:=by have:=Ue han.symm;simpa using this
  obtain ⟨f',rfl⟩:∃ f',f=f'+1:=by
   cases f with
   | succ f'=>exact ⟨f',rfl⟩
   | zero =>
    exfalso
    have hl:=bQ.len
    simp only [uV,List.length_nil,lZ] at hl
    refine hfin (kF (by omega)) g Lt ?_;rw [← hl];exact bQ.now
  rw [Yy h0 han.symm hnl] at bQ;dsimp only [zy,Option.map_some] at H;obtain ⟨b,o,pA,pc,rfl,hrow,hp,hrep⟩:=zJ (hv.mono hgm) hnl;refine kH H (YM h32 rfl (YR sw h32 rfl (by assumption) ?_));clear H;intro a H;refine kH H (YM h32 rfl (YI mZ jK h32 rfl rfl ?_));clear H;intro a H;refine aW jK (cs:=[_,_,_,_,_,_]) H (wg H rfl rfl h32) rfl rfl (fun j v hj=>H.hp.aI (hrow j v hj)) rfl ?_;clear H;intro a H;refine uJ (Li:=[_,_]) (L:=Lt) H (wg H rfl rfl h32) rfl rfl (hcb j1 _ _ _ _ ⟨_,bQ.head,_,rfl,hrep⟩ hgm bQ.now (Hp.owns (Li:=[_,_]) H.hp)) rfl ?_;clear H;rintro v38 Qe QI a w ⟨b38,rfl,hb1,hb2⟩ NS H;have hbg:=aL NS hbg;have r3:=aL NS (hrow 3 _ rfl);refine kH H (YN h32 rfl (Pf h32 rfl (Kz bR (Cd rfl ?_ ?_)))) <;> clear H bR
  ·intro qg a H
   try have p40:=dT qg
   refine bF ?_;refine (leave0 H results173 ?_).1;exact H.hp.cu (L':=QI) (by repeat (first|exact cZ _|apply List.Sublist.cons)) (.inr (hb2 (by simpa using qg)))
  intro qg a H
  try have p40:=dF qg
  refine kP H (Kc bH (SC (Rg sw rfl (by assumption) ?_)));clear H bH;intro a H;refine kH H (Rm rfl (Ri mZ jK rfl rfl (Rf MK rfl (Rg aC rfl (by assumption) ?_))));clear H;intro a H;refine aX aC 1 (vs:=[_]) _ H wn rfl rfl rfl rfl rfl rfl rfl rfl ?_;clear H;intro w H;dsimp only [List.set,setRow] at H;refine aH ?_;refine eO ((l[n].base,f',j1+1,QI,Qe)) (by exact (H).sub ⟨rfl,rfl,rfl,rfl,aD⟩) ?_ ?_
  ·(try dsimp only);exact ⟨fun b o h=>NS b o (hgm b o h),bQ.step (hb1 (by simpa using qg)),by omega⟩
  first|omega|(dsimp only;omega)
 intro h23 a H
 try have Bg:=dF h23
 refine fI ?_;refine (leave0 H results173 ?_).2;rw [Yz (by simpa using h23)] at bQ;refine H.hp.cu (L':=Lt) (by repeat (first|exact cZ _|apply List.Sublist.cons)) (.inl ?_);have h:=bQ.len
 simp only [List.length_nil,lZ] at h
 rw [← h];exact bQ.now
end
section
open Go.RowKit
theorem aag:∀ args w,(callFunc 140 args).run prog w=.ok (.enter 140 args) w:=enters func140 rfl (by kernel_rfl)
theorem aae:∀ args w,(callFunc 138 args).run prog w=.ok (.enter 138 args) w:=enters func138 rfl (by kernel_rfl)
theorem Mk:∀ args w,(callFunc 139 args).run prog w=.ok (.enter 139 args) w:=enters func139 rfl (by kernel_rfl)
theorem Jd:bV prog 159 4 4:=⟨by kernel_rfl⟩
theorem YB {G:GH} {w0:World} (hO:gI G [] w0) (l:List bL) (id:Int) (v:aj) (hv:av G (.sl 6 (l.map bL.dat)) v) :
  Calls prog 140 #[v,vi id] w0 (fT w0 G [] fun u G' L'=>∃ bl bi,u=.func (.func 173) #[] #[(aJ bl 0),(aJ bi 0)]∧L'=[bI bi id]∧aI G' bl 0=some v):=by
 obtain ⟨A,c,rfl,hc1,hc2,-⟩:=hv.slice;refine jh (N:=6) (T:=[(0,_),(1,_)]) func140 rfl ntmps140 rfl rfl hO ?_;intro a H;refine bK (fun _ K1=>?_);refine dz (cs:=[_]) H wn rfl rfl rfl ?_;clear H;intro b2 a w hb2 H;refine dz (cs:=[_]) H wn rfl rfl rfl ?_;clear H;intro b3 a w hb3 H;refine kH H (ak K1 rfl (SR fun _ K2=>?_));clear H K1;intro a H;refine nK H wn rfl rfl ?_;clear H;intro a H;refine kH H (ak K2 rfl ?_);clear H K2;intro a H;refine lr H results140 rfl ?_;have H:=H.bU (Pl:=[_,_]) (bN:=[_,_]) [1,0] (by decide) rfl;obtain ⟨Ga,hma,hb2',H⟩:=H.dQ;exact H.hp.eU ⟨b2,b3,rfl,rfl,by unfold aI;rw [hb2'];rfl⟩
def qU (p:Nat→Int):Nat→Nat→Int
 | _,0=>0
 | k,n+1=>if p k=0 then qU p (k+1) n else p k
theorem abH {p:Nat→Int} {k m:Nat} (h:k < m):qU p k (m - k)=if p k=0 then qU p (k+1) (m - (k+1)) else p k:=by
 obtain ⟨n,hn⟩:∃ n,m - k=n+1:=⟨m - k - 1,by omega⟩;rw [hn,qU,show m - (k+1)=n by omega]
theorem abG {p:Nat→Int} {k m:Nat} (h:m≤k):qU p k (m - k)=0:=by rw [show m - k=0 by omega];rfl
theorem Sl {p:Nat→Int}:∀ {n k:Nat},qU p k n=0→∀ j,k≤j→j < k+n→p j=0
 | 0,k,_,j,h1,h2=>by omega
 | n+1,k,h,j,h1,h2=>by
  rw [qU] at h;split at h
  ·rename_i hp
   by_cases e:j=k
   ·rw [e];exact hp
   exact Sl h j (by omega) (by omega)
  rename_i hp;exact absurd h hp
def wK (l:List bL) (k:Nat):Int:=match l[k]? with|some s=>iy l k s|none=>0
theorem UO {l:List bL} {k:Nat} (h:k < l.length):wK l k=iy l k l[k]:=by unfold wK;rw [gy h]
def qQ (l:List bL) (s:bL):Bool:=(decide (s.base≠0) && !Cq l s.kind s.base) || (decide (s.next≠0) && (decide (s.kind=2) || !Cq l 1 s.next))
def Me (l:List bL) (s:bL):Bool:=decide (l.length < (Dz l s.id).length)
def fU (l:List bL):Int:=if 128 < l.length then 9 else if qU (wK l) 0 l.length≠0 then qU (wK l) 0 l.length else if l.any (qQ l)=true then 25 else if l.any (Me l)=true then 16 else 0
theorem afq {l:List bL} (h:qU (wK l) 0 l.length=0) {k:Nat} (hk:k+1 < l.length):l[k].id < l[k+1].id:=by
 have h1:=Sl h (k+1) (gW _) (by omega);rw [UO hk,iy,ku] at h1
 have hp:vE l (k+1)=some l[k].id:=by rw [vE,ah (by omega),Nat.add_sub_cancel,gy (by omega)];rfl
 rw [hp] at h1
 split at h1
 ·cases h1
 split at h1
 ·cases h1
 split at h1
 ·cases h1
 rename_i _ h2 h3
 have h2':¬ l[k].id=l[k+1].id:=fun e=>h2 (by rw [e]);have h3':¬ l[k+1].id < l[k].id:=fun e=>h3 (aG e)
 omega
theorem UQ {l:List bL} (h:qU (wK l) 0 l.length=0):∀ {k j:Nat} (hk:k < l.length) (hj:j < k),l[j].id < l[k].id
 | k+1,j,hk,hj=>by
  have h1:=afq h hk
  by_cases e:j=k
  ·subst e;exact h1
  have:=UQ h (k:=k) (j:=j) (by omega) (by omega)
  omega
theorem UR {l:List bL} (h:qU (wK l) 0 l.length=0) (k:Nat) (hk:k < l.length):l[k].id∉(l.take k).map bL.id:=by
 intro hm;obtain ⟨x,hx1,hx2⟩:=List.mem_map.1 hm;obtain ⟨j,hj,rfl⟩:=List.getElem_of_mem hx1;rw [List.getElem_take] at hx2;rw [List.length_take] at hj;have:=UQ h hk (j:=j) (by omega)
 omega
theorem FJ {α:Type} {p:α→Bool} {l:List α} {k:Nat} (hk:k < l.length) (h:(l.take k).any p=false) (hp:p l[k]=false):(l.take (k+1)).any p=false:=by
 rw [mP hk,List.any_append,h];simp [hp]
theorem sP {α:Type} {p:α→Bool} {l:List α} {k:Nat} (hk:k < l.length) (hp:p l[k]=true):l.any p=true:=List.any_eq_true.2 ⟨_,jT hk,hp⟩
theorem xu {α:Type} {p:α→Bool} {l:List α} {k:Nat} (hk:l.length≤k) (h:(l.take k).any p=false):¬ l.any p=true:=by
 rw [jU hk] at h;rw [h];decide
set_option maxHeartbeats 1000000 in
theorem YS (G:GH) (w0:World) (hG:Hold G w0) (l:List bL) (v:aj) (hv:av G (.sl 6 (l.map bL.dat)) v) (hN:∀ s∈l,s.name.size≤4611686018427387904) :
  Calls prog 74 #[v] w0 (aZ w0 G fun u G'=>u=vi (fU l)):=by
 obtain ⟨A,c,rfl,hc1,hc2,-⟩:=hv.slice;have hml:maxLen=9223372036854775807:=rfl;rw [bW] at *;refine eN [(0,_)] func74 rfl ntmps74 rfl rfl hG ?_;intro a H;refine bK (fun _ K1=>?_);refine dz (cs:=[_]) H wn rfl rfl rfl ?_;clear H;intro b1 a w hb1 H;refine dx eP H wn rfl ?_;clear H;intro b2 a w hb2 H;refine K1 _ _ ?_;clear K1;refine kP H (SQ fun _ K2=>SR fun _ K3=>Ro sw 1 rfl (Rl mZ rfl (Rc rfl (Kz K3 (Cd rfl ?_ ?_))))) <;> clear H K3
 ·intro h12 a H
  try have qD:=dT h12
  refine bK (fun _ K4=>?_);refine aX eP 0 (vs:=[_]) _ H wn rfl rfl rfl rfl rfl rfl rfl rfl ?_;clear H;intro w H;dsimp only [List.set,setRow] at H;refine K4 _ _ ?_;clear K4;refine bF ?_;refine (leave1 H results74 (.cons (mE eP H rfl (H.hp.kr 0 rfl rfl)) .nil) ?_).1
  first
   | exact H.rt (ay vi (by rw [fU,au (by omega)]))
   | exact H.rt (ay vi (by rw [ah (by simpa using iL)] at heq;rw [fU,ah (by omega),← heq,au (by simpa using iL)]))
   | exact H.rt (ay vi (by rw [fU,ah (by omega),ah (by rw [hok];decide),au hbad]))
   | exact H.rt (ay vi (by rw [fU,ah (by omega),ah (by rw [hok];decide),ah hbad,au (sP hj2 hI)]))
   | exact H.rt (ay vi (by rw [fU,ah (by omega),ah (by rw [hok];decide),ah hbad,ah (xu (by omega) hnc)]))
 intro h12 a H
 try have qD:=dF h12
 refine kP H (Kc K2 (SQ fun _ K5=>SR fun _ K6=>Ro sw 1 rfl (Rl mZ rfl (Rm rfl (Kz K6 (SB ?_))))));clear H K2 K6;intro a H;skip;refine gq (ι:=Nat × GH) (Tc:=[(1,_),(2,_),(14,_)]) (Lc:=[(_,_),(_,_)]) (fun gh=>[(15,vi gh.1)]) (fun gh=>[]) (fun gh=>gh.2) (fun gh=>gh.1≤l.length∧qU (wK l) gh.1 (l.length - gh.1)=qU (wK l) 0 l.length∧(∀ b o,G b=some o→gh.2 b=some o)) (fun gh=>l.length - gh.1) ((0,G)) (by exact (H).sub ⟨rfl,rfl,rfl,rfl,aD⟩) ?_ ?_
 ·exact ⟨gW _,rfl,fun _ _ h=>h⟩
 clear H;intro gh a w hI H;obtain ⟨k,g⟩:=gh;dsimp only at hI H;obtain ⟨hk,heq,hgm⟩:=hI;dsimp only [lca,aV] at H;refine kP H (SR fun _ K7=>Rc rfl (Kz K7 (SQ fun _ K8=>Cd rfl ?_ ?_))) <;> clear H K7
 ·intro h16 a H
  try have p16:=dT h16
  have hk2:k < l.length:=by omega
  rw [abH hk2,UO hk2] at heq;refine kP H (Kc K8 (SQ fun _ K9=>SB (SR fun _ aQ=>Rm rfl (ak aQ rfl (SR fun _ bH=>Ro sw 1 rfl (Rm rfl ?_))))));clear H K8 aQ;intro a H;refine s_call aae H wn rfl (afr _ _ H.ro l k _ (hv.mono hgm) hk2 (hN _ (jT hk2))) rfl ?_;clear H;rintro v20 Db a w rfl AL H;refine kH H (ak bH rfl (SR fun _ bR=>Rm rfl (Rc rfl (Kz bR (Cd rfl ?_ ?_))))) <;> clear H bH bR
  ·intro h22 a H
   try have iL:=dT h22
   refine kP H (SR fun _ bY=>Rm rfl ?_);clear H;intro a H;refine aX eP 0 (vs:=[_]) _ H wn rfl rfl rfl rfl rfl rfl rfl rfl ?_;clear H;intro w H;dsimp only [List.set,setRow] at H;refine bY _ _ ?_;clear bY;refine bF ?_;refine (leave1 H results74 (.cons (mE eP H rfl (H.hp.kr 0 rfl rfl)) .nil) ?_).1
   first
    | exact H.rt (ay vi (by rw [fU,au (by omega)]))
    | exact H.rt (ay vi (by rw [ah (by simpa using iL)] at heq;rw [fU,ah (by omega),← heq,au (by simpa using iL)]))
    | exact H.rt (ay vi (by rw [fU,ah (by omega),ah (by rw [hok];decide),au hbad]))
    | exact H.rt (ay vi (by rw [fU,ah (by omega),ah (by rw [hok];decide),ah hbad,au (sP hj2 hI)]))
    | exact H.rt (ay vi (by rw [fU,ah (by omega),ah (by rw [hok];decide),ah hbad,ah (xu (by omega) hnc)]))
  intro h22 a H
  try have iL:=dF h22
  refine kP H (Kc K9 (SC (Rd rfl (Rm rfl ?_))));clear H K9;intro a H;refine aH ?_;refine eO ((k+1,Db)) (by exact (H).sub ⟨rfl,rfl,rfl,rfl,aD⟩) ?_ ?_
  ·(try dsimp only);exact ⟨by omega,by rw [au (by simpa using iL)] at heq;exact heq,fun b o h=>AL b o (hgm b o h)⟩
  first|omega|(dsimp only;omega)
 intro h16 a H
 try have p16:=dF h16
 have hok:qU (wK l) 0 l.length=0:=by rw [← heq];exact abG (by omega)
 clear heq;have Cn:=hv.mono hgm;refine fI ?_;refine K5 _ _ ?_;clear K5;refine kP H (SQ fun _ bX=>SR fun _ dO=>Ro sw 1 rfl (Rl mZ rfl (Rm rfl (Kz dO (SB ?_)))));clear H dO;intro a H;skip;refine gq (ι:=Nat × GH) (Tc:=[(1,_),(2,_),(25,_),(26,_)]) (Lc:=[(_,_),(_,_)]) (fun gh=>[(27,vi gh.1)]) (fun gh=>[]) (fun gh=>gh.2) (fun gh=>gh.1≤l.length∧(l.take gh.1).any (qQ l)=false∧(∀ b o,g b=some o→gh.2 b=some o)) (fun gh=>l.length - gh.1) ((0,g)) (by exact (H).sub ⟨rfl,rfl,rfl,rfl,rfl,aD⟩) ?_ ?_
 ·exact ⟨gW _,rfl,fun _ _ h=>h⟩
 clear H;intro gh a w hI H;obtain ⟨k,g2⟩:=gh;dsimp only at hI H;obtain ⟨hk3,hno,nY⟩:=hI;have wH:=Cn.mono nY;dsimp only [lca,aV] at H;refine kP H (SR fun _ dJ=>Rc rfl (Kz dJ (SQ fun _ dD=>Cd rfl ?_ ?_))) <;> clear H dJ
 ·intro dR a H
  try have p28:=dT dR
  have hk4:k < l.length:=by omega
  obtain ⟨b,o,pA,pc,rfl,hrow,hp,hrep⟩:=zJ wH hk4;refine kP H (Kc dD (SQ fun _ dU=>SB (SR fun _ fP=>Ri mZ jK rfl rfl ?_)));clear H dD;intro a H;refine aW jK (cs:=[_,_,_,_,_,_]) H wn rfl rfl (fun j v hj=>H.hp.aI (hrow j v hj)) rfl ?_;clear H;intro a H;refine dx jK H wn rfl ?_;clear H;intro b6 a w hb6 H;refine aX jK 0 (vs:=[_,_,_,_,_,_]) _ H wn rfl rfl rfl rfl rfl rfl rfl rfl ?_;clear H;intro w H;dsimp only [List.set,setRow] at H;refine fP _ _ ?_;clear fP;refine kP H (SR fun _ eG=>aO MK aC 0 rfl rfl (Rc rfl (Rm rfl (Sp 34 rfl ?_ ?_)))) <;> clear H
  ·intro eT a H
   try have p34:=dT eT
   refine kH H (YO sw 2 eT rfl (YF vg eT rfl (YO aC 0 eT rfl (YF MK eT rfl (YO aC 0 eT rfl ?_)))));clear H;intro a H;refine s_call Mk H (wg H rfl rfl eT) rfl (Oz _ _ H.ro l l[k].kind l[k].base _ wH) rfl ?_;clear H;rintro v40 g2 a w rfl JD H;replace nY:=fun b o (h:g b=some o)=>JD b o (nY b o h);replace wH:=wH.mono JD;refine kH H (YN eT rfl (Pt eT rfl (Rm rfl (Sp 43 rfl ?_ ?_)))) <;> clear H
   ·intro h43 a H
    try have p43:=dT h43
    refine kH H (bO h43 rfl (bO h43 rfl (Ku rfl (Ku rfl (Ku rfl (Ku rfl (Ku rfl (Ku rfl (Ku rfl (Ku rfl (Ku rfl (Ku rfl (Ks h43 rfl (Pt h43 rfl (Kz eG (Ct rfl rfl (SQ fun _ fZ=>?_)))))))))))))))));clear H eG;intro a H;have hbad:l.any (qQ l)=true:=sP hk4 (by unfold qQ;simp_all);refine mh ?_;refine aX eP 1 (vs:=[_]) _ H wn rfl rfl rfl rfl rfl rfl rfl rfl ?_;clear H;intro w H;dsimp only [List.set,setRow] at H;refine aH ?_;refine fZ _ _ ?_;clear fZ;refine bF ?_;refine (leave1 H results74 (.cons (mE eP H rfl (H.hp.kr 1 rfl rfl)) .nil) ?_).1
    first
     | exact H.rt (ay vi (by rw [fU,au (by omega)]))
     | exact H.rt (ay vi (by rw [ah (by simpa using iL)] at heq;rw [fU,ah (by omega),← heq,au (by simpa using iL)]))
     | exact H.rt (ay vi (by rw [fU,ah (by omega),ah (by rw [hok];decide),au hbad]))
     | exact H.rt (ay vi (by rw [fU,ah (by omega),ah (by rw [hok];decide),ah hbad,au (sP hj2 hI)]))
     | exact H.rt (ay vi (by rw [fU,ah (by omega),ah (by rw [hok];decide),ah hbad,ah (xu (by omega) hnc)]))
   intro h43 a H
   try have p43:=dF h43
   refine kH H (YF Jd h43 rfl (YO aC 0 h43 rfl (YC h43 rfl (YM h43 rfl (Sp 47 rfl ?_ ?_))))) <;> clear H
   ·intro h47 a H
    try have p47:=dT h47
    refine kH H (YF vg h47 rfl (YO aC 0 h47 rfl (YC h47 rfl (YM h47 rfl (Sp 51 rfl ?_ ?_))))) <;> clear H
    ·intro gY a H
     try have p51:=dT gY
     refine kH H (cK gY rfl (bO gY rfl (PT h47 gY rfl (PT h43 h47 rfl (Pf h43 rfl (Kz eG (Ct rfl rfl (SQ fun _ gN=>?_))))))));clear H eG;intro a H;have hbad:l.any (qQ l)=true:=sP hk4 (by unfold qQ;simp_all);refine mh ?_;refine aX eP 1 (vs:=[_]) _ H wn rfl rfl rfl rfl rfl rfl rfl rfl ?_;clear H;intro w H;dsimp only [List.set,setRow] at H;refine aH ?_;refine gN _ _ ?_;clear gN;refine bF ?_;refine (leave1 H results74 (.cons (mE eP H rfl (H.hp.kr 1 rfl rfl)) .nil) ?_).1
     first
      | exact H.rt (ay vi (by rw [fU,au (by omega)]))
      | exact H.rt (ay vi (by rw [ah (by simpa using iL)] at heq;rw [fU,ah (by omega),← heq,au (by simpa using iL)]))
      | exact H.rt (ay vi (by rw [fU,ah (by omega),ah (by rw [hok];decide),au hbad]))
      | exact H.rt (ay vi (by rw [fU,ah (by omega),ah (by rw [hok];decide),ah hbad,au (sP hj2 hI)]))
      | exact H.rt (ay vi (by rw [fU,ah (by omega),ah (by rw [hok];decide),ah hbad,ah (xu (by omega) hnc)]))
    intro gY a H
    try have p51:=dF gY
    refine kH H (YO sw 2 gY rfl (YF Jd gY rfl (YO aC 0 gY rfl ?_)));clear H;intro a H;refine s_call Mk H (wg H rfl rfl gY) rfl (Oz _ _ H.ro l 1 l[k].next _ wH) rfl ?_;clear H;rintro v55 g2 a w rfl uy H;replace nY:=fun b o (h:g b=some o)=>uy b o (nY b o h);replace wH:=wH.mono uy;refine kH H (YN gY rfl (PF h47 gY rfl (PT h43 h47 rfl (Pf h43 rfl (Kz eG (Cd rfl ?_ ?_)))))) <;> clear H eG
    ·intro iM a H
     try have p59:=dT iM
     refine bg (fun _ iW=>?_);have hbad:l.any (qQ l)=true:=sP hk4 (by unfold qQ;simp_all);refine mh ?_;refine aX eP 1 (vs:=[_]) _ H wn rfl rfl rfl rfl rfl rfl rfl rfl ?_;clear H;intro w H;dsimp only [List.set,setRow] at H;refine aH ?_;refine iW _ _ ?_;clear iW;refine bF ?_;refine (leave1 H results74 (.cons (mE eP H rfl (H.hp.kr 1 rfl rfl)) .nil) ?_).1
     first
      | exact H.rt (ay vi (by rw [fU,au (by omega)]))
      | exact H.rt (ay vi (by rw [ah (by simpa using iL)] at heq;rw [fU,ah (by omega),← heq,au (by simpa using iL)]))
      | exact H.rt (ay vi (by rw [fU,ah (by omega),ah (by rw [hok];decide),au hbad]))
      | exact H.rt (ay vi (by rw [fU,ah (by omega),ah (by rw [hok];decide),ah hbad,au (sP hj2 hI)]))
      | exact H.rt (ay vi (by rw [fU,ah (by omega),ah (by rw [hok];decide),ah hbad,ah (xu (by omega) hnc)]))
    intro iM a H
    try have p59:=dF iM
    refine kP H (Kc dU (SC (Rd rfl (Rm rfl ?_))));clear H dU;intro a H;refine aH ?_;refine eO ((k+1,g2)) (by exact (H.bU (Pl:=[_,_,_]) (bN:=[_,_]) [1,2] (by decide) rfl).sub ⟨rfl,rfl,rfl,rfl,rfl,aD⟩) ?_ ?_
    ·(try dsimp only);exact ⟨by omega,FJ hk4 hno (by unfold qQ;simp_all),nY⟩
    first|omega|(dsimp only;omega)
   intro h47 a H
   try have p47:=dF h47
   refine kH H (bO h47 rfl (bO h47 rfl (Ku rfl (Ku rfl (Ku rfl (Ku rfl (Ku rfl (Ks h47 rfl (PF h43 h47 rfl (Pf h43 rfl (Kz eG (Cf rfl rfl (Kc dU (SC (Rd rfl (Rm rfl ?_))))))))))))))));clear H eG dU;intro a H;refine aH ?_;refine eO ((k+1,g2)) (by exact (H.bU (Pl:=[_,_,_]) (bN:=[_,_]) [1,2] (by decide) rfl).sub ⟨rfl,rfl,rfl,rfl,rfl,aD⟩) ?_ ?_
   ·(try dsimp only);exact ⟨by omega,FJ hk4 hno (by unfold qQ;simp_all),nY⟩
   first|omega|(dsimp only;omega)
  intro eT a H
  try have p34:=dF eT
  refine kH H (cK eT rfl (bO eT rfl (bO eT rfl (Pf eT rfl (Rm rfl ?_)))));clear H;intro a H;refine Kj Jd H (wg H rfl rfl rfl) rfl rfl ?_;clear H;intro a H;refine zF aC H (wg H rfl rfl rfl) rfl (H.hp.kr 0 rfl rfl) rfl ?_;clear H;intro a H;refine Kh H (wg H rfl rfl rfl) rfl rfl rfl rfl ?_;clear H;intro a H;refine Km H (wg H rfl rfl rfl) rfl rfl ?_;clear H;intro a H;refine Vy H 47 rfl ?_ ?_
  ·intro h47
   try have p47:=dT h47
   refine kH H (YF vg h47 rfl (YO aC 0 h47 rfl (YC h47 rfl (YM h47 rfl (Sp 51 rfl ?_ ?_))))) <;> clear H
   ·intro gY a H
    try have p51:=dT gY
    refine kH H (cK gY rfl (bO gY rfl (PT h47 gY rfl ?_)));clear H;intro a H;refine Ko H (wg H rfl rfl rfl) rfl h47 rfl rfl ?_;clear H;intro a H;refine kH H (Pf rfl rfl (Kz eG (Ct rfl rfl (SQ fun _ iN=>?_))));clear H eG;intro a H;have hbad:l.any (qQ l)=true:=sP hk4 (by unfold qQ;simp_all);refine mh ?_;refine aX eP 1 (vs:=[_]) _ H wn rfl rfl rfl rfl rfl rfl rfl rfl ?_;clear H;intro w H;dsimp only [List.set,setRow] at H;refine aH ?_;refine iN _ _ ?_;clear iN;refine bF ?_;refine (leave1 H results74 (.cons (mE eP H rfl (H.hp.kr 1 rfl rfl)) .nil) ?_).1
    first
     | exact H.rt (ay vi (by rw [fU,au (by omega)]))
     | exact H.rt (ay vi (by rw [ah (by simpa using iL)] at heq;rw [fU,ah (by omega),← heq,au (by simpa using iL)]))
     | exact H.rt (ay vi (by rw [fU,ah (by omega),ah (by rw [hok];decide),au hbad]))
     | exact H.rt (ay vi (by rw [fU,ah (by omega),ah (by rw [hok];decide),ah hbad,au (sP hj2 hI)]))
     | exact H.rt (ay vi (by rw [fU,ah (by omega),ah (by rw [hok];decide),ah hbad,ah (xu (by omega) hnc)]))
   intro gY a H
   try have p51:=dF gY
   refine kH H (YO sw 2 gY rfl (YF Jd gY rfl (YO aC 0 gY rfl ?_)));clear H;intro a H;refine s_call Mk H (wg H rfl rfl gY) rfl (Oz _ _ H.ro l 1 l[k].next _ wH) rfl ?_;clear H;rintro v55 g2 a w rfl uy H;replace nY:=fun b o (h:g b=some o)=>uy b o (nY b o h);replace wH:=wH.mono uy;refine kH H (YN gY rfl (PF h47 gY rfl ?_));clear H;intro a H;refine Ko H (wg H rfl rfl rfl) rfl h47 rfl rfl ?_;clear H;intro a H;refine kH H (Pf rfl rfl (Kz eG (Cd rfl ?_ ?_))) <;> clear H eG
   ·intro iM a H
    try have p59:=dT iM
    refine bg (fun _ iO=>?_);have hbad:l.any (qQ l)=true:=sP hk4 (by unfold qQ;simp_all);refine mh ?_;refine aX eP 1 (vs:=[_]) _ H wn rfl rfl rfl rfl rfl rfl rfl rfl ?_;clear H;intro w H;dsimp only [List.set,setRow] at H;refine aH ?_;refine iO _ _ ?_;clear iO;refine bF ?_;refine (leave1 H results74 (.cons (mE eP H rfl (H.hp.kr 1 rfl rfl)) .nil) ?_).1
    first
     | exact H.rt (ay vi (by rw [fU,au (by omega)]))
     | exact H.rt (ay vi (by rw [ah (by simpa using iL)] at heq;rw [fU,ah (by omega),← heq,au (by simpa using iL)]))
     | exact H.rt (ay vi (by rw [fU,ah (by omega),ah (by rw [hok];decide),au hbad]))
     | exact H.rt (ay vi (by rw [fU,ah (by omega),ah (by rw [hok];decide),ah hbad,au (sP hj2 hI)]))
     | exact H.rt (ay vi (by rw [fU,ah (by omega),ah (by rw [hok];decide),ah hbad,ah (xu (by omega) hnc)]))
   intro iM a H
   try have p59:=dF iM
   refine kP H (Kc dU (SC (Rd rfl (Rm rfl ?_))));clear H dU;intro a H;refine aH ?_;refine eO ((k+1,g2)) (by exact (H.bU (Pl:=[_,_,_]) (bN:=[_,_]) [1,2] (by decide) rfl).sub ⟨rfl,rfl,rfl,rfl,rfl,aD⟩) ?_ ?_
   ·(try dsimp only);exact ⟨by omega,FJ hk4 hno (by unfold qQ;simp_all),nY⟩
   first|omega|(dsimp only;omega)
  intro h47
  try have p47:=dF h47
  refine kH H (bO h47 rfl (bO h47 rfl (Ku rfl (Ku rfl (Ku rfl (Ku rfl (Ku rfl (Ks h47 rfl ?_))))))));clear H;intro a H;refine Pj H (wg H rfl rfl rfl) rfl h47 rfl rfl ?_;clear H;intro a H;refine kH H (Pf rfl rfl (Kz eG (Cf rfl rfl (Kc dU (SC (Rd rfl (Rm rfl ?_)))))));clear H eG dU;intro a H;refine aH ?_;refine eO ((k+1,g2)) (by exact (H.bU (Pl:=[_,_,_]) (bN:=[_,_]) [1,2] (by decide) rfl).sub ⟨rfl,rfl,rfl,rfl,rfl,aD⟩) ?_ ?_
  ·(try dsimp only);exact ⟨by omega,FJ hk4 hno (by unfold qQ;simp_all),nY⟩
  first|omega|(dsimp only;omega)
 intro dR a H
 try have p28:=dF dR
 have hbad:=xu (by omega) hno;refine fI ?_;refine bX _ _ ?_;clear bX;refine kP H (SQ fun _ jM=>SR fun _ kC=>Ro sw 1 rfl (Rl mZ rfl (Rm rfl (Kz kC (SB ?_)))));clear H kC;intro a H;skip;refine IG (ι:=Nat × GH × List Nat) (Tc:=[(1,_),(2,_),(61,_),(62,_)]) (Lc:=[(_,_),(_,_)]) (fun gh=>Et gh.2.2) (fun gh=>[(63,vi gh.1)]) (fun gh=>[]++(jO gh.2.2++[])) (fun gh=>gh.2.1) (fun gh=>gh.1≤l.length∧(l.take gh.1).any (Me l)=false∧(∀ b o,g2 b=some o→gh.2.1 b=some o)) (fun gh=>l.length - gh.1) ((0,g2,[])) (by exact (H).sub ⟨rfl,rfl,rfl,rfl,rfl,aD⟩) ?_ ?_
 ·exact ⟨gW _,rfl,fun _ _ h=>h⟩
 clear H;intro gh a w hI H;obtain ⟨j,g3,ds⟩:=gh;dsimp only at hI H;obtain ⟨hj,hnc,sW⟩:=hI;have Oo:=wH.mono sW;dsimp only [lca,aV] at H;refine kP H (SR fun _ jo=>Rc rfl (Kz jo (SQ fun _ ng=>Cd rfl ?_ ?_))) <;> clear H jo
 ·intro h64 a H
  try have p64:=dT h64
  have hj2:j < l.length:=by omega
  obtain ⟨b,o,pA,pc,rfl,hrow,hp,hrep⟩:=zJ Oo hj2;refine kP H (Kc ng (SQ fun _ nO=>SB (SR fun _ ow=>Ri mZ jK rfl rfl ?_)));clear H ng;intro a H;refine aW jK (cs:=[_,_,_,_,_,_]) H wn rfl rfl (fun j v hj=>H.hp.aI (hrow j v hj)) rfl ?_;clear H;intro a H;refine dx jK H wn rfl ?_;clear H;intro b8 a w uj H;refine aX jK 0 (vs:=[_,_,_,_,_,_]) _ H wn rfl rfl rfl rfl rfl rfl rfl rfl ?_;clear H;intro w H;dsimp only [List.set,setRow] at H;refine ow _ _ ?_;clear ow;refine bK (fun _ nQ=>?_);refine dx aC H wn rfl ?_;clear H;intro b9 a w um H;refine aX aC 0 (vs:=[_]) _ H wn rfl rfl rfl rfl rfl rfl rfl rfl ?_;clear H;intro w H;dsimp only [List.set,setRow] at H;refine nQ _ _ ?_;clear nQ;refine kP H (SR fun _ nk=>Ro sw 3 rfl (aO sS aC 1 rfl rfl ?_));clear H;intro a H;refine gT aag (Li:=[_,_,_,_]++jO ds) (L:=[]) (St.un (A:=[_,_,_,_]) H) wn rfl (YB (Hp.owns (Li:=[_,_,_,_]++jO ds) (St.un (A:=[_,_,_,_]) H).hp) l l[j].id _ Oo) rfl ?_;clear H;rintro v70 g4 L70 a w ⟨bl,bi,rfl,rfl,hbl⟩ TJ H;have H:=(St.OJ (A:=[_,_,_,_,_]) (B:=jO ds) (H.perm Aj));dsimp only [lca,aV] at H;have hit:=YA (l:=l) (id:=l[j].id) (bi:=bi) hbl (Oo.mono TJ) (UR hok);refine nk _ _ ?_;clear nk;refine oG ?_;skip;refine Yh (B:=[(_,_)]) (ι:=Unit) (κ:=Int) (Lc:=[(_,_),(_,_)]) (fun (k:Nat) (gh:Unit)=>[(b9,.cells #[vi k] 3 (0,0)),(b2,.cells #[vi 0] 41 (0,0))]) (fun (k:Nat) (gh:Unit)=>(jO ds++[])) (fun (k:Nat) (gh:Unit) (g:GH)=>k≤l.length) (fun (gx:Int)=>Code.ret) (fun (gx:Int)=>[(b9,.cells #[vi gx] 3 (0,0)),(b2,.cells #[vi 16] 41 (0,0))]) (fun (gx:Int)=>(jO ds++[])) (fun (gx:Int) (g:GH)=>Me l l[j]=true) (()) (by exact H.bU (Pl:=[_,_,_,_,_]) (bN:=[_,_,_,_,_]) [0,2,4,1,3] (by decide) rfl) rfl R4 (hit) (fun _ _ h=>h) (fun e i g h=>absurd (of_decide_eq_false e) (by rw [bW] at h;omega)) rfl (fun k args g h=>by obtain ⟨_,_,rfl,_⟩:=VJ h;rfl) (fun _ _ _ _ _ h=>h) (fun _ _ _ _ h=>h) (gW _) ?_ ?_ ?_
  ·clear H;intro l21 qG oF bk k args gh Qa w21 F21 WX a TF zo hI adt adW aej H;obtain ⟨TF,aiD,rfl,ajm⟩:=VJ TF;dsimp only [nT,List.cons_append,List.nil_append] at H;refine fQ ?_;refine adt _ _ _ _ _ _ (by exact H) ?_;clear H;intro w H;refine kP H (SB (SR fun _ pF=>Ro aC 3 rfl (Rd rfl ?_)));clear H;intro a H;refine aX aC 3 (vs:=[_]) _ H wn rfl rfl rfl rfl rfl rfl rfl rfl ?_;clear H;intro w H;dsimp only [List.set,setRow] at H;refine pF _ _ ?_;clear pF;refine kP H (SR fun _ qN=>Ro aC 3 rfl (Ro sw 2 rfl (Rl mZ rfl (Rc rfl (Kz qN (Cd rfl ?_ ?_)))))) <;> clear H qN
   ·intro Cb a H
    try have Ez:=dT Cb
    refine bK (fun _ oz=>?_);refine aX eP 4 (vs:=[_]) _ H wn rfl rfl rfl rfl rfl rfl rfl rfl ?_;clear H;intro w H;dsimp only [List.set,setRow] at H;refine oz _ _ ?_;clear oz;refine bF ?_;refine (aej ((k:Int)+1) _ _ _ _ _ (by exact H) ?_).1 rfl;exact kT (by omega)
   intro Cb a H
   try have Ez:=dF Cb
   refine fQ ?_;refine adW (()) _ _ _ _ _ (by exact H) ?_
   omega
  ·clear H;intro P5 gh Qg a w zo hI H;dsimp only [lca,aV] at H;refine nO _ _ ?_;clear nO;refine kP H (SC (Rd rfl (Rm rfl ?_)));clear H;intro a H;refine aH ?_;refine Cz ((j+1,Qg,P5 :: ds)) (by exact (H.bU (Pl:=[_,_,_,_,_]) (bN:=[_,_,_]) [4,2,0] (by decide) rfl).sub ⟨rfl,rfl,rfl,rfl,rfl,aD⟩) ?_ ?_
   ·(try dsimp only);exact ⟨by omega,FJ hj2 hnc (kF (by rw [bW] at hI;omega)),fun b o h=>zo b o (TJ b o (sW b o h))⟩
   first|omega|(dsimp only;omega)
  clear H;intro P5 gx Qg a w zo hI H;obtain ⟨x,hgh⟩:∃ x,x=gx:=⟨_,rfl⟩;subst hgh;dsimp only [lca,aV] at H;refine bF ?_;refine (qy H 0 rfl ?_).1;clear H;intro a w H;dsimp only [List.eraseIdx_cons_succ,List.eraseIdx_cons_zero] at H;refine (vB (Lh:=[_,_,_,_]) _ H ?_).1;clear H;intro a w H;dsimp only [lca,aV] at H;refine (leave1 H results74 (.cons (mE eP H rfl (H.hp.kr 3 rfl rfl)) .nil) ?_).1
  first
   | exact H.rt (ay vi (by rw [fU,au (by omega)]))
   | exact H.rt (ay vi (by rw [ah (by simpa using iL)] at heq;rw [fU,ah (by omega),← heq,au (by simpa using iL)]))
   | exact H.rt (ay vi (by rw [fU,ah (by omega),ah (by rw [hok];decide),au hbad]))
   | exact H.rt (ay vi (by rw [fU,ah (by omega),ah (by rw [hok];decide),ah hbad,au (sP hj2 hI)]))
   | exact H.rt (ay vi (by rw [fU,ah (by omega),ah (by rw [hok];decide),ah hbad,ah (xu (by omega) hnc)]))
 intro h64 a H
 try have p64:=dF h64
 refine fI ?_;refine jM _ _ ?_;clear jM;refine bK (fun _ sH=>?_);refine aX eP 0 (vs:=[_]) _ H wn rfl rfl rfl rfl rfl rfl rfl rfl ?_;clear H;intro w H;dsimp only [List.set,setRow] at H;refine sH _ _ ?_;clear sH;refine bF ?_;refine (vB (Lh:=[_,_]) _ H ?_).1;clear H;intro a w H;dsimp only [lca,aV] at H;refine (leave1 H results74 (.cons (mE eP H rfl (H.hp.kr 0 rfl rfl)) .nil) ?_).1
 first
  | exact H.rt (ay vi (by rw [fU,au (by omega)]))
  | exact H.rt (ay vi (by rw [ah (by simpa using iL)] at heq;rw [fU,ah (by omega),← heq,au (by simpa using iL)]))
  | exact H.rt (ay vi (by rw [fU,ah (by omega),ah (by rw [hok];decide),au hbad]))
  | exact H.rt (ay vi (by rw [fU,ah (by omega),ah (by rw [hok];decide),ah hbad,au (sP hj2 hI)]))
  | exact H.rt (ay vi (by rw [fU,ah (by omega),ah (by rw [hok];decide),ah hbad,ah (xu (by omega) hnc)]))
end
section
open Go.RowKit
theorem wP:Ty prog 34 1 24 [.slice none 0 0] false:=⟨by kernel_rfl,by kernel_rfl⟩
theorem yj:prog.underlying 34=some (.slice 99):=by kernel_rfl
theorem Bp:Ty prog 99 2 32 [.string ⟨#[]⟩,.string ⟨#[]⟩] true:=⟨by kernel_rfl,by kernel_rfl⟩
theorem D6:bV prog 99 0 0:=⟨by kernel_rfl⟩
theorem ME:∀ args w,(callFunc 77 args).run prog w=.ok (.enter 77 args) w:=enters func77 rfl (by kernel_rfl)
theorem Ta:bV prog 99 1 1:=⟨by kernel_rfl⟩
theorem SI:bV prog 36 0 0:=⟨by kernel_rfl⟩
theorem abu:∀ args w,(callFunc 74 args).run prog w=.ok (.enter 74 args) w:=enters func74 rfl (by kernel_rfl)
theorem SK:bV prog 36 1 1:=⟨by kernel_rfl⟩
theorem ZX:∀ args w,(callFunc 120 args).run prog w=.ok (.enter 120 args) w:=enters func120 rfl (by kernel_rfl)
theorem ace:bV prog 36 2 2:=⟨by kernel_rfl⟩
theorem ZY:∀ args w,(callFunc 121 args).run prog w=.ok (.enter 121 args) w:=enters func121 rfl (by kernel_rfl)
theorem acf:bV prog 36 3 3:=⟨by kernel_rfl⟩
theorem Z4:∀ args w,(callFunc 122 args).run prog w=.ok (.enter 122 args) w:=enters func122 rfl (by kernel_rfl)
theorem aav:∀ args w,(callFunc 165 args).run prog w=.ok (.enter 165 args) w:=enters func165 rfl (by kernel_rfl)
theorem Wh {G:GH} {l:List lg} {A:Option Addr} {n c k:Nat} (hv:av G (.sl 2 (l.map lg.dat)) (.slice A n c)) (hk:k < l.length):∃ b o,A=some ⟨b,o,none⟩∧(∀ j u,l[k].cells[j]?=some u→aI G b (o+k*2+j)=some u):=by
 obtain ⟨A',c',he,_,_,hg⟩:=hv.slice
 injection he with e1 e2 e3
 subst e1;obtain ⟨b,o,cs,h1,h2,h3,h4⟩:=hg k l[k].dat (by simp [hk]);have:=aia h4;subst this;exact ⟨b,o,h1,h3⟩
def Wd (k:Nat) (x:lg) (pn:ByteArray):Int:=dB [bS (!pK x.name) 13,bS (decide (0 < (k:Int)) && (x.name.toList == pn.toList)) 7,bS (decide (0 < (k:Int)) && Op.bytesLess x.name.toList pn.toList) 6,zL x.value]
def EX (l:List lg) (k:Nat):Int:=match l[k]? with|some x=>Wd k x ((l[k - 1]?.map lg.name).getD ⟨#[]⟩)|none=>0
set_option maxHeartbeats 2000000 in
theorem ahZ {G:GH} {bl:Nat} {l:List lg} {A:Option Addr} {n c:Nat} (hb:aI G bl 0=some (.slice A n c)) (hv:av G (.sl 2 (l.map lg.dat)) (.slice A n c)) (hl:l.length≤4294967296) (ht:∀ x∈l,x.name.size < 4611686018427387904∧x.value.size < 4611686018427387904):qM (.func (.func 165) #[] #[(aJ bl 0)]) G l.length (EX l):=by
 intro k hk G1 w0 hm hG;refine kG (caps:=[(aJ bl 0)]) aav ?_;replace hb:=aL hm hb;replace hv:=hv.mono hm
 obtain rfl:n=l.length:=by have:=hv.len;simpa using this
 obtain ⟨b,o,rfl,hrow⟩:=Wh hv hk
 have hk1:k - 1 < l.length:=by omega
 obtain ⟨b',o',he',hrow'⟩:=Wh hv hk1
 injection he' with he'
 injection he' with e1 e2
 subst e1;subst e2;have hte:=ht _ (jT hk)
 have he:EX l k=Wd k l[k] l[k - 1].name:=by unfold EX;rw [gy hk,gy hk1];rfl
 obtain ⟨x,hx⟩:∃ x,x=l[k]:=⟨_,rfl⟩;obtain ⟨y,hy⟩:∃ y,y=l[k - 1]:=⟨_,rfl⟩;rw [← hx] at hrow hte he;rw [← hy] at hrow' he;refine eN [(0,_),(1,_)] func165 rfl ntmps165 rfl rfl hG ?_;intro a H;refine kP H (SR fun _ K1=>ak K1 rfl (SQ fun _ K2=>?_));clear H K1;intro a H;have H:=H.sub (T':=[(0,_),(1,_)]) ⟨rfl,rfl,aD⟩
 by_cases c0:0 < (k:Int)
 ·skip;refine dI hmx [[],[],[0,1],[0,1,2],(ra 0 4),(ra 0 5),(ra 0 6),(ra 0 7),[],[8],(ra 0 10),(ra 0 11),(ra 0 11),(ra 0 13),(ra 0 14),(ra 0 15),(ra 0 11),(ra 0 11),(ra 0 11++[17]),(ra 0 11++[17,18]),(ra 0 11++ra 16 4),(ra 0 11++ra 16 5),(ra 0 11++ra 16 6),(ra 0 23),(ra 0 24),(ra 0 25),[],[26],(ra 0 28),(ra 0 29),(ra 0 29),(ra 0 31),(ra 0 32),(ra 0 33),(ra 0 29),(ra 0 29),(ra 0 29++[35]),(ra 0 29++[35,36]),(ra 0 29++ra 34 4),(ra 0 29++ra 34 5),(ra 0 29++ra 34 6),(ra 0 41),(ra 0 42),(ra 0 43),[],[],[44,45],[44,45,46],(ra 44 4),(ra 0 49),(ra 0 50),(ra 0 51),(ra 0 52)] [50,51,52] (by kernel_rfl) [_,_,_,_,_,.bool (pK x.name),_,vi (bS (!pK x.name) 13),_,_,_,_,_,_,_,_,_,_,vi ((max k 1:Nat):Int),vi ((k - 1:Nat):Int),_,_,_,.bool (x.name.toList == y.name.toList),.bool (decide (0 < (k:Int)) && (x.name.toList == y.name.toList)),vi (bS (decide (0 < (k:Int)) && (x.name.toList == y.name.toList)) 7),_,_,_,_,_,_,_,_,_,_,vi ((max k 1:Nat):Int),vi ((k - 1:Nat):Int),_,_,_,.bool (Op.bytesLess x.name.toList y.name.toList),.bool (decide (0 < (k:Int)) && Op.bytesLess x.name.toList y.name.toList),vi (bS (decide (0 < (k:Int)) && Op.bytesLess x.name.toList y.name.toList) 6),_,_,_,_,_,vi (zL x.value)] H (aF (X0 rfl fun hG=>Rg wP rfl (aL hG hb)) (Z0 rfl (Rm rfl)) (Z2 0 4 1 5 rfl (Ri yj Bp rfl rfl)) (Z1 2 6 rfl (Rf D6 rfl)) (aF (X1 3 7 rfl fun hG=>Rg iB rfl (aL hG (hrow 0 _ rfl))) ?_ (Z1 5 9 rfl (Rn rfl)) ?_ (aF (Z0 rfl (Rm rfl)) (Z1 8 12 rfl (Rc rfl)) (Z1 9 13 rfl (Rm rfl)) (X1 10 14 rfl fun hG=>YR wP (aG c0) rfl (aL hG hb)) (aF (Z1 10 14 rfl (YM (aG c0) rfl)) (Z3 11 15 12 16 10 14 rfl (YI yj Bp (aG c0) rfl rfl)) (Z2 13 17 10 14 rfl (YF D6 (aG c0) rfl)) (X2 14 18 10 14 rfl fun hG=>YR iB (aG c0) rfl (aL hG (hrow 0 _ rfl))) (aF (X1 10 14 rfl fun hG=>YR wP (aG c0) rfl (aL hG hb)) (Z1 10 14 rfl (YM (aG c0) rfl)) ?_ ?_ (aF (Z3 16 20 19 23 10 14 rfl (YI yj Bp (aG c0) rfl rfl)) (Z2 20 24 10 14 rfl (YF D6 (aG c0) rfl)) (X2 21 25 10 14 rfl fun hG=>YR iB (aG c0) rfl (aL hG (hrow' 0 _ rfl))) ?_ (aF ?_ ?_ (Z0 rfl (Rm rfl)) (Z1 26 30 rfl (Rc rfl)) (aF (Z1 27 31 rfl (Rm rfl)) (X1 28 32 rfl fun hG=>YR wP (aG c0) rfl (aL hG hb)) (Z1 28 32 rfl (YM (aG c0) rfl)) (Z3 29 33 30 34 28 32 rfl (YI yj Bp (aG c0) rfl rfl)) (aF (Z2 31 35 28 32 rfl (YF D6 (aG c0) rfl)) (X2 32 36 28 32 rfl fun hG=>YR iB (aG c0) rfl (aL hG (hrow 0 _ rfl))) (X1 28 32 rfl fun hG=>YR wP (aG c0) rfl (aL hG hb)) (Z1 28 32 rfl (YM (aG c0) rfl)) (aF ?_ ?_ (Z3 34 38 37 41 28 32 rfl (YI yj Bp (aG c0) rfl rfl)) (Z2 38 42 28 32 rfl (YF D6 (aG c0) rfl)) (aF (X2 39 43 28 32 rfl fun hG=>YR iB (aG c0) rfl (aL hG (hrow' 0 _ rfl))) ?_ ?_ ?_ (aF (X0 rfl fun hG=>Rg wP rfl (aL hG hb)) (Z0 rfl (Rm rfl)) (Z2 44 48 45 49 rfl (Ri yj Bp rfl rfl)) (Z1 46 50 rfl (Rf Ta rfl)) (aF (X1 47 51 rfl fun hG=>Rg iB rfl (aL hG (hrow 1 _ rfl))) ?_ (bJ rfl) (bJ rfl) (bM (bJ rfl) dP)))))))))))))) ?_
  ·refine eH 4 8 rfl rfl fun _ a w G1 hG HT H fin=>?_;refine s_call ME H wn rfl (Md _ _ H.ro x.name hte.1) rfl ?_;clear H;rintro v9 G9 a w ⟨rfl,-⟩ Np H;exact fin H Np (rfl)
  ·refine eH 6 10 rfl rfl fun _ a w G1 hG HT H fin=>?_;refine s_call iP H wn rfl (iU _ _ H.ro _ 13) rfl ?_;clear H;rintro v11 sF a w ⟨rfl,-⟩ rV H;exact fin H rV (rfl)
  ·refine eB 17 21 10 14 rfl rfl fun _ a w G1 hG HT H fin=>?_;refine Kk H (wg H rfl rfl (aG c0)) rfl rfl rfl ?_;clear H;intro a H;exact fin H iJ (by show _=_;first|rfl|exact ay vi (by omega))
  ·refine eB 18 22 10 14 rfl rfl fun _ a w G1 hG HT H fin=>?_;refine oV _ H (wg H rfl rfl (aG c0)) rfl rfl rfl (by omega) (by omega) rfl ?_;clear H;intro a H;exact fin H iJ (by show _=_;first|rfl|exact ay vi (by omega))
  ·refine wY 15 19 22 26 10 14 rfl rfl fun _ a w G1 hG HT H fin=>?_;refine CQ H (wg H rfl rfl (aG c0)) rfl rfl rfl ?_;clear H;intro a H;exact fin H iJ rfl
  ·refine eB 10 14 23 27 rfl rfl fun _ a w G1 hG HT H fin=>?_;refine kH H (Pt (aG c0) rfl ?_);clear H;intro a H;exact fin H iJ (aM (by first|(rw [kT c0,Ai];done)|(rw [kF c0,tV];done)))
  ·refine eH 24 28 rfl rfl fun _ a w G1 hG HT H fin=>?_;refine s_call iP H wn rfl (iU _ _ H.ro _ 7) rfl ?_;clear H;rintro v29 Xg a w ⟨rfl,-⟩ Nf H;exact fin H Nf (rfl)
  ·refine eB 35 39 28 32 rfl rfl fun _ a w G1 hG HT H fin=>?_;refine Kk H (wg H rfl rfl (aG c0)) rfl rfl rfl ?_;clear H;intro a H;exact fin H iJ (by show _=_;first|rfl|exact ay vi (by omega))
  ·refine eB 36 40 28 32 rfl rfl fun _ a w G1 hG HT H fin=>?_;refine oV _ H (wg H rfl rfl (aG c0)) rfl rfl rfl (by omega) (by omega) rfl ?_;clear H;intro a H;exact fin H iJ (by show _=_;first|rfl|exact ay vi (by omega))
  ·refine wY 33 37 40 44 28 32 rfl rfl fun _ a w G1 hG HT H fin=>?_;refine agu H (wg H rfl rfl (aG c0)) rfl rfl rfl ?_;clear H;intro a H;exact fin H iJ rfl
  ·refine eB 28 32 41 45 rfl rfl fun _ a w G1 hG HT H fin=>?_;refine kH H (Pt (aG c0) rfl ?_);clear H;intro a H;exact fin H iJ (aM (by first|(rw [kT c0,Ai];done)|(rw [kF c0,tV];done)))
  ·refine eH 42 46 rfl rfl fun _ a w G1 hG HT H fin=>?_;refine s_call iP H wn rfl (iU _ _ H.ro _ 6) rfl ?_;clear H;rintro v47 Ik a w ⟨rfl,-⟩ Gq H;exact fin H Gq (rfl)
  ·refine eH 48 52 rfl rfl fun _ a w G1 hG HT H fin=>?_;refine s_call Mr H wn rfl (Py _ _ H.ro x.value hte.2) rfl ?_;clear H;rintro v53 Xi a w rfl Ni H;exact fin H Ni (rfl)
  clear H;intro a w G lU H hv;have H:=H.aT (hv 7 11 rfl rfl) rfl;have H:=H.aT (hv 25 29 rfl rfl) rfl;have H:=H.aT (hv 43 47 rfl rfl) rfl;have H:=H.aT (hv 49 53 rfl rfl) rfl;clear hv;refine ig nL eP [_,_,_,_] [_,_,_,_] H wn rfl rfl rfl rfl rfl (by intro i q h;match i,h with|0,h=>exact h|1,h=>exact h|2,h=>exact h|3,h=>exact h|n+4,h=>simp at h) rfl rfl ?_;clear H;intro XR a w adq H;obtain ⟨Xj,adO,Nz,H⟩:=H.dQ;refine s_call oI H wn rfl (oJ _ _ H.ro _ _ (Co [bS (!pK x.name) 13,bS (decide (0 < (k:Int)) && (x.name.toList == y.name.toList)) 7,bS (decide (0 < (k:Int)) && Op.bytesLess x.name.toList y.name.toList) 6,zL x.value] Nz (show 4≤maxLen by decide))) rfl ?_;clear H;rintro v55 _ a w ⟨rfl,rfl⟩ - H;refine kH H (Ra rfl ?_);clear H;intro a H;refine aH ⟨rfl,?_⟩;refine K2 _ _ ?_;clear K2;refine lr H results165 rfl ?_;exact H.rt (by rw [he];rfl)
 skip;refine dI hmx [[],[],[0,1],[0,1,2],(ra 0 4),(ra 0 5),(ra 0 6),(ra 0 7),[],[8],(ra 0 10),(ra 0 11),(ra 0 11),(ra 0 13),(ra 0 14),(ra 0 15),(ra 0 11),(ra 0 11),(ra 0 11++[17]),(ra 0 11++[17,18]),(ra 0 11++ra 16 4),(ra 0 11++ra 16 5),(ra 0 11++ra 16 6),(ra 0 23),(ra 0 24),(ra 0 25),[],[26],(ra 0 28),(ra 0 29),(ra 0 29),(ra 0 31),(ra 0 32),(ra 0 33),(ra 0 29),(ra 0 29),(ra 0 29++[35]),(ra 0 29++[35,36]),(ra 0 29++ra 34 4),(ra 0 29++ra 34 5),(ra 0 29++ra 34 6),(ra 0 41),(ra 0 42),(ra 0 43),[],[],[44,45],[44,45,46],(ra 44 4),(ra 0 49),(ra 0 50),(ra 0 51),(ra 0 52)] [50,51,52] (by kernel_rfl) [_,_,_,_,_,.bool (pK x.name),_,vi (bS (!pK x.name) 13),_,_,_,undef,undef,undef,undef,undef,undef,undef,undef,undef,undef,undef,undef,undef,.bool (decide (0 < (k:Int)) && (x.name.toList == y.name.toList)),vi (bS (decide (0 < (k:Int)) && (x.name.toList == y.name.toList)) 7),_,_,_,undef,undef,undef,undef,undef,undef,undef,undef,undef,undef,undef,undef,undef,.bool (decide (0 < (k:Int)) && Op.bytesLess x.name.toList y.name.toList),vi (bS (decide (0 < (k:Int)) && Op.bytesLess x.name.toList y.name.toList) 6),_,_,_,_,_,vi (zL x.value)] H (aF (X0 rfl fun hG=>Rg wP rfl (aL hG hb)) (Z0 rfl (Rm rfl)) (Z2 0 4 1 5 rfl (Ri yj Bp rfl rfl)) (Z1 2 6 rfl (Rf D6 rfl)) (aF (X1 3 7 rfl fun hG=>Rg iB rfl (aL hG (hrow 0 _ rfl))) ?_ (Z1 5 9 rfl (Rn rfl)) ?_ (aF (Z0 rfl (Rm rfl)) (Z1 8 12 rfl (Rc rfl)) (Z1 9 13 rfl (Rm rfl)) (bq (j:=10) (by kernel_rfl) (fun _ _ _ _ _ h=>h) rfl rfl rfl rfl rfl (fun _ _ h=>bD h (aM (aR c0))) rfl (fun _=>rfl)) (aF (bq (j:=10) (by kernel_rfl) (fun _ _ _ _ _ h=>h) rfl rfl rfl rfl rfl (fun _ _ h=>bD h (aM (aR c0))) rfl (fun _=>rfl)) (bq (j:=10) (by kernel_rfl) (fun _ _ _ _ _ h=>h) rfl rfl rfl rfl rfl (fun _ _ h=>bD h (aM (aR c0))) rfl (fun _=>rfl)) (bq (j:=10) (by kernel_rfl) (fun _ _ _ _ _ h=>h) rfl rfl rfl rfl rfl (fun _ _ h=>bD h (aM (aR c0))) rfl (fun _=>rfl)) (bq (j:=10) (by kernel_rfl) (fun _ _ _ _ _ h=>h) rfl rfl rfl rfl rfl (fun _ _ h=>bD h (aM (aR c0))) rfl (fun _=>rfl)) (aF (bq (j:=10) (by kernel_rfl) (fun _ _ _ _ _ h=>h) rfl rfl rfl rfl rfl (fun _ _ h=>bD h (aM (aR c0))) rfl (fun _=>rfl)) (bq (j:=10) (by kernel_rfl) (fun _ _ _ _ _ h=>h) rfl rfl rfl rfl rfl (fun _ _ h=>bD h (aM (aR c0))) rfl (fun _=>rfl)) (bq (j:=10) (by kernel_rfl) (fun _ _ _ _ _ h=>h) rfl rfl rfl rfl rfl (fun _ _ h=>bD h (aM (aR c0))) rfl (fun _=>rfl)) (bq (j:=10) (by kernel_rfl) (fun _ _ _ _ _ h=>h) rfl rfl rfl rfl rfl (fun _ _ h=>bD h (aM (aR c0))) rfl (fun _=>rfl)) (aF (bq (j:=10) (by kernel_rfl) (fun _ _ _ _ _ h=>h) rfl rfl rfl rfl rfl (fun _ _ h=>bD h (aM (aR c0))) rfl (fun _=>rfl)) (bq (j:=10) (by kernel_rfl) (fun _ _ _ _ _ h=>h) rfl rfl rfl rfl rfl (fun _ _ h=>bD h (aM (aR c0))) rfl (fun _=>rfl)) (bq (j:=10) (by kernel_rfl) (fun _ _ _ _ _ h=>h) rfl rfl rfl rfl rfl (fun _ _ h=>bD h (aM (aR c0))) rfl (fun _=>rfl)) (bq (j:=10) (by kernel_rfl) (fun _ _ _ _ _ h=>h) rfl rfl rfl rfl rfl (fun _ _ h=>bD h (aM (aR c0))) rfl (fun _=>rfl)) (aF ?_ ?_ (Z0 rfl (Rm rfl)) (Z1 26 30 rfl (Rc rfl)) (aF (Z1 27 31 rfl (Rm rfl)) (bq (j:=28) (by kernel_rfl) (fun _ _ _ _ _ h=>h) rfl rfl rfl rfl rfl (fun _ _ h=>bD h (aM (aR c0))) rfl (fun _=>rfl)) (bq (j:=28) (by kernel_rfl) (fun _ _ _ _ _ h=>h) rfl rfl rfl rfl rfl (fun _ _ h=>bD h (aM (aR c0))) rfl (fun _=>rfl)) (bq (j:=28) (by kernel_rfl) (fun _ _ _ _ _ h=>h) rfl rfl rfl rfl rfl (fun _ _ h=>bD h (aM (aR c0))) rfl (fun _=>rfl)) (aF (bq (j:=28) (by kernel_rfl) (fun _ _ _ _ _ h=>h) rfl rfl rfl rfl rfl (fun _ _ h=>bD h (aM (aR c0))) rfl (fun _=>rfl)) (bq (j:=28) (by kernel_rfl) (fun _ _ _ _ _ h=>h) rfl rfl rfl rfl rfl (fun _ _ h=>bD h (aM (aR c0))) rfl (fun _=>rfl)) (bq (j:=28) (by kernel_rfl) (fun _ _ _ _ _ h=>h) rfl rfl rfl rfl rfl (fun _ _ h=>bD h (aM (aR c0))) rfl (fun _=>rfl)) (bq (j:=28) (by kernel_rfl) (fun _ _ _ _ _ h=>h) rfl rfl rfl rfl rfl (fun _ _ h=>bD h (aM (aR c0))) rfl (fun _=>rfl)) (aF (bq (j:=28) (by kernel_rfl) (fun _ _ _ _ _ h=>h) rfl rfl rfl rfl rfl (fun _ _ h=>bD h (aM (aR c0))) rfl (fun _=>rfl)) (bq (j:=28) (by kernel_rfl) (fun _ _ _ _ _ h=>h) rfl rfl rfl rfl rfl (fun _ _ h=>bD h (aM (aR c0))) rfl (fun _=>rfl)) (bq (j:=28) (by kernel_rfl) (fun _ _ _ _ _ h=>h) rfl rfl rfl rfl rfl (fun _ _ h=>bD h (aM (aR c0))) rfl (fun _=>rfl)) (bq (j:=28) (by kernel_rfl) (fun _ _ _ _ _ h=>h) rfl rfl rfl rfl rfl (fun _ _ h=>bD h (aM (aR c0))) rfl (fun _=>rfl)) (aF (bq (j:=28) (by kernel_rfl) (fun _ _ _ _ _ h=>h) rfl rfl rfl rfl rfl (fun _ _ h=>bD h (aM (aR c0))) rfl (fun _=>rfl)) (bq (j:=28) (by kernel_rfl) (fun _ _ _ _ _ h=>h) rfl rfl rfl rfl rfl (fun _ _ h=>bD h (aM (aR c0))) rfl (fun _=>rfl)) ?_ ?_ (aF (X0 rfl fun hG=>Rg wP rfl (aL hG hb)) (Z0 rfl (Rm rfl)) (Z2 44 48 45 49 rfl (Ri yj Bp rfl rfl)) (Z1 46 50 rfl (Rf Ta rfl)) (aF (X1 47 51 rfl fun hG=>Rg iB rfl (aL hG (hrow 1 _ rfl))) ?_ (bJ rfl) (bJ rfl) (bM (bJ rfl) dP)))))))))))))) ?_
 ·refine eH 4 8 rfl rfl fun _ a w G1 hG HT H fin=>?_;refine s_call ME H wn rfl (Md _ _ H.ro x.name hte.1) rfl ?_;clear H;rintro v9 G9 a w ⟨rfl,-⟩ Np H;exact fin H Np (rfl)
 ·refine eH 6 10 rfl rfl fun _ a w G1 hG HT H fin=>?_;refine s_call iP H wn rfl (iU _ _ H.ro _ 13) rfl ?_;clear H;rintro v11 sF a w ⟨rfl,-⟩ rV H;exact fin H rV (rfl)
 ·refine eB 10 14 23 27 rfl rfl fun _ a w G1 hG HT H fin=>?_;refine kH H (Pf (aR c0) rfl ?_);clear H;intro a H;exact fin H iJ (aM (by first|(rw [kT c0,Ai];done)|(rw [kF c0,tV];done)))
 ·refine eH 24 28 rfl rfl fun _ a w G1 hG HT H fin=>?_;refine s_call iP H wn rfl (iU _ _ H.ro _ 7) rfl ?_;clear H;rintro v29 Xg a w ⟨rfl,-⟩ Nf H;exact fin H Nf (rfl)
 ·refine eB 28 32 41 45 rfl rfl fun _ a w G1 hG HT H fin=>?_;refine kH H (Pf (aR c0) rfl ?_);clear H;intro a H;exact fin H iJ (aM (by first|(rw [kT c0,Ai];done)|(rw [kF c0,tV];done)))
 ·refine eH 42 46 rfl rfl fun _ a w G1 hG HT H fin=>?_;refine s_call iP H wn rfl (iU _ _ H.ro _ 6) rfl ?_;clear H;rintro v47 Ik a w ⟨rfl,-⟩ Gq H;exact fin H Gq (rfl)
 ·refine eH 48 52 rfl rfl fun _ a w G1 hG HT H fin=>?_;refine s_call Mr H wn rfl (Py _ _ H.ro x.value hte.2) rfl ?_;clear H;rintro v53 Xi a w rfl Ni H;exact fin H Ni (rfl)
 clear H;intro a w G lU H hv;have H:=H.aT (hv 7 11 rfl rfl) rfl;have H:=H.aT (hv 25 29 rfl rfl) rfl;have H:=H.aT (hv 43 47 rfl rfl) rfl;have H:=H.aT (hv 49 53 rfl rfl) rfl;clear hv;refine ig nL eP [_,_,_,_] [_,_,_,_] H wn rfl rfl rfl rfl rfl (by intro i q h;match i,h with|0,h=>exact h|1,h=>exact h|2,h=>exact h|3,h=>exact h|n+4,h=>simp at h) rfl rfl ?_;clear H;intro XR a w adq H;obtain ⟨Xj,adO,Nz,H⟩:=H.dQ;refine s_call oI H wn rfl (oJ _ _ H.ro _ _ (Co [bS (!pK x.name) 13,bS (decide (0 < (k:Int)) && (x.name.toList == y.name.toList)) 7,bS (decide (0 < (k:Int)) && Op.bytesLess x.name.toList y.name.toList) 6,zL x.value] Nz (show 4≤maxLen by decide))) rfl ?_;clear H;rintro v55 _ a w ⟨rfl,rfl⟩ - H;refine kH H (Ra rfl ?_);clear H;intro a H;refine aH ⟨rfl,?_⟩;refine K2 _ _ ?_;clear K2;refine lr H results165 rfl ?_;exact H.rt (by rw [he];rfl)
def IL (l:List lg):Int:=dB [bS (decide (128 < (l.length:Int))) 9,jV (EX l) (min l.length 128)]
theorem YP (G:GH) (w0:World) (hG:Hold G w0) (l:List lg) (v:aj) (hv:av G (.sl 2 (l.map lg.dat)) v) (hl:l.length≤4294967296) (ht:∀ x∈l,x.name.size < 4611686018427387904∧x.value.size < 4611686018427387904) :
  Calls prog 122 #[v] w0 (aZ w0 G fun u G'=>u=vi (IL l)):=by
 obtain ⟨A,c,rfl,hc1,hc2,-⟩:=hv.slice;rw [bW] at *;refine eN [(0,_)] func122 rfl ntmps122 rfl rfl hG ?_;intro a H;refine bK (fun _ K1=>?_);refine dz (cs:=[_]) H wn rfl rfl rfl ?_;clear H;intro b1 a w hb1 H;refine kH H (ak K1 rfl (SQ fun _ K2=>?_));clear H K1;intro a H;have H:=H.sub (T':=[(1,_)]) ⟨rfl,aD⟩;obtain ⟨Ga,hma,hb1',H⟩:=H.dQ
 have hbl:aI Ga b1 0=some (.slice A l.length c):=by unfold aI;rw [hb1'];rfl
 have hcb:=ahZ hbl (hv.mono hma) hl ht;refine dI hmx [[],[0],[0,1],[0,1,2],[],[4],[4,5],[],(ra 0 8),(ra 0 9),(ra 0 10),(ra 0 11)] [9,10,11] (by kernel_rfl) [_,_,_,vi (bS (decide (128 < (l.length:Int))) 9),_,_,vi ((min l.length 128:Nat):Int),.func (.func 165) #[] #[(aJ b1 0)],vi (jV (EX l) (min l.length 128))] H (aF (X0 rfl fun hG=>Rg wP rfl (aL hG hbl)) (Z1 0 3 rfl (Rl yj rfl)) (Z1 1 4 rfl (Rc rfl)) ?_ (aF (X0 rfl fun hG=>Rg wP rfl (aL hG hbl)) (Z1 4 7 rfl (Rl yj rfl)) ?_ ?_ (aF ?_ (bJ rfl) (bJ rfl) (bJ rfl) dP))) ?_
 ·refine eH 2 5 rfl rfl fun _ a w G1 hG HT H fin=>?_;refine s_call iP H wn rfl (iU _ _ H.ro _ 9) rfl ?_;clear H;rintro v6 G6 a w ⟨rfl,-⟩ jF H;exact fin H jF (rfl)
 ·refine eH 5 8 rfl rfl fun _ a w G1 hG HT H fin=>?_;refine Kl H wn rfl rfl rfl ?_;clear H;intro a H;exact fin H iJ (ay vi (by omega))
 ·refine yE rfl fun _ a w G1 hG HT H fin=>?_;refine nK H wn rfl rfl ?_;clear H;intro a H;exact fin H iJ rfl
 ·refine eB 6 9 7 10 rfl rfl fun _ a w G1 hG HT H fin=>?_;refine s_call DK H wn rfl (FH _ _ H.ro (min l.length 128) (EX l) _ (by omega) ((hcb.mono hG).le (Nat.min_le_left _ _))) rfl ?_;clear H;rintro v11 sF a w rfl rV H;exact fin H rV (rfl)
 clear H;intro a w G lU H hv;have H:=H.aT (hv 3 6 rfl rfl) rfl;have H:=H.aT (hv 8 11 rfl rfl) rfl;clear hv;refine ig nL eP [_,_] [_,_] H wn rfl rfl rfl rfl rfl (by intro i q h;match i,h with|0,h=>exact h|1,h=>exact h|n+2,h=>simp at h) rfl rfl ?_;clear H;intro b12 a w Ec H;obtain ⟨yx,uq,Cg,H⟩:=H.dQ;refine s_call oI H wn rfl (oJ _ _ H.ro _ _ (vG Cg)) rfl ?_;clear H;rintro v13 _ a w ⟨rfl,rfl⟩ - H;refine kH H (Ra rfl ?_);clear H;intro a H;refine aH ⟨rfl,?_⟩;refine K2 _ _ ?_;clear K2;refine lr H results122 rfl ?_;exact H.rt rfl
structure yF where
 styles:List bL
 lists:List fK
 comments:List iC
 vars:List lg
structure Dn (G:GH) (s:yF) (a b c d:aj):Prop where
 st:av G (.sl 6 (s.styles.map bL.dat)) a
 li:av G (.sl 2 (s.lists.map fK.dat)) b
 cm:av G (.sl 6 (s.comments.map iC.dat)) c
 va:av G (.sl 2 (s.vars.map lg.dat)) d
structure Le (s:yF):Prop where
 sn:∀ x∈s.styles,x.name.size≤4611686018427387904
 ln:s.lists.length≤4294967296
 lt:∀ x∈s.lists,∀ y∈x.levels,y.wO.size < 4611686018427387904
 cn:s.comments.length≤4294967296
 ct:∀ x∈s.comments,x.author.size < 4611686018427387904∧x.text.size < 4611686018427387904
 vn:s.vars.length≤4294967296
 vt:∀ x∈s.vars,x.name.size < 4611686018427387904∧x.value.size < 4611686018427387904
def IK (s:yF):Int:=dB [fU s.styles,FK s.lists,IJ s.comments,IL s.vars]
theorem YK (G:GH) (w0:World) (hG:Hold G w0) (s:yF) (a b c d:aj) (hR:Dn G s a b c d) (hz:Le s) :
  Calls prog 66 #[.agg #[a,b,c,d]] w0 (aZ w0 G fun u G'=>u=vi (IK s)):=by
 obtain ⟨sA,sn,sc,rfl⟩:=hR.st.form;obtain ⟨lA,ln,lc,rfl⟩:=hR.li.form;obtain ⟨cA,cn,cc,rfl⟩:=hR.cm.form;obtain ⟨vA,vn,vc,rfl⟩:=hR.va.form;refine eN [(0,_)] func66 rfl ntmps66 rfl rfl hG ?_;intro a H;refine bK (fun _ K1=>?_);refine dz (cs:=[_,_,_,_]) H wn rfl rfl rfl ?_;clear H;intro b1 a w hb1 H;refine kH H (ak K1 rfl (SQ fun _ K2=>?_));clear H K1;intro a H;have H:=H.sub (T':=[(1,_)]) ⟨rfl,aD⟩;obtain ⟨Ga,hma,hb1',H⟩:=H.dQ
 have hc0:aI Ga b1 0=some (.slice sA sn sc):=by unfold aI;rw [hb1'];rfl
 have hc1:aI Ga b1 1=some (.slice lA ln lc):=by unfold aI;rw [hb1'];rfl
 have hc2:aI Ga b1 2=some (.slice cA cn cc):=by unfold aI;rw [hb1'];rfl
 have hc3:aI Ga b1 3=some (.slice vA vn vc):=by unfold aI;rw [hb1'];rfl
 refine dI hmx [[],[0],[0,1],[],[3],(ra 0 5),[],[6],(ra 0 8),[],[9],(ra 0 11),(ra 0 12),(ra 0 13),(ra 0 14)] [12,13,14] (by kernel_rfl) [_,_,vi (fU s.styles),_,_,vi (FK s.lists),_,_,vi (IJ s.comments),_,_,vi (IL s.vars)] H (aF (Z0 rfl (Rf SI rfl)) (X1 0 3 rfl fun hG=>Rg sw rfl (aL hG hc0)) ?_ (Z0 rfl (Rf SK rfl)) (aF (X1 3 6 rfl fun hG=>Rg EP rfl (aL hG hc1)) ?_ (Z0 rfl (Rf ace rfl)) (X1 6 9 rfl fun hG=>Rg ER rfl (aL hG hc2)) (aF ?_ (Z0 rfl (Rf acf rfl)) (X1 9 12 rfl fun hG=>Rg wP rfl (aL hG hc3)) ?_ (bM (bJ rfl) (bM (bJ rfl) (bM (bJ rfl) dP)))))) ?_
 ·refine eH 1 4 rfl rfl fun _ a w G1 hG HT H fin=>?_;refine s_call abu H wn rfl (YS _ _ H.ro s.styles _ ((hR.st.mono hma).mono hG) hz.sn) rfl ?_;clear H;rintro v5 G5 a w rfl Az H;exact fin H Az (rfl)
 ·refine eH 4 7 rfl rfl fun _ a w G1 hG HT H fin=>?_;refine s_call ZX H wn rfl (YH _ _ H.ro s.lists _ ((hR.li.mono hma).mono hG) hz.ln hz.lt) rfl ?_;clear H;rintro v8 G8 a w rfl ql H;exact fin H ql (rfl)
 ·refine eH 7 10 rfl rfl fun _ a w G1 hG HT H fin=>?_;refine s_call ZY H wn rfl (YE _ _ H.ro s.comments _ ((hR.cm.mono hma).mono hG) hz.cn hz.ct) rfl ?_;clear H;rintro v11 sF a w rfl rV H;exact fin H rV (rfl)
 ·refine eH 10 13 rfl rfl fun _ a w G1 hG HT H fin=>?_;refine s_call Z4 H wn rfl (YP _ _ H.ro s.vars _ ((hR.va.mono hma).mono hG) hz.vn hz.vt) rfl ?_;clear H;rintro v14 yB a w rfl Gm H;exact fin H Gm (rfl)
 clear H;intro a w G lU H hv;have H:=H.aT (hv 2 5 rfl rfl) rfl;have H:=H.aT (hv 5 8 rfl rfl) rfl;have H:=H.aT (hv 8 11 rfl rfl) rfl;have H:=H.aT (hv 11 14 rfl rfl) rfl;clear hv;refine ig nL eP [_,_,_,_] [_,_,_,_] H wn rfl rfl rfl rfl rfl (by intro i q h;match i,h with|0,h=>exact h|1,h=>exact h|2,h=>exact h|3,h=>exact h|n+4,h=>simp at h) rfl rfl ?_;clear H;intro b15 a w Jw H;obtain ⟨Bw,uw,adh,H⟩:=H.dQ;refine s_call oI H wn rfl (oJ _ _ H.ro _ _ (Co [fU s.styles,FK s.lists,IJ s.comments,IL s.vars] adh (show 4≤maxLen by decide))) rfl ?_;clear H;rintro v16 _ a w ⟨rfl,rfl⟩ - H;refine kH H (Ra rfl ?_);clear H;intro a H;refine aH ⟨rfl,?_⟩;refine K2 _ _ ?_;clear K2;refine lr H results66 rfl ?_;exact H.rt rfl
end
section
open Go.RowKit
def tH:Nat→List (Int × aj)→List MapEntry
 | _,[]=>[]
 | i,(k,v) :: r=>⟨.int .i64 k,v,i⟩ :: tH (i+1) r
theorem UC (x:Int × aj):∀ (i:Nat) (l:List (Int × aj)),tH i (l++[x])=tH i l++[⟨.int .i64 x.1,x.2,i+l.length⟩]
 | _,[]=>rfl
 | i,k :: r=>by
  rw [lN,tH,UC x (i+1) r,tH,lN,lX,show i+1+r.length=i+(r.length+1) by omega]
def qz (x:Int):List (Int × aj)→Option aj
 | []=>none
 | (k,v) :: r=>if k=x then some v else qz x r
theorem JR {x:Int}:∀ {l:List (Int × aj)},x∉l.map (·.1)→qz x l=none
 | [],_=>rfl
 | (k,v) :: r,h=>by
  rw [qz,ah (fun e=>h (by simp [e])),JR (fun hm=>h (rG _ hm))]
theorem MQ (x:Int):∀ (i j:Nat) (l:List (Int × aj)),∃ an,Instr.findNow (.int .i64) (.int .i64 x) (tH i l) j=some an∧an.map (·.2)=qz x l
 | _,_,[]=>⟨none,rfl,rfl⟩
 | i,j,(k,v) :: r=>by
  obtain ⟨an,h1,h2⟩:=MQ x (i+1) (j+1) r
  by_cases e:k=x
  ·subst e
   exact ⟨some (j,v),by simp only [tH,Instr.findNow,Instr.sameNow,au,beq_self_eq_true],by rw [qz,au rfl];rfl⟩
  ·have hb:(x == k)=false:=by simp;exact fun h=>e h.symm
   exact ⟨an,by simpa only [tH,Instr.findNow,Instr.sameNow,au,hb] using h1,by rw [qz,ah e];exact h2⟩
abbrev fB (l:List (Int × aj)):Obj:=.map (tH 0 l).toArray l.length
section
variable {N:Nat} {D:List Deferred} {w0:World} {F:Nat→Prop} {G0 G:GH} {L:OL} {T:List (Nat × aj)}
variable {r:Option Nat} {P:Program} {ops:Array Oper} {Q:Exit→Act→World→Prop} {rest:List Oper} {a:Act} {w:World}
variable {d:Nat} {ty:TypeId} {pos:String} {aK:Array Edge} {g:Option (Nat × Bool)}
theorem wN {t kt et:TypeId} {x y:Operand} {b:Nat} {l:List (Int × aj)} {ky:Int} {zv:aj} (hm:P.underlying t=some (.map kt et)) (hk:P.underlying kt=some (.int .i64)) (hz:(P.info? et).map (fun i=>i.zero)=some (some zv)) (H:St N D w0 F G0 G L T a w)
  (hw:Region.wanted ⟨some d,.lookup t x y false,ty,pos,aK,g⟩ (yielded ops a.tmps)=true) (hx:ev T x=some (.map (some b))) (hy:ev T y=some (.int .i64 ky)) (hb:w.heap[b]?=some (fB l)) (hd:Nat.blt d N=true)
  (k:∀ a',St N D w0 F G0 G L ((d,(qz ky l).getD zv) :: T) a' w→WL r P ops Q rest a' w):WL r P ops Q (⟨some d,.lookup t x y false,ty,pos,aK,g⟩ :: rest) a w:=by
 obtain ⟨an,hf,han⟩:=MQ ky 0 0 l
 obtain ⟨inf,hi1,hi2⟩:=kS.1 hz
 refine eY (v:=(qz ky l).getD zv) (w':=w) hw rfl ?_ (k _ (H.put hd _ H.hp))
 have hkey:MapKept.IsKey (.int .i64) (.int .i64 ky):=by trivial
 have hf2:Instr.findNow (.int .i64) (.int .i64 ky) (tH 0 l).toArray.toList 0=some an:=by simpa using hf
 replace hb:w.heap[b]?=some (.map (tH 0 l).toArray l.length):=hb
 generalize (tH 0 l).toArray=es at hb hf2
 have h1:=MapKept.run_checkKey (P:=P) (w:=w) hk hkey es.isEmpty 9999
 have h2:=MapKept.run_findKey (P:=P) (w:=w) hk hf2
 rw [← han]
 cases an with
 | none=>simp [execOp,Instr.lookup,H.ev hx,H.ev hy,cO,nJ hm,MapKept.run_getObj_map hb,h1,h2,Result.andThen,zeroValue,CP hi1,hi2]
 | some q=>simp [execOp,Instr.lookup,H.ev hx,H.ev hy,cO,nJ hm,MapKept.run_getObj_map hb,h1,h2,Result.andThen]
theorem Kq {t kt et:TypeId} {x y z:Operand} {b i:Nat} {l:List (Int × aj)} {ky:Int} {v:aj} (hm:P.underlying t=some (.map kt et)) (hk:P.underlying kt=some (.int .i64)) (H:St N D w0 F G0 G L T a w)
  (hw:Region.wanted ⟨none,.mapUpdate t x y z,ty,pos,aK,g⟩ (yielded ops a.tmps)=true) (hx:ev T x=some (.map (some b))) (hy:ev T y=some (.int .i64 ky)) (hzv:ev T z=some v) (hi:L[i]?=some (b,fB l)) (hn:qz ky l=none)
  (k:∀ w',St N D w0 F G0 G (L.set i (b,fB (l++[(ky,v)]))) T a w'→WL r P ops Q rest a w'):WL r P ops Q (⟨none,.mapUpdate t x y z,ty,pos,aK,g⟩ :: rest) a w:=by
 obtain ⟨an,hf,han⟩:=MQ ky 0 0 l
 have hnone:an=none:=by
  rw [hn] at han
  cases an with
  | none=>rfl
  | some q=>cases han
 subst hnone
 refine Vq (i:=i) hm hk H hw hx hy hzv hi (by trivial) (by simpa using hf) ?_
 intro w' H'
 have e:(tH 0 l).toArray.push ⟨.int .i64 ky,v,l.length⟩=(tH 0 (l++[(ky,v)])).toArray:=by
  rw [UC,List.push_toArray,mQ]
 refine k w' ?_
 rw [e] at H'
 rw [fB,lC]
 exact H'
end
end
section
open Go.RowKit
theorem yh:prog.underlying 150=some (.map 3 4):=by kernel_rfl
theorem CX:Ty prog 49 3 32 [.int .i64 0,.string ⟨#[]⟩,.int .i64 0] true:=⟨by kernel_rfl,by kernel_rfl⟩
theorem ahi:qO prog 152 [(0,1),(1,1),(2,1),(3,1),(4,1),(5,1)] [.map none,.map none,.map none,.map none,.map none,.int .i64 0]:=⟨by kernel_rfl,by kernel_rfl⟩
theorem MN:bV prog 38 3 7:=⟨by kernel_rfl⟩
theorem FY:bV prog 152 0 0:=⟨by kernel_rfl⟩
theorem HV:Ty prog 149 1 8 [.map none] false:=⟨by kernel_rfl,by kernel_rfl⟩
theorem Sz:bV prog 152 1 1:=⟨by kernel_rfl⟩
theorem xY:Ty prog 150 1 8 [.map none] false:=⟨by kernel_rfl,by kernel_rfl⟩
theorem ML:bV prog 38 2 6:=⟨by kernel_rfl⟩
theorem Bn:Ty prog 30 1 24 [.slice none 0 0] false:=⟨by kernel_rfl,by kernel_rfl⟩
theorem Bq:prog.underlying 30=some (.slice 49):=by kernel_rfl
theorem FZ:bV prog 152 2 2:=⟨by kernel_rfl⟩
theorem SL:bV prog 49 0 0:=⟨by kernel_rfl⟩
structure eZ where
 id:Int
 author:ByteArray
 time:Int
def eZ.dat (x:eZ):List Dat:=[li x.id,.lf (.string x.author),li x.time]
abbrev eZ.cells (x:eZ):List aj:=[vi x.id,.string x.author,vi x.time]
theorem agk {G:GH} {x:eZ} {cs:List aj} (h:aS G x.dat cs):cs=x.cells:=by
 simp only [eZ.dat,aS,av] at h
 obtain ⟨_,_,rfl,⟨rfl,_⟩,_,_,rfl,⟨rfl,_⟩,_,_,rfl,⟨rfl,_⟩,rfl⟩:=h
 rfl
theorem O8 {G:GH} {l:List eZ} {A:Option Addr} {n c k:Nat} (hv:av G (.sl 3 (l.map eZ.dat)) (.slice A n c)) (hk:k < l.length):∃ b o,A=some ⟨b,o,none⟩∧(∀ j u,l[k].cells[j]?=some u→aI G b (o+k*3+j)=some u):=by
 obtain ⟨A',c',he,_,_,hg⟩:=hv.slice
 injection he with e1 e2 e3
 subst e1;obtain ⟨b,o,cs,h1,h2,h3,h4⟩:=hg k l[k].dat (by simp [hk]);have:=agk h4;subst this;exact ⟨b,o,h1,h3⟩
abbrev fD (b ms ml mr mb mu:Nat) (n:Int):Nat × Obj:=(b,.cells #[.map (some ms),.map (some ml),.map (some mr),.map (some mb),.map (some mu),vi n] 152 (0,0))
def xR (l:List bL):List (Int × aj):=l.map fun s=>(s.id,vi s.kind)
def fE (l:List Int):List (Int × aj):=l.map fun k=>(k,.bool true)
structure sD (G:GH) (st:List bL) (li:List fK) (rv:List eZ) (ms ml mr mu:Nat):Prop where
 sty:G ms=some (fB (xR st))
 wJ:G ml=some (fB (fE (li.map fK.id)))
 rev:G mr=some (fB (fE (rv.map eZ.id)))
 use:G mu=some (fB [])
theorem sD.mono {G G':GH} {st:List bL} {li:List fK} {rv:List eZ} {ms ml mr mu:Nat} (h:sD G st li rv ms ml mr mu) (hm:∀ b o,G b=some o→G' b=some o):sD G' st li rv ms ml mr mu:=⟨hm _ _ h.sty,hm _ _ h.wJ,hm _ _ h.rev,hm _ _ h.use⟩
def yw (l:List Int):Prop:=∀ (k:Nat) (h:k < l.length),l[k]∉l.take k
theorem afg {l:List bL} {k:Nat} (h:k < l.length):xR (l.take (k+1))=xR (l.take k)++[(l[k].id,vi l[k].kind)]:=by rw [xR,mP h,sN];rfl
theorem Uz {l:List Int} {k:Nat} (h:k < l.length):fE (l.take (k+1))=fE (l.take k)++[(l[k],.bool true)]:=by rw [fE,mP h,sN];rfl
theorem aff {l:List bL} {k:Nat} (f:yw (l.map bL.id)) (h:k < l.length):qz l[k].id (xR (l.take k))=none:=by
 refine JR ?_;have:=f k (by simpa using h)
 simpa [xR,List.map_take,List.map_map,Function.comp_def] using this
theorem Uy {l:List Int} {k:Nat} (f:yw l) (h:k < l.length):qz l[k] (fE (l.take k))=none:=by
 refine JR ?_;have:=f k h
 simpa [fE,List.map_map,Function.comp_def] using this
theorem afl (G:GH) (w0:World) (hO:gI G [] w0) (D:jQ) (st:List bL) (li:List fK) (rv:List eZ) (hst:av G (.sl 6 (st.map bL.dat)) (fJ D.s1)) (GJ:av G (.sl 2 (li.map fK.dat)) (fJ D.s2)) (wF:av G (.sl 3 (rv.map eZ.dat)) (fJ D.r))
  (f1:yw (st.map bL.id)) (f2:yw (li.map fK.id)) (f3:yw (rv.map eZ.id)) (z1:st.length≤4294967296) (z2:li.length≤4294967296) (z3:rv.length≤4294967296) :
  Calls prog 68 #[D.val] w0 (fT w0 G [] fun u G' L'=>∃ b ms ml mr mb mu,u=(aJ b 0)∧L'=[fD b ms ml mr mb mu 0,(mb,fB [])]∧sD G' st li rv ms ml mr mu):=by
 obtain ⟨df,dp,dd,dy,⟨rA,rn,rc⟩,⟨sA,sn,sc⟩,⟨lA,ln,lc⟩,d3,d4,ins,mv⟩:=D;dsimp only at hst GJ wF
 obtain rfl:sn=st.length:=by have:=hst.len;simpa using this
 obtain rfl:ln=li.length:=by have:=GJ.len;simpa using this
 obtain rfl:rn=rv.length:=by have:=wF.len;simpa using this
 have hml:maxLen=9223372036854775807:=rfl;refine jh (N:=64) (T:=[(0,_)]) func68 rfl ntmps68 rfl rfl hO ?_;intro a H;refine bK (fun _ K1=>?_);refine dz (cs:=[_,_,_,_,_,_,_,_,_,_,_]) H wn rfl rfl rfl ?_;clear H;intro b1 a w hb1 H;refine kH H (ak K1 rfl (SQ fun _ K2=>?_));clear H K1;intro a H;obtain ⟨Ga,hma,hb1',H⟩:=H.dQ
 have hc7:aI Ga b1 7=some (.slice sA st.length sc):=by unfold aI;rw [hb1'];rfl
 have hc8:aI Ga b1 8=some (.slice lA li.length lc):=by unfold aI;rw [hb1'];rfl
 have hc6:aI Ga b1 6=some (.slice rA rv.length rc):=by unfold aI;rw [hb1'];rfl
 replace hst:=hst.mono hma;replace GJ:=GJ.mono hma;replace wF:=wF.mono hma;refine mh ?_;refine EH H wn rfl ?_;clear H;intro b10 a w Ny H;refine EH H wn rfl ?_;clear H;intro b11 a w Ce H;refine EH H wn rfl ?_;clear H;intro b12 a w Ec H;refine EH H wn rfl ?_;clear H;intro b13 a w Gx H;refine EH H wn rfl ?_;clear H;intro b14 a w Tw H;refine jw ahi [_,_,_,_,_,_] H wn rfl rfl rfl rfl ?_;clear H;intro a H;refine dz (cs:=[_,_,_,_,_,_]) H wn rfl rfl rfl ?_;clear H;intro b16 a w Tx H;refine kH H (aU K2 rfl (SQ fun _ K3=>SR fun _ K4=>Rf MN rfl (Rf SI rfl (Rg sw rfl (by assumption) ?_))));clear H K2;intro a H;refine kH H (Rl mZ rfl (Rm rfl (Kz K4 (SB ?_))));clear H K4;intro a H;skip;refine gq (ι:=Nat × GH) (Tc:=[(1,_),(3,_),(19,_),(20,_)]) (Lc:=[(_,_),(_,_),(_,_),(_,_),(_,_)]) (fun gh=>[(21,vi gh.1)]) (fun gh=>[(b10,fB (xR (st.take gh.1)))]) (fun gh=>gh.2) (fun gh=>gh.1≤st.length∧(∀ b o,Ga b=some o→gh.2 b=some o)) (fun gh=>st.length - gh.1) ((0,Ga)) (by exact (H).sub ⟨rfl,rfl,rfl,rfl,rfl,aD⟩) ?_ ?_
 ·exact ⟨gW _,fun _ _ h=>h⟩
 clear H;intro gh a w hI H;obtain ⟨k,g1⟩:=gh;dsimp only at hI H;obtain ⟨hk,Ej⟩:=hI;dsimp only [lca,aV] at H;refine kP H (SR fun _ K5=>Rc rfl (Kz K5 (SQ fun _ K6=>Cd rfl ?_ ?_))) <;> clear H K5
 ·intro h22 a H
  try have iL:=dT h22
  have hk2:k < st.length:=by omega
  obtain ⟨xb,xo,pA,pc,rfl,hrow,-,-⟩:=zJ (hst.mono Ej) hk2;have hnew:=aff f1 hk2;refine kP H (Kc K6 (SQ fun _ K7=>SB (SR fun _ K8=>Ri mZ jK rfl rfl ?_)));clear H K6;intro a H;refine aW jK (cs:=_) H wn rfl rfl (fun j v hj=>H.hp.aI (hrow j v hj)) rfl ?_;clear H;intro a H;refine dx jK H wn rfl ?_;clear H;intro b5 a w hb5 H;refine aX jK 0 (vs:=[_,_,_,_,_,_]) _ H wn rfl rfl rfl rfl rfl rfl rfl rfl ?_;clear H;intro w H;dsimp only [List.set,setRow] at H;refine K8 _ _ ?_;clear K8;refine dI hmx [[],[0],[0,1],[0,1,2],[],[4],[],[6],(ra 0 8)] [8] (by kernel_rfl) [_,_,_,.map (some b10),_,vi st[k].id,_,vi st[k].kind] H (aF (Z0 rfl (Rm rfl)) (Z1 0 25 rfl (Rk rfl)) (Z1 1 26 rfl (Rf FY rfl)) (Z1 2 27 rfl (Ro HV 1 rfl)) (aF (Z0 rfl (Rf sS rfl)) (Z1 4 29 rfl (Ro aC 0 rfl)) (Z0 rfl (Rf vg rfl)) (Z1 6 31 rfl (Ro aC 0 rfl)) (bM (bJ rfl) dP))) ?_
  clear H;intro a w G Az H hv;have H:=H.aT (hv 3 28 rfl rfl) rfl;have H:=H.aT (hv 5 30 rfl rfl) rfl;have H:=H.aT (hv 7 32 rfl rfl) rfl;clear hv;refine Kq (i:=6) CZ mJ H wn rfl rfl rfl rfl hnew ?_;clear H;intro w H;dsimp only [List.set,List.append,lca,aV] at H;rw [← afg hk2] at H;refine aH ⟨rfl,?_⟩;refine K7 _ _ ?_;clear K7;refine kP H (SC (Rd rfl (Rm rfl ?_)));clear H;intro a H;refine aH ?_;refine eO ((k+1,G)) (by exact (H.bU (Pl:=[_,_,_,_,_,_,_]) (bN:=[_,_,_,_,_,_]) [1,2,3,4,5,6] (by decide) rfl).sub ⟨rfl,rfl,rfl,rfl,rfl,aD⟩) ?_ ?_
  ·(try dsimp only);exact ⟨by omega,fun b o h=>Az b o (Ej b o h)⟩
  first|omega|(dsimp only;omega)
 intro h22 a H
 try have iL:=dF h22
 obtain rfl:k=st.length:=by omega
 rw [List.take_length] at H;have aiX:=aL Ej hc8;refine fI ?_;refine K3 _ _ ?_;clear K3;refine kP H (SQ fun _ K9=>SR fun _ aQ=>Rf MN rfl (Rf SK rfl (Rg EP rfl (by assumption) ?_)));clear H;intro a H;refine kH H (Rl EW rfl (Rm rfl (Kz aQ (SB ?_))));clear H aQ;intro a H;skip;refine gq (ι:=Nat × GH) (Tc:=[(1,_),(3,_),(36,_),(37,_)]) (Lc:=[(_,_),(_,_),(_,_),(_,_),(_,_)]) (fun gh=>[(38,vi gh.1)]) (fun gh=>[(b11,fB (fE ((li.map fK.id).take gh.1)))]) (fun gh=>gh.2) (fun gh=>gh.1≤li.length∧(∀ b o,g1 b=some o→gh.2 b=some o)) (fun gh=>li.length - gh.1) ((0,g1)) (by exact (H.bU (Pl:=[_,_,_,_,_,_]) (bN:=[_,_,_,_,_,_]) [0,1,2,3,5,4] (by decide) rfl).sub ⟨rfl,rfl,rfl,rfl,rfl,aD⟩) ?_ ?_
 ·exact ⟨gW _,fun _ _ h=>h⟩
 clear H;intro gh a w hI H;obtain ⟨k,g2⟩:=gh;dsimp only at hI H;obtain ⟨hk,JF⟩:=hI;dsimp only [lca,aV] at H;refine kP H (SR fun _ bH=>Rc rfl (Kz bH (SQ fun _ bR=>Cd rfl ?_ ?_))) <;> clear H bH
 ·intro jE a H
  try have p39:=dT jE
  have hk2:k < li.length:=by omega
  obtain ⟨xb,xo,B,d,rfl,hrow,-⟩:=OG ((GJ.mono Ej).mono JF) hk2
  have hk3:k < (li.map fK.id).length:=by simpa using hk2
  have hnew:=Uy f2 hk3
  have GI:(li.map fK.id)[k]=li[k].id:=by simp
  rw [GI] at hnew;refine kP H (Kc bR (SQ fun _ bY=>SB (SR fun _ bX=>Ri EW ET rfl rfl ?_)));clear H bR;intro a H;refine aW ET (cs:=_) H wn rfl rfl (fun j v hj=>H.hp.aI (hrow j v hj)) rfl ?_;clear H;intro a H;refine dx ET H wn rfl ?_;clear H;intro b7 a w rW H;refine aX ET 0 (vs:=[_,_]) _ H wn rfl rfl rfl rfl rfl rfl rfl rfl ?_;clear H;intro w H;dsimp only [List.set,setRow] at H;refine bX _ _ ?_;clear bX;refine dI hmx [[],[0],[0,1],[0,1,2],[],[4],(ra 0 6)] [6] (by kernel_rfl) [_,_,_,.map (some b11),_,vi li[k].id] H (aF (Z0 rfl (Rm rfl)) (Z1 0 42 rfl (Rk rfl)) (Z1 1 43 rfl (Rf Sz rfl)) (Z1 2 44 rfl (Ro xY 1 rfl)) (bM (Z0 rfl (Rf SN rfl)) (bM (Z1 4 46 rfl (Ro aC 0 rfl)) (bM (bJ rfl) dP)))) ?_
  clear H;intro a w G rU H hv;have H:=H.aT (hv 3 45 rfl rfl) rfl;have H:=H.aT (hv 5 47 rfl rfl) rfl;clear hv;refine Kq (i:=6) yh mJ H wn rfl rfl rfl rfl hnew ?_;clear H;intro w H;dsimp only [List.set,List.append,lca,aV] at H;rw [← GI,← Uz hk3] at H;refine aH ⟨rfl,?_⟩;refine bY _ _ ?_;clear bY;refine kP H (SC (Rd rfl (Rm rfl ?_)));clear H;intro a H;refine aH ?_;refine eO ((k+1,G)) (by exact (H.bU (Pl:=[_,_,_,_,_,_,_]) (bN:=[_,_,_,_,_,_]) [1,2,3,4,5,6] (by decide) rfl).sub ⟨rfl,rfl,rfl,rfl,rfl,aD⟩) ?_ ?_
  ·(try dsimp only);exact ⟨by omega,fun b o h=>rU b o (JF b o h)⟩
  first|omega|(dsimp only;omega)
 intro jE a H
 try have p39:=dF jE
 obtain rfl:k=li.length:=by omega
 rw [jU (by simp)] at H;have aiW:=aL JF (aL Ej hc6);refine fI ?_;refine K9 _ _ ?_;clear K9;refine kP H (SQ fun _ dO=>SR fun _ dJ=>Rf ML rfl (Rg Bn rfl (by assumption) ?_));clear H;intro a H;refine kH H (Rl Bq rfl (Rm rfl (Kz dJ (SB ?_))));clear H dJ;intro a H;skip;refine gq (ι:=Nat × GH) (Tc:=[(3,_),(50,_),(51,_)]) (Lc:=[(_,_),(_,_),(_,_),(_,_),(_,_)]) (fun gh=>[(52,vi gh.1)]) (fun gh=>[(b12,fB (fE ((rv.map eZ.id).take gh.1)))]) (fun gh=>gh.2) (fun gh=>gh.1≤rv.length∧(∀ b o,g2 b=some o→gh.2 b=some o)) (fun gh=>rv.length - gh.1) ((0,g2)) (by exact (H.bU (Pl:=[_,_,_,_,_,_]) (bN:=[_,_,_,_,_,_]) [0,1,2,4,5,3] (by decide) rfl).sub ⟨rfl,rfl,rfl,rfl,aD⟩) ?_ ?_
 ·exact ⟨gW _,fun _ _ h=>h⟩
 clear H;intro gh a w hI H;obtain ⟨k,g3⟩:=gh;dsimp only at hI H;obtain ⟨hk,TK⟩:=hI;dsimp only [lca,aV] at H;refine kP H (SR fun _ dD=>Rc rfl (Kz dD (SQ fun _ dU=>Cd rfl ?_ ?_))) <;> clear H dD
 ·intro nD a H
  try have p53:=dT nD
  have hk2:k < rv.length:=by omega
  obtain ⟨xb,xo,rfl,hrow⟩:=O8 (((wF.mono Ej).mono JF).mono TK) hk2
  have hk3:k < (rv.map eZ.id).length:=by simpa using hk2
  have hnew:=Uy f3 hk3
  have GI:(rv.map eZ.id)[k]=rv[k].id:=by simp
  rw [GI] at hnew;refine kP H (Kc dU (SQ fun _ fP=>SB (SR fun _ eG=>Ri Bq CX rfl rfl ?_)));clear H dU;intro a H;refine aW CX (cs:=_) H wn rfl rfl (fun j v hj=>H.hp.aI (hrow j v hj)) rfl ?_;clear H;intro a H;refine dx CX H wn rfl ?_;clear H;intro b9 a w um H;refine aX CX 0 (vs:=[_,_,_]) _ H wn rfl rfl rfl rfl rfl rfl rfl rfl ?_;clear H;intro w H;dsimp only [List.set,setRow] at H;refine eG _ _ ?_;clear eG;refine dI hmx [[],[0],[0,1],[0,1,2],[],[4],(ra 0 6)] [6] (by kernel_rfl) [_,_,_,.map (some b12),_,vi rv[k].id] H (aF (Z0 rfl (Rm rfl)) (Z1 0 56 rfl (Rk rfl)) (Z1 1 57 rfl (Rf FZ rfl)) (Z1 2 58 rfl (Ro xY 1 rfl)) (bM (Z0 rfl (Rf SL rfl)) (bM (Z1 4 60 rfl (Ro aC 0 rfl)) (bM (bJ rfl) dP)))) ?_
  clear H;intro a w G Cc H hv;have H:=H.aT (hv 3 59 rfl rfl) rfl;have H:=H.aT (hv 5 61 rfl rfl) rfl;clear hv;refine Kq (i:=6) yh mJ H wn rfl rfl rfl rfl hnew ?_;clear H;intro w H;dsimp only [List.set,List.append,lca,aV] at H;rw [← GI,← Uz hk3] at H;refine aH ⟨rfl,?_⟩;refine fP _ _ ?_;clear fP;refine kP H (SC (Rd rfl (Rm rfl ?_)));clear H;intro a H;refine aH ?_;refine eO ((k+1,G)) (by exact (H.bU (Pl:=[_,_,_,_,_,_,_]) (bN:=[_,_,_,_,_,_]) [1,2,3,4,5,6] (by decide) rfl).sub ⟨rfl,rfl,rfl,rfl,aD⟩) ?_ ?_
  ·(try dsimp only);exact ⟨by omega,fun b o h=>Cc b o (TK b o h)⟩
  first|omega|(dsimp only;omega)
 intro nD a H
 try have p53:=dF nD
 obtain rfl:k=rv.length:=by omega
 rw [jU (by simp)] at H;refine fI ?_;refine dO _ _ ?_;clear dO;refine kP H (SR fun _ fZ=>Rm rfl (ak fZ rfl ?_));clear H fZ;intro a H;refine bF ?_;have H:=H.bU (Pl:=[_,_,_,_,_,_]) (bN:=[_,_,_,_,_,_]) [3,4,5,1,0,2] (by decide) rfl;obtain ⟨Gs,hms,hs,H⟩:=H.dQ;obtain ⟨Gl,NW,hl,H⟩:=H.dQ;obtain ⟨Gr,hmr,hr,H⟩:=H.dQ;obtain ⟨Gu,hmu,hu,H⟩:=H.dQ;refine lv H results68 rfl ?_;exact H.hp.eU ⟨b16,b10,b11,b12,b13,b14,rfl,rfl,⟨hmu _ _ (hmr _ _ (NW _ _ hs)),hmu _ _ (hmr _ _ hl),hmu _ _ hr,hu⟩⟩
end
section
open Go.RowKit
theorem abU:bV prog 152 4 4:=⟨by kernel_rfl⟩
theorem SA:bV prog 152 3 3:=⟨by kernel_rfl⟩
theorem Cy (x:Int):∀ l:List Int,(qz x (fE l)).getD (.bool false)=.bool (decide (x∈l))
 | []=>rfl
 | k :: r=>by
  have ih:=Cy x r;rw [fE,fG,qz]
  by_cases e:k=x
  ·subst e;simp
  rw [ah e,show (r.map fun k=>(k,Value.bool true))=fE r from rfl,ih]
  simp [show x≠k from fun h=>e h.symm]
def Kt (st:List bL) (v:Int):Int:=((st.find? fun s=>decide (s.id=v)).map bL.kind).getD 0
theorem Hq (x:Int):∀ l:List bL,(qz x (xR l)).getD (vi 0)=vi (Kt l x)
 | []=>rfl
 | s :: r=>by
  have ih:=Hq x r;rw [xR,fG,qz]
  by_cases e:s.id=x
  ·subst e;simp [Kt]
  rw [ah e,show (r.map fun s=>(s.id,vi s.kind))=xR r from rfl,ih]
  simp [Kt,e]
def oO (bE:List Int) (x:Int):Int:=if ¬ (1≤x∧x≤1073741824) then 18 else if x∈bE then 7 else 0
def jG (bE:List Int) (x:Int):List Int:=if oO bE x=0 then bE++[x] else bE
theorem afe (l:List Int) (x:Int):fE (l++[x])=fE l++[(x,.bool true)]:=by simp [fE]
theorem LW (G:GH) (L:OL) (w0:World) (st:List bL) (li:List fK) (rv:List eZ) (b ms ml mr mb mu:Nat) (n:Int) (bE:List Int) (x:Int) (hck:sD G st li rv ms ml mr mu) (hO:gI G (fD b ms ml mr mb mu n :: (mb,fB (fE bE)) :: L) w0) :
  Calls prog 167 #[(aJ b 0),vi x] w0 (fT w0 G (fD b ms ml mr mb mu n :: (mb,fB (fE bE)) :: L) fun u G' L'=>u=vi (oO bE x)∧L'=fD b ms ml mr mb mu n :: (mb,fB (fE (jG bE x))) :: L∧G=G'):=by
 refine jh (N:=29) (T:=[(0,_),(1,_)]) func167 rfl ntmps167 rfl rfl hO ?_;intro a H;refine kP H (SR fun _ K1=>ak K1 rfl (SQ fun _ K2=>SB (SR fun _ K3=>Rm rfl ?_)));clear H K1;intro a H;refine s_call tY H wn rfl (uE _ _ H.ro x 1 1073741824) rfl ?_;clear H;rintro v7 _ a w ⟨rfl,rfl⟩ - H;refine kH H (Rn rfl (Rm rfl (Sp 9 rfl ?_ ?_))) <;> clear H
 ·intro h9 a H
  try have p9:=dT h9
  refine kH H (cK h9 rfl (cK h9 rfl (Pt h9 rfl (ak K3 rfl (Ct rfl rfl (SQ fun _ K4=>?_))))));clear H K3;intro a H
  have e:oO bE x=18:=by rw [oO,au (by first|(simp_all;done)|(simp_all;omega))]
  refine kP H (SC (aU K4 rfl ?_));clear H K4;intro a H;refine lr H results167 rfl ?_
  first
   | exact H.hp.eU ⟨by rw [e],by rw [jG,au e],rfl⟩
   | exact H.hp.eU ⟨by rw [e],by rw [jG,ah (by rw [e];decide)],rfl⟩
 intro h9 a H
 try have p9:=dF h9
 refine kH H (YM h9 rfl ?_);clear H;intro a H;refine qW H (wg H rfl rfl h9) rfl rfl ?_;clear H;intro a H;refine kH H (YF abU h9 rfl (YO xY 0 h9 rfl (YM h9 rfl ?_)));clear H;intro a H;refine wN (zv:=.bool false) yh mJ (by kernel_rfl) H (wg H rfl rfl h9) rfl rfl (H.ro _ _ hck.use) rfl ?_;clear H;intro a H;rw [show (qz x []).getD (Value.bool false)=.bool false from rfl] at H;refine kH H (Pf h9 rfl (ak K3 rfl (Cd rfl ?_ ?_))) <;> clear H K3
 ·intro h5 a H
  try have p5:=dT h5
  refine bg (fun _ K5=>?_)
  have e:oO bE x=18:=by rw [oO,au (by first|(simp_all;done)|(simp_all;omega))]
  refine kP H (SC (aU K5 rfl ?_));clear H K5;intro a H;refine lr H results167 rfl ?_
  first
   | exact H.hp.eU ⟨by rw [e],by rw [jG,au e],rfl⟩
   | exact H.hp.eU ⟨by rw [e],by rw [jG,ah (by rw [e];decide)],rfl⟩
 intro h5 a H
 try have p5:=dF h5
 have hin:decide (1≤x∧x≤1073741824)=true:=by simp_all
 refine kP H (SR fun _ K6=>Rm rfl (Rk rfl (aO SA xY 0 rfl rfl (Rm rfl ?_))));clear H;intro a H;refine wN (zv:=.bool false) yh mJ (by kernel_rfl) H wn rfl rfl (H.hp.own _ (rG _ jC)) rfl ?_;clear H;intro a H;rw [Cy] at H;refine kH H (ak K6 rfl (Cd rfl ?_ ?_)) <;> clear H K6
 ·intro dM a H
  refine bg (fun _ K7=>?_)
  have e:oO bE x=7:=by rw [oO,ah (by simpa using hin),au (rF dM)]
  refine kP H (SC (aU K7 rfl ?_));clear H K7;intro a H;refine lr H results167 rfl ?_
  first
   | exact H.hp.eU ⟨by rw [e],by rw [jG,au e],rfl⟩
   | exact H.hp.eU ⟨by rw [e],by rw [jG,ah (by rw [e];decide)],rfl⟩
 intro dM a H
 have hx:x∉bE:=of_decide_eq_false dM;have hnew:qz x (fE bE)=none:=JR (by simpa [fE,List.map_map,Function.comp_def] using hx)
 have e:oO bE x=0:=by rw [oO,ah (by simpa using hin),ah hx]
 refine kP H (Kc K2 (SR fun _ K8=>Rm rfl (Rk rfl (aO SA xY 0 rfl rfl (Rm rfl ?_)))));clear H K2;intro a H;refine Kq (i:=1) yh mJ H wn rfl rfl rfl rfl hnew ?_;clear H;intro w H;dsimp only [List.set] at H;rw [← afe] at H;refine K8 _ _ ?_;clear K8;refine kP H (SR fun _ K9=>ak K9 rfl ?_);clear H K9;intro a H;refine lr H results167 rfl ?_
 first
  | exact H.hp.eU ⟨by rw [e],by rw [jG,au e],rfl⟩
  | exact H.hp.eU ⟨by rw [e],by rw [jG,ah (by rw [e];decide)],rfl⟩
def mX (st:List bL) (wJ:List Int) (key v:Int):Int :=
 if key=20∨key=1 then bS (decide (v≠0∧Kt st v≠(if key=1 then 2 else 1))) 25 else if key=33 then bS (decide (v≠0∧v∉wJ)) 26 else 0
theorem LX (G:GH) (w0:World) (hG:Hold G w0) (st:List bL) (li:List fK) (rv:List eZ) (b ms ml mr mb mu:Nat) (n:Int) (key v:Int) (hck:sD G st li rv ms ml mr mu) (hb:G b=some (fD b ms ml mr mb mu n).2) :
  Calls prog 129 #[(aJ b 0),vi key,vi v] w0 (aZ w0 G fun u G'=>u=vi (mX st (li.map fK.id) key v)∧G=G'):=by
 have hc0:aI G b 0=some (.map (some ms)):=by unfold aI;rw [hb];rfl
 have hc1:aI G b 1=some (.map (some ml)):=by unfold aI;rw [hb];rfl
 refine eN [(0,_),(1,_),(2,_)] func129 rfl ntmps129 rfl rfl hG ?_;intro a H;refine kP H (SR fun _ K1=>ak K1 rfl (SQ fun _ K2=>SR fun _ K3=>Rm rfl (Kz K3 (SB (SQ fun _ K4=>SR fun _ K5=>Rc rfl (ak K5 rfl (Cd rfl ?_ ?_))))))) <;> clear H K1 K3 K5
 ·intro h9 a H
  try have p9:=dT h9
  refine kP H (Kc K4 (Ct rfl h9 (SR fun _ K6=>ak K6 rfl (SQ fun _ K7=>SR fun _ K8=>Rm rfl (Rc rfl (Kz K8 (Cd rfl ?_ ?_))))))) <;> clear H K4 K6 K8
  ·intro gB a H
   try have qE:=dT gB
   refine kP H (SC (aU K7 rfl (SR fun _ K9=>Rm rfl (Rc rfl (Rm rfl (Sp 16 rfl ?_ ?_)))))) <;> clear H K7
   ·intro h16 a H
    try have p16:=dT h16
    refine kH H (YM h16 rfl ?_);clear H;intro a H;refine qW H (wg H rfl rfl h16) rfl rfl ?_;clear H;intro a H;refine kH H (YF FY h16 rfl (YR HV h16 rfl (by assumption) ?_));clear H;intro a H;refine kH H (YM h16 rfl ?_);clear H;intro a H;refine wN (zv:=vi 0) CZ mJ (by kernel_rfl) H (wg H rfl rfl h16) rfl rfl (H.ro _ _ hck.sty) rfl ?_;clear H;intro a H;rw [Hq] at H;refine kH H (YM h16 rfl (YC h16 rfl (Pt h16 rfl ?_)));clear H;intro a H;refine s_call iP H wn rfl (iU _ _ H.ro _ 25) rfl ?_;clear H;rintro v26 _ a w ⟨rfl,rfl⟩ - H;refine kH H (ak K9 rfl ?_);clear H K9;intro a H;refine lr H results129 rfl ?_
    exact H.rt ⟨ay vi (by unfold mX;(repeat' split) <;> first|rfl|(simp_all;done)|(exfalso;simp_all;done)|(congr 1;rw [vO];simp only [vP,sO,lM];exact ⟨fun h=>⟨p31,h⟩,fun h=>h.2⟩)),rfl⟩
   intro h16 a H
   try have p16:=dF h16
   refine kH H (cK h16 rfl (cK h16 rfl (bO h16 rfl (Pf h16 rfl ?_))));clear H;intro a H;refine s_call iP H wn rfl (iU _ _ H.ro _ 25) rfl ?_;clear H;rintro v26 _ a w ⟨rfl,rfl⟩ - H;refine kH H (ak K9 rfl ?_);clear H K9;intro a H;refine lr H results129 rfl ?_
   exact H.rt ⟨ay vi (by unfold mX;(repeat' split) <;> first|rfl|(simp_all;done)|(exfalso;simp_all;done)|(congr 1;rw [vO];simp only [vP,sO,lM];exact ⟨fun h=>⟨p31,h⟩,fun h=>h.2⟩)),rfl⟩
  intro gB a H
  try have qE:=dF gB
  refine kP H (Kc K7 (SR fun _ aQ=>Rm rfl (Rc rfl (Rm rfl (Sp 16 rfl ?_ ?_))))) <;> clear H K7
  ·intro h16 a H
   try have p16:=dT h16
   refine kH H (YM h16 rfl ?_);clear H;intro a H;refine qW H (wg H rfl rfl h16) rfl rfl ?_;clear H;intro a H;refine kH H (YF FY h16 rfl (YR HV h16 rfl (by assumption) ?_));clear H;intro a H;refine kH H (YM h16 rfl ?_);clear H;intro a H;refine wN (zv:=vi 0) CZ mJ (by kernel_rfl) H (wg H rfl rfl h16) rfl rfl (H.ro _ _ hck.sty) rfl ?_;clear H;intro a H;rw [Hq] at H;refine kH H (YM h16 rfl (YC h16 rfl (Pt h16 rfl ?_)));clear H;intro a H;refine s_call iP H wn rfl (iU _ _ H.ro _ 25) rfl ?_;clear H;rintro v26 _ a w ⟨rfl,rfl⟩ - H;refine kH H (ak aQ rfl ?_);clear H aQ;intro a H;refine lr H results129 rfl ?_
   exact H.rt ⟨ay vi (by unfold mX;(repeat' split) <;> first|rfl|(simp_all;done)|(exfalso;simp_all;done)|(congr 1;rw [vO];simp only [vP,sO,lM];exact ⟨fun h=>⟨p31,h⟩,fun h=>h.2⟩)),rfl⟩
  intro h16 a H
  try have p16:=dF h16
  refine kH H (cK h16 rfl (cK h16 rfl (bO h16 rfl (Pf h16 rfl ?_))));clear H;intro a H;refine s_call iP H wn rfl (iU _ _ H.ro _ 25) rfl ?_;clear H;rintro v26 _ a w ⟨rfl,rfl⟩ - H;refine kH H (ak aQ rfl ?_);clear H aQ;intro a H;refine lr H results129 rfl ?_
  exact H.rt ⟨ay vi (by unfold mX;(repeat' split) <;> first|rfl|(simp_all;done)|(exfalso;simp_all;done)|(congr 1;rw [vO];simp only [vP,sO,lM];exact ⟨fun h=>⟨p31,h⟩,fun h=>h.2⟩)),rfl⟩
 intro h9 a H
 try have p9:=dF h9
 refine kP H (SC (Rc rfl (aU K4 rfl (Cd rfl ?_ ?_)))) <;> clear H K4
 ·intro h9 a H
  try have p9:=dT h9
  refine kP H (SR fun _ bH=>ak bH rfl (SQ fun _ bR=>SR fun _ bY=>Rm rfl (Rc rfl (Kz bY (Cd rfl ?_ ?_))))) <;> clear H bH bY
  ·intro gB a H
   try have qE:=dT gB
   refine kP H (SC (aU bR rfl (SR fun _ bX=>Rm rfl (Rc rfl (Rm rfl (Sp 16 rfl ?_ ?_)))))) <;> clear H bR
   ·intro h16 a H
    try have p16:=dT h16
    refine kH H (YM h16 rfl ?_);clear H;intro a H;refine qW H (wg H rfl rfl h16) rfl rfl ?_;clear H;intro a H;refine kH H (YF FY h16 rfl (YR HV h16 rfl (by assumption) ?_));clear H;intro a H;refine kH H (YM h16 rfl ?_);clear H;intro a H;refine wN (zv:=vi 0) CZ mJ (by kernel_rfl) H (wg H rfl rfl h16) rfl rfl (H.ro _ _ hck.sty) rfl ?_;clear H;intro a H;rw [Hq] at H;refine kH H (YM h16 rfl (YC h16 rfl (Pt h16 rfl ?_)));clear H;intro a H;refine s_call iP H wn rfl (iU _ _ H.ro _ 25) rfl ?_;clear H;rintro v26 _ a w ⟨rfl,rfl⟩ - H;refine kH H (ak bX rfl ?_);clear H bX;intro a H;refine lr H results129 rfl ?_
    exact H.rt ⟨ay vi (by unfold mX;(repeat' split) <;> first|rfl|(simp_all;done)|(exfalso;simp_all;done)|(congr 1;rw [vO];simp only [vP,sO,lM];exact ⟨fun h=>⟨p31,h⟩,fun h=>h.2⟩)),rfl⟩
   intro h16 a H
   try have p16:=dF h16
   refine kH H (cK h16 rfl (cK h16 rfl (bO h16 rfl (Pf h16 rfl ?_))));clear H;intro a H;refine s_call iP H wn rfl (iU _ _ H.ro _ 25) rfl ?_;clear H;rintro v26 _ a w ⟨rfl,rfl⟩ - H;refine kH H (ak bX rfl ?_);clear H bX;intro a H;refine lr H results129 rfl ?_
   exact H.rt ⟨ay vi (by unfold mX;(repeat' split) <;> first|rfl|(simp_all;done)|(exfalso;simp_all;done)|(congr 1;rw [vO];simp only [vP,sO,lM];exact ⟨fun h=>⟨p31,h⟩,fun h=>h.2⟩)),rfl⟩
  intro gB a H
  try have qE:=dF gB
  refine kP H (Kc bR (SR fun _ dO=>Rm rfl (Rc rfl (Rm rfl (Sp 16 rfl ?_ ?_))))) <;> clear H bR
  ·intro h16 a H
   try have p16:=dT h16
   refine kH H (YM h16 rfl ?_);clear H;intro a H;refine qW H (wg H rfl rfl h16) rfl rfl ?_;clear H;intro a H;refine kH H (YF FY h16 rfl (YR HV h16 rfl (by assumption) ?_));clear H;intro a H;refine kH H (YM h16 rfl ?_);clear H;intro a H;refine wN (zv:=vi 0) CZ mJ (by kernel_rfl) H (wg H rfl rfl h16) rfl rfl (H.ro _ _ hck.sty) rfl ?_;clear H;intro a H;rw [Hq] at H;refine kH H (YM h16 rfl (YC h16 rfl (Pt h16 rfl ?_)));clear H;intro a H;refine s_call iP H wn rfl (iU _ _ H.ro _ 25) rfl ?_;clear H;rintro v26 _ a w ⟨rfl,rfl⟩ - H;refine kH H (ak dO rfl ?_);clear H dO;intro a H;refine lr H results129 rfl ?_
   exact H.rt ⟨ay vi (by unfold mX;(repeat' split) <;> first|rfl|(simp_all;done)|(exfalso;simp_all;done)|(congr 1;rw [vO];simp only [vP,sO,lM];exact ⟨fun h=>⟨p31,h⟩,fun h=>h.2⟩)),rfl⟩
  intro h16 a H
  try have p16:=dF h16
  refine kH H (cK h16 rfl (cK h16 rfl (bO h16 rfl (Pf h16 rfl ?_))));clear H;intro a H;refine s_call iP H wn rfl (iU _ _ H.ro _ 25) rfl ?_;clear H;rintro v26 _ a w ⟨rfl,rfl⟩ - H;refine kH H (ak dO rfl ?_);clear H dO;intro a H;refine lr H results129 rfl ?_
  exact H.rt ⟨ay vi (by unfold mX;(repeat' split) <;> first|rfl|(simp_all;done)|(exfalso;simp_all;done)|(congr 1;rw [vO];simp only [vP,sO,lM];exact ⟨fun h=>⟨p31,h⟩,fun h=>h.2⟩)),rfl⟩
 intro h9 a H
 try have p9:=dF h9
 refine kP H (SR fun _ dJ=>Rc rfl (ak dJ rfl (Cd rfl ?_ ?_))) <;> clear H dJ
 ·intro h27 a H
  try have p27:=dT h27
  refine kP H (SR fun _ dD=>Rm rfl (Rc rfl (Rm rfl (Sp 31 rfl ?_ ?_)))) <;> clear H
  ·intro h31 a H
   try have p31:=dT h31
   refine kH H (YM h31 rfl ?_);clear H;intro a H;refine qW H (wg H rfl rfl h31) rfl rfl ?_;clear H;intro a H;refine kH H (YF Sz h31 rfl (YR xY h31 rfl (by assumption) ?_));clear H;intro a H;refine kH H (YM h31 rfl ?_);clear H;intro a H;refine wN (zv:=.bool false) yh mJ (by kernel_rfl) H (wg H rfl rfl h31) rfl rfl (H.ro _ _ hck.wJ) rfl ?_;clear H;intro a H;rw [Cy] at H;refine kH H (YN h31 rfl (Pt h31 rfl ?_));clear H;intro a H;refine s_call iP H wn rfl (iU _ _ H.ro _ 26) rfl ?_;clear H;rintro v40 _ a w ⟨rfl,rfl⟩ - H;refine kH H (ak dD rfl ?_);clear H dD;intro a H;refine lr H results129 rfl ?_
   exact H.rt ⟨ay vi (by unfold mX;(repeat' split) <;> first|rfl|(simp_all;done)|(exfalso;simp_all;done)|(congr 1;rw [vO];simp only [vP,sO,lM];exact ⟨fun h=>⟨p31,h⟩,fun h=>h.2⟩)),rfl⟩
  intro h31 a H
  try have p31:=dF h31
  refine kH H (cK h31 rfl (bO h31 rfl (bO h31 rfl (Pf h31 rfl ?_))));clear H;intro a H;refine s_call iP H wn rfl (iU _ _ H.ro _ 26) rfl ?_;clear H;rintro v40 _ a w ⟨rfl,rfl⟩ - H;refine kH H (ak dD rfl ?_);clear H dD;intro a H;refine lr H results129 rfl ?_
  exact H.rt ⟨ay vi (by unfold mX;(repeat' split) <;> first|rfl|(simp_all;done)|(exfalso;simp_all;done)|(congr 1;rw [vO];simp only [vP,sO,lM];exact ⟨fun h=>⟨p31,h⟩,fun h=>h.2⟩)),rfl⟩
 intro h27 a H
 try have p27:=dF h27
 refine kP H (Kc K2 (SR fun _ dU=>ak dU rfl ?_));clear H K2 dU;intro a H;refine lr H results129 rfl ?_
 exact H.rt ⟨ay vi (by unfold mX;(repeat' split) <;> first|rfl|(simp_all;done)|(exfalso;simp_all;done)|(congr 1;rw [vO];simp only [vP,sO,lM];exact ⟨fun h=>⟨p31,h⟩,fun h=>h.2⟩)),rfl⟩
end
section
open Go.RowKit
section
variable {N:Nat} {D:List Deferred} {w0:World} {F:Nat→Prop} {G0 G G':GH} {L L':OL} {T:List (Nat × aj)}
variable {r:Option Nat} {P:Program} {ops:Array Oper} {Q:Exit→Act→World→Prop} {rest:List Oper} {a:Act} {w w':World}
theorem zS {ι:Type} {Tc:List (Nat × aj)} {l:List Oper} (k:Nat) (Tv:ι→List (Nat × aj)) (Pr:ι→Prop) (_:St N D w0 F G0 G L Tc a w)
  (h1:(∀ i a w,Pr i→St N D w0 F G0 G L (Tv i++Tc) a w→WL r P ops Q (l.drop k) a w)→WL r P ops Q l a w)
  (h2:∀ i a w,Pr i→St N D w0 F G0 G L (Tv i++Tc) a w→WL r P ops Q (l.drop k) a w):WL r P ops Q l a w:=h1 h2
theorem Change.back (h:Change w w' G G' L L'):Change w w' G G L L' :=
 ⟨h.os,h.tape,h.output,h.size,h.fr,fun _ _ h=>h,fun _ _ h=>.inl h,⟨fun k o hk=>h.owns.ro k o (h.gm k o hk),h.owns.own,fun p hp=>(by
  have hs:=h.owns.sep p hp
  cases hg:G p.1 with
  | none=>rfl
  | some o=>have:=h.gm _ _ hg;rw [hs] at this;cases this),h.owns.nd⟩,h.lx⟩
theorem fT.back {R:aj→GH→OL→Prop} {R':aj→OL→Prop} (hR:∀ v G' L',R v G' L'→R' v L') {e:Ending} (h:fT w G L R e w'):fT w G L (fun v G' L'=>G=G'∧R' v L') e w':=by
 obtain ⟨v,G',L',rfl,hc,hr⟩:=h
 exact ⟨v,G,L',rfl,hc.back,rfl,hR _ _ _ hr⟩
theorem Calls.XY {f:FuncId} {args:Array aj} {R:aj→GH→OL→Prop} {R':aj→OL→Prop} (h:Calls P f args w (fT w G L R)) (hR:∀ v G' L',R v G' L'→R' v L'):Calls P f args w (fT w G L fun v G' L'=>G=G'∧R' v L') :=
 h.mono fun _ _=>fT.back hR
theorem aZ.back {R:aj→GH→Prop} {e:Ending} (h:aZ w G R e w'):aZ w G (fun v G'=>(∃ g,R v g)∧G=G') e w':=by
 obtain ⟨v,G',rfl,hb,hX,hr⟩:=h
 exact ⟨v,G,rfl,hb,⟨fun _ _ h=>h,fun _ _ h=>.inl h,fun k o hk=>hX.2.2 k o (hX.1 k o hk)⟩,⟨G',hr⟩,rfl⟩
theorem QS {f:FuncId} {args:Array aj} {R:aj→GH→Prop} (h:Calls P f args w (aZ w G R)):Calls P f args w (aZ w G fun v G'=>(∃ g,R v g)∧G=G'):=h.mono fun _ _=>aZ.back
theorem gI.add {b:Nat} {o:Obj} (h:gI G ((b,o) :: L) w):Hold (G.add b o) w:=fun k o' hk=>by
 unfold GH.add at hk
 split at hk
 ·next e=>cases hk;subst e;exact h.own _ jC
 ·exact h.ro k o' hk
theorem afZ {b:Nat} {o:Obj} {R:aj→GH→Prop} {R':aj→Prop} (hO:gI G ((b,o) :: L) w) (hR:∀ v G',R v G'→R' v) {e:Ending} (h:aZ w (G.add b o) R e w'):fT w G ((b,o) :: L) (fun v G' L'=>G=G'∧L'=(b,o) :: L∧R' v) e w':=by
 obtain ⟨v,G',rfl,hb,hX,hr⟩:=h
 exact ⟨v,G,_,rfl,(hO.hp.below hb).VP,rfl,rfl,hR _ _ hr⟩
end
end
section
open Go.RowKit
theorem xC:bV prog 27 0 0:=⟨by kernel_rfl⟩
theorem DU:bV prog 27 1 1:=⟨by kernel_rfl⟩
abbrev kZ.cells (x:kZ):List aj:=[vi x.rev,vi x.move]
abbrev kg.cells (x:kg):List aj:=[vi x.rev,vi x.key,vi x.before,.bool x.had]
theorem Zu {G:GH} {x:kZ} {cs:List aj} (h:aS G x.dat cs):cs=x.cells:=by
 simp only [kZ.dat,aS,av] at h
 obtain ⟨_,_,rfl,⟨rfl,_⟩,_,_,rfl,⟨rfl,_⟩,rfl⟩:=h
 rfl
theorem aeQ {G:GH} {x:kg} {cs:List aj} (h:aS G x.dat cs):cs=x.cells:=by
 simp only [kg.dat,aS,av] at h
 obtain ⟨_,_,rfl,⟨rfl,_⟩,_,_,rfl,⟨rfl,_⟩,_,_,rfl,⟨rfl,_⟩,_,_,rfl,⟨rfl,_⟩,rfl⟩:=h
 rfl
abbrev Ee (h:jm) (p d l:aj):aj:=.agg #[p,vi h.marks.ins,vi h.marks.move,d,l]
end
section
open Go.RowKit
theorem abV:bV prog 171 0 0:=⟨by kernel_rfl⟩
theorem yP:bV prog 171 1 1:=⟨by kernel_rfl⟩
theorem SH:bV prog 171 3 3:=⟨by kernel_rfl⟩
theorem DT:bV prog 171 2 2:=⟨by kernel_rfl⟩
theorem Mj:∀ args w,(callFunc 129 args).run prog w=.ok (.enter 129 args) w:=enters func129 rfl (by kernel_rfl)
structure gV where
 st:List bL
 wJ:List Int
 ED:List Int
abbrev aP (st:List bL) (li:List fK) (rv:List eZ):gV:=⟨st,li.map fK.id,rv.map eZ.id⟩
theorem Uq {G:GH} {l:List kg} {A:Option Addr} {n c k:Nat} (hv:av G (.sl 4 (l.map kg.dat)) (.slice A n c)) (hk:k < l.length):∃ b o,A=some ⟨b,o,none⟩∧(∀ j u,l[k].cells[j]?=some u→aI G b (o+k*4+j)=some u):=by
 obtain ⟨A',c',he,_,_,hg⟩:=hv.slice
 injection he with e1 e2 e3
 subst e1;obtain ⟨b,o,cs,h1,h2,h3,h4⟩:=hg k l[k].dat (by simp [hk]);have:=aeQ h4;subst this;exact ⟨b,o,h1,h3⟩
theorem RN {G:GH} {l:List kZ} {A:Option Addr} {n c k:Nat} (hv:av G (.sl 2 (l.map kZ.dat)) (.slice A n c)) (hk:k < l.length):∃ b o,A=some ⟨b,o,none⟩∧(∀ j u,l[k].cells[j]?=some u→aI G b (o+k*2+j)=some u):=by
 obtain ⟨A',c',he,_,_,hg⟩:=hv.slice
 injection he with e1 e2 e3
 subst e1;obtain ⟨b,o,cs,h1,h2,h3,h4⟩:=hg k l[k].dat (by simp [hk]);have:=Zu h4;subst this;exact ⟨b,o,h1,h3⟩
def zx (C:gV) (e:Int) (k:Nat) (x:kg) (pk:Int):Int :=
 if x.rev∉C.ED then 22 else if xH e x.key=false then 4 else if 0 < k∧x.key < pk then 6 else if x.had=false then bS (decide (x.before≠0)) 21 else dB [sQ x.key x.before,mX C.st C.wJ x.key x.before]
def Cw (C:gV) (e:Int) (l:List kg) (k:Nat):Int:=match l[k]? with|some x=>zx C e k x ((l[k - 1]?.map kg.key).getD 0)|none=>0
theorem aeR (G:GH) (w0:World) (hG:Hold G w0) (st:List bL) (li:List fK) (rv:List eZ) (b ms ml mr mb mu:Nat) (n:Int) (hck:sD G st li rv ms ml mr mu) (hb:G b=some (fD b ms ml mr mb mu n).2)
  (e:Int) (l:List kg) (v:aj) (hv:av G (.sl 4 (l.map kg.dat)) v) (k:Nat) (hk:k < l.length) :
  Calls prog 131 #[(aJ b 0),vi e,v,vi k] w0 (aZ w0 G fun u G'=>u=vi (Cw (aP st li rv) e l k)):=by
 have hc2:aI G b 2=some (.map (some mr)):=by unfold aI;rw [hb];rfl
 obtain ⟨A,c,rfl,hl1,hl2,-⟩:=hv.slice;have hml:maxLen=9223372036854775807:=rfl;rw [bW] at *;obtain ⟨xb,xo,rfl,hrow⟩:=Uq hv hk
 have hk1:k - 1 < l.length:=by omega
 obtain ⟨b',o',he',hrow'⟩:=Uq hv hk1
 injection he' with he'
 injection he' with e1 e2
 subst e1;subst e2
 have he:Cw (aP st li rv) e l k=zx (aP st li rv) e k l[k] l[k - 1].key:=by unfold Cw;rw [gy hk,gy hk1];rfl
 obtain ⟨x,hx⟩:∃ x,x=l[k]:=⟨_,rfl⟩;obtain ⟨y,hy⟩:∃ y,y=l[k - 1]:=⟨_,rfl⟩;rw [← hx] at hrow he;rw [← hy] at hrow' he;have hq:=hrow' 1 _ rfl;refine eN [(0,_),(1,_),(2,_),(3,_)] func131 rfl ntmps131 rfl rfl hG ?_;intro a H;refine kP H (SR fun _ K1=>ak K1 rfl (SR fun _ K2=>Rm rfl (Rm rfl (Ri zR zP rfl rfl ?_))));clear H K1;intro a H;refine aW zP (cs:=x.cells) H wn rfl rfl (fun j v hj=>H.hp.aI (hrow j v hj)) rfl ?_;clear H;intro a H;refine dx zP H wn rfl ?_;clear H;intro b9 a w um H;refine aX zP 0 (vs:=[_,_,_,_]) _ H wn rfl rfl rfl rfl rfl rfl rfl rfl ?_;clear H;intro w H;dsimp only [List.set,setRow] at H;refine K2 _ _ ?_;clear K2;refine kP H (SQ fun _ K3=>SB (SQ fun _ K4=>?_));clear H;intro a H;refine dI hmx [[],[0],[0,1],[0,1,2],[],[4],(ra 0 6),(ra 0 7),(ra 0 8)] [8] (by kernel_rfl) [_,_,_,_,_,vi x.rev,.bool (decide (x.rev∈rv.map eZ.id)),_] H (aF (Z0 rfl (Rm rfl)) (Z1 0 15 rfl (Rk rfl)) (Z1 1 16 rfl (Rf FZ rfl)) (X1 2 17 rfl fun hG=>Rg xY rfl (aL hG hc2)) (aF (Z0 rfl (Rf abV rfl)) (Z1 4 19 rfl (Ro aC 0 rfl)) ?_ (Z1 6 21 rfl (Rn rfl)) (bM (bJ rfl) dP))) ?_
 ·refine eB 3 18 5 20 rfl rfl fun _ a w G1 hG HT H fin=>?_;refine wN (zv:=.bool false) yh mJ (by kernel_rfl) H wn rfl rfl (H.ro _ _ (hG _ _ hck.rev)) rfl ?_;clear H;intro a H;rw [Cy] at H;exact fin H iJ rfl
 clear H;intro a w G yY H hv;have H:=H.aT (hv 7 22 rfl rfl) rfl;clear hv;refine kH H (Ra rfl ?_);clear H;intro a H;refine aH ⟨rfl,?_⟩;refine K4 _ _ ?_;clear K4;refine mV H rfl ?_ ?_
 ·intro dX
  try have kJ:=dT dX
  refine kP H (SR fun _ K5=>ak K5 rfl ?_);clear H K5;intro a H;refine lr H results131 rfl ?_
  exact H.rt (by rw [he];refine ay vi ?_;clear he hrow hrow' hq hx hy;unfold zx;(repeat' split) <;> first|rfl|(simp_all;done)|(exfalso;simp_all;done))
 intro dX
 try have kJ:=dF dX
 refine kP H (SR fun _ K6=>Rm rfl (aO yP aC 0 rfl rfl ?_));clear H;intro a H;refine s_call Sk H wn rfl (QS (Te _ _ H.ro e x.key)) rfl ?_;clear H;rintro v27 _ a w ⟨⟨_,rfl⟩,rfl⟩ - H;refine kH H (Rn rfl (ak K6 rfl (Cd rfl ?_ ?_))) <;> clear H K6
 ·intro h23 a H
  try have Bg:=dT h23
  refine kP H (SR fun _ K7=>ak K7 rfl ?_);clear H K7;intro a H;refine lr H results131 rfl ?_
  exact H.rt (by rw [he];refine ay vi ?_;clear he hrow hrow' hq hx hy;unfold zx;(repeat' split) <;> first|rfl|(simp_all;done)|(exfalso;simp_all;done))
 intro h23 a H
 try have Bg:=dF h23
 refine bg (fun _ K8=>?_);replace hq:=aL yY hq
 by_cases c0:0 < (k:Int)
 ·skip
  by_cases c1:x.key < y.key
  ·skip;refine dI hmx [[],[0],[0,1],[0,1,2],(ra 0 4),[0,1,2],[0,1,2],[0,1,2,6],[0,1,2,5,6,7],[0,1,2,5,6,7,8],[0,1,2,5,6,7,8,9],(ra 0 11),(ra 0 12),(ra 0 13)] [13] (by kernel_rfl) [_,_,_,_,vi x.key,_,_,vi ((k - 1:Nat):Int),_,_,_,_,_] H (aF (Z0 rfl (Rm rfl)) (Z1 0 30 rfl (Rc rfl)) (Z1 1 31 rfl (Rm rfl)) (Z1 2 32 rfl (YF yP (aG c0) rfl)) (aF (Z2 3 33 2 32 rfl (YO aC 0 (aG c0) rfl)) (Z1 2 32 rfl (YM (aG c0) rfl)) (Z1 2 32 rfl (YM (aG c0) rfl)) ?_ (aF (Z3 5 35 7 37 2 32 rfl (YI zR zP (aG c0) rfl rfl)) (Z2 8 38 2 32 rfl (YF yP (aG c0) rfl)) (X2 9 39 2 32 rfl fun hG=>YR aC (aG c0) rfl (aL hG hq)) (Z3 4 34 10 40 2 32 rfl (YC (aG c0) rfl)) (bM (Z2 2 32 11 41 rfl (Pt (aG c0) rfl)) (bM (bJ rfl) dP))))) ?_
   ·refine eB 6 36 2 32 rfl rfl fun _ a w G1 hG HT H fin=>?_;refine oV _ H (wg H rfl rfl (aG c0)) rfl rfl rfl (by omega) (by omega) rfl ?_;clear H;intro a H;exact fin H iJ (by show _=_;first|rfl|exact ay vi (by omega))
   clear H;intro a w G jF H hv;have H:=H.aT (hv 12 42 rfl rfl) rfl;clear hv;refine kH H (Ra rfl ?_);clear H;intro a H;refine aH ⟨rfl,?_⟩;refine K8 _ _ ?_;clear K8;refine yI H rfl (aG c1) ?_;refine bg (fun _ K9=>?_);have hz:0 < k∧x.key < y.key:=⟨by omega,c1⟩;refine kP H (SC (aU K9 rfl ?_));clear H K9;intro a H;refine lr H results131 rfl ?_
   exact H.rt (by rw [he];refine ay vi ?_;clear he hrow hrow' hq hx hy;unfold zx;(repeat' split) <;> first|rfl|(simp_all;done)|(exfalso;simp_all;done))
  skip;refine dI hmx [[],[0],[0,1],[0,1,2],(ra 0 4),[0,1,2],[0,1,2],[0,1,2,6],[0,1,2,5,6,7],[0,1,2,5,6,7,8],[0,1,2,5,6,7,8,9],(ra 0 11),(ra 0 12),(ra 0 13)] [13] (by kernel_rfl) [_,_,_,_,vi x.key,_,_,vi ((k - 1:Nat):Int),_,_,_,_,_] H (aF (Z0 rfl (Rm rfl)) (Z1 0 30 rfl (Rc rfl)) (Z1 1 31 rfl (Rm rfl)) (Z1 2 32 rfl (YF yP (aG c0) rfl)) (aF (Z2 3 33 2 32 rfl (YO aC 0 (aG c0) rfl)) (Z1 2 32 rfl (YM (aG c0) rfl)) (Z1 2 32 rfl (YM (aG c0) rfl)) ?_ (aF (Z3 5 35 7 37 2 32 rfl (YI zR zP (aG c0) rfl rfl)) (Z2 8 38 2 32 rfl (YF yP (aG c0) rfl)) (X2 9 39 2 32 rfl fun hG=>YR aC (aG c0) rfl (aL hG hq)) (Z3 4 34 10 40 2 32 rfl (YC (aG c0) rfl)) (bM (Z2 2 32 11 41 rfl (Pt (aG c0) rfl)) (bM (bJ rfl) dP))))) ?_
  ·refine eB 6 36 2 32 rfl rfl fun _ a w G1 hG HT H fin=>?_;refine oV _ H (wg H rfl rfl (aG c0)) rfl rfl rfl (by omega) (by omega) rfl ?_;clear H;intro a H;exact fin H iJ (by show _=_;first|rfl|exact ay vi (by omega))
  clear H;intro a w G jF H hv;have H:=H.aT (hv 12 42 rfl rfl) rfl;clear hv;refine kH H (Ra rfl ?_);clear H;intro a H;refine aH ⟨rfl,?_⟩;refine K8 _ _ ?_;clear K8;refine pJ H rfl (aR c1) ?_;refine bg (fun _ aQ=>?_)
  have hz:¬ (0 < k∧x.key < y.key):=by first|exact fun h=>c1 h.2|exact fun h=>c0 (by omega)
  refine kP H (SC (aO SH qJ 0 rfl rfl (Rn rfl (aU aQ rfl (Cd rfl ?_ ?_))))) <;> clear H aQ
  ·intro h43 a H
   try have p43:=dT h43
   refine kP H (SR fun _ bH=>aO DT aC 0 rfl rfl (Rc rfl ?_));clear H;intro a H;refine s_call iP H wn rfl (iU _ _ H.ro _ 21) rfl ?_;clear H;rintro v50 _ a w ⟨rfl,rfl⟩ - H;refine kH H (ak bH rfl ?_);clear H bH;intro a H;refine lr H results131 rfl ?_
   exact H.rt (by rw [he];refine ay vi ?_;clear he hrow hrow' hq hx hy;unfold zx;(repeat' split) <;> first|rfl|(simp_all;done)|(exfalso;simp_all;done))
  intro h43 a H
  try have p43:=dF h43
  refine fQ ?_;refine K3 _ _ ?_;clear K3;refine bg (fun _ bR=>?_);replace hck:=(hck.mono yY).mono jF;replace hb:=jF _ _ (yY _ _ hb);refine dI hmx [[],[0],[],[2],(ra 0 4),[],[],[6],[],[8],(ra 0 10),(ra 0 11),(ra 0 12),(ra 0 13)] [11,12,13] (by kernel_rfl) [_,vi x.key,_,vi x.before,vi (sQ x.key x.before),_,_,vi x.key,_,vi x.before,vi (mX st (li.map fK.id) x.key x.before)] H (aF (Z0 rfl (Rf yP rfl)) (Z1 0 51 rfl (Ro aC 0 rfl)) (Z0 rfl (Rf DT rfl)) (Z1 2 53 rfl (Ro aC 0 rfl)) (aF ?_ (Z0 rfl (Rm rfl)) (Z0 rfl (Rf yP rfl)) (Z1 6 57 rfl (Ro aC 0 rfl)) (aF (Z0 rfl (Rf DT rfl)) (Z1 8 59 rfl (Ro aC 0 rfl)) ?_ (bJ rfl) (bM (bJ rfl) (bM (bJ rfl) dP))))) ?_
  ·refine eB 1 52 3 54 rfl rfl fun _ a w G1 hG HT H fin=>?_;refine s_call MF H wn rfl (LV _ _ H.ro x.key x.before) rfl ?_;clear H;rintro v55 KV a w rfl Nj H;exact fin H Nj (rfl)
  ·refine wY 5 56 7 58 9 60 rfl rfl fun _ a w G1 hG HT H fin=>?_;refine s_call Mj H wn rfl (LX _ _ H.ro st li rv b ms ml mr mb mu n x.key x.before (hck.mono hG) (hG _ _ hb)) rfl ?_;clear H;rintro v61 Xl a w ⟨rfl,-⟩ Nk H;exact fin H Nk (rfl)
  clear H;intro a w G rU H hv;have H:=H.aT (hv 4 55 rfl rfl) rfl;have H:=H.aT (hv 10 61 rfl rfl) rfl;clear hv;refine ig nL eP [_,_] [_,_] H wn rfl rfl rfl rfl rfl (by intro i q h;match i,h with|0,h=>exact h|1,h=>exact h|n+2,h=>simp at h) rfl rfl ?_;clear H;intro XT a w ads H;obtain ⟨Xm,adQ,NA,H⟩:=H.dQ;refine s_call oI H wn rfl (oJ _ _ H.ro _ _ (vG NA)) rfl ?_;clear H;rintro v63 _ a w ⟨rfl,rfl⟩ - H;refine kH H (Ra rfl ?_);clear H;intro a H;refine aH ⟨rfl,?_⟩;refine bR _ _ ?_;clear bR;refine lr H results131 rfl ?_
  exact H.rt (by rw [he];refine ay vi ?_;clear he hrow hrow' hq hx hy;unfold zx;(repeat' split) <;> first|rfl|(simp_all;done)|(exfalso;simp_all;done))
 skip;refine dI hmx [[],[0],[0,1],[0,1,2],(ra 0 4),[0,1,2],[0,1,2],[0,1,2,6],[0,1,2,5,6,7],[0,1,2,5,6,7,8],[0,1,2,5,6,7,8,9],(ra 0 11),(ra 0 12),(ra 0 13)] [13] (by kernel_rfl) [_,_,_,undef,undef,undef,undef,undef,undef,undef,undef,undef,_] H (aF (Z0 rfl (Rm rfl)) (Z1 0 30 rfl (Rc rfl)) (Z1 1 31 rfl (Rm rfl)) (bq (j:=2) (by kernel_rfl) (fun _ _ _ _ _ h=>h) rfl rfl rfl rfl rfl (fun _ _ h=>bD h (aM (aR c0))) rfl (fun _=>rfl)) (aF (bq (j:=2) (by kernel_rfl) (fun _ _ _ _ _ h=>h) rfl rfl rfl rfl rfl (fun _ _ h=>bD h (aM (aR c0))) rfl (fun _=>rfl)) (bq (j:=2) (by kernel_rfl) (fun _ _ _ _ _ h=>h) rfl rfl rfl rfl rfl (fun _ _ h=>bD h (aM (aR c0))) rfl (fun _=>rfl)) (bq (j:=2) (by kernel_rfl) (fun _ _ _ _ _ h=>h) rfl rfl rfl rfl rfl (fun _ _ h=>bD h (aM (aR c0))) rfl (fun _=>rfl)) (bq (j:=2) (by kernel_rfl) (fun _ _ _ _ _ h=>h) rfl rfl rfl rfl rfl (fun _ _ h=>bD h (aM (aR c0))) rfl (fun _=>rfl)) (aF (bq (j:=2) (by kernel_rfl) (fun _ _ _ _ _ h=>h) rfl rfl rfl rfl rfl (fun _ _ h=>bD h (aM (aR c0))) rfl (fun _=>rfl)) (bq (j:=2) (by kernel_rfl) (fun _ _ _ _ _ h=>h) rfl rfl rfl rfl rfl (fun _ _ h=>bD h (aM (aR c0))) rfl (fun _=>rfl)) (bq (j:=2) (by kernel_rfl) (fun _ _ _ _ _ h=>h) rfl rfl rfl rfl rfl (fun _ _ h=>bD h (aM (aR c0))) rfl (fun _=>rfl)) (bq (j:=2) (by kernel_rfl) (fun _ _ _ _ _ h=>h) rfl rfl rfl rfl rfl (fun _ _ h=>bD h (aM (aR c0))) rfl (fun _=>rfl)) (bM (Z2 2 32 11 41 rfl (Pf (aR c0) rfl)) (bM (bJ rfl) dP))))) ?_
 clear H;intro a w G jF H hv;have H:=H.aT (hv 12 42 rfl rfl) rfl;clear hv;refine kH H (Ra rfl ?_);clear H;intro a H;refine aH ⟨rfl,?_⟩;refine K8 _ _ ?_;clear K8;refine pJ H rfl rfl ?_;refine bg (fun _ bY=>?_)
 have hz:¬ (0 < k∧x.key < y.key):=by first|exact fun h=>c1 h.2|exact fun h=>c0 (by omega)
 refine kP H (SC (aO SH qJ 0 rfl rfl (Rn rfl (aU bY rfl (Cd rfl ?_ ?_))))) <;> clear H bY
 ·intro h43 a H
  try have p43:=dT h43
  refine kP H (SR fun _ bX=>aO DT aC 0 rfl rfl (Rc rfl ?_));clear H;intro a H;refine s_call iP H wn rfl (iU _ _ H.ro _ 21) rfl ?_;clear H;rintro v50 _ a w ⟨rfl,rfl⟩ - H;refine kH H (ak bX rfl ?_);clear H bX;intro a H;refine lr H results131 rfl ?_
  exact H.rt (by rw [he];refine ay vi ?_;clear he hrow hrow' hq hx hy;unfold zx;(repeat' split) <;> first|rfl|(simp_all;done)|(exfalso;simp_all;done))
 intro h43 a H
 try have p43:=dF h43
 refine fQ ?_;refine K3 _ _ ?_;clear K3;refine bg (fun _ dO=>?_);replace hck:=(hck.mono yY).mono jF;replace hb:=jF _ _ (yY _ _ hb);refine dI hmx [[],[0],[],[2],(ra 0 4),[],[],[6],[],[8],(ra 0 10),(ra 0 11),(ra 0 12),(ra 0 13)] [11,12,13] (by kernel_rfl) [_,vi x.key,_,vi x.before,vi (sQ x.key x.before),_,_,vi x.key,_,vi x.before,vi (mX st (li.map fK.id) x.key x.before)] H (aF (Z0 rfl (Rf yP rfl)) (Z1 0 51 rfl (Ro aC 0 rfl)) (Z0 rfl (Rf DT rfl)) (Z1 2 53 rfl (Ro aC 0 rfl)) (aF ?_ (Z0 rfl (Rm rfl)) (Z0 rfl (Rf yP rfl)) (Z1 6 57 rfl (Ro aC 0 rfl)) (aF (Z0 rfl (Rf DT rfl)) (Z1 8 59 rfl (Ro aC 0 rfl)) ?_ (bJ rfl) (bM (bJ rfl) (bM (bJ rfl) dP))))) ?_
 ·refine eB 1 52 3 54 rfl rfl fun _ a w G1 hG HT H fin=>?_;refine s_call MF H wn rfl (LV _ _ H.ro x.key x.before) rfl ?_;clear H;rintro v55 KV a w rfl Nj H;exact fin H Nj (rfl)
 ·refine wY 5 56 7 58 9 60 rfl rfl fun _ a w G1 hG HT H fin=>?_;refine s_call Mj H wn rfl (LX _ _ H.ro st li rv b ms ml mr mb mu n x.key x.before (hck.mono hG) (hG _ _ hb)) rfl ?_;clear H;rintro v61 Xl a w ⟨rfl,-⟩ Nk H;exact fin H Nk (rfl)
 clear H;intro a w G rU H hv;have H:=H.aT (hv 4 55 rfl rfl) rfl;have H:=H.aT (hv 10 61 rfl rfl) rfl;clear hv;refine ig nL eP [_,_] [_,_] H wn rfl rfl rfl rfl rfl (by intro i q h;match i,h with|0,h=>exact h|1,h=>exact h|n+2,h=>simp at h) rfl rfl ?_;clear H;intro XT a w ads H;obtain ⟨Xm,adQ,NA,H⟩:=H.dQ;refine s_call oI H wn rfl (oJ _ _ H.ro _ _ (vG NA)) rfl ?_;clear H;rintro v63 _ a w ⟨rfl,rfl⟩ - H;refine kH H (Ra rfl ?_);clear H;intro a H;refine aH ⟨rfl,?_⟩;refine dO _ _ ?_;clear dO;refine lr H results131 rfl ?_
 exact H.rt (by rw [he];refine ay vi ?_;clear he hrow hrow' hq hx hy;unfold zx;(repeat' split) <;> first|rfl|(simp_all;done)|(exfalso;simp_all;done))
end
section
open Go.RowKit
theorem EK:Ty prog 145 1 8 [.pointer none] false:=⟨by kernel_rfl,by kernel_rfl⟩
theorem Z9:∀ args w,(callFunc 131 args).run prog w=.ok (.enter 131 args) w:=enters func131 rfl (by kernel_rfl)
theorem EO:Ty prog 27 4 64 [.int .i64 0,.int .i64 0,.slice none 0 0,.slice none 0 0] true:=⟨by kernel_rfl,by kernel_rfl⟩
theorem F4:bV prog 169 0 0:=⟨by kernel_rfl⟩
theorem SG:bV prog 169 1 1:=⟨by kernel_rfl⟩
theorem Z8:∀ args w,(callFunc 130 args).run prog w=.ok (.enter 130 args) w:=enters func130 rfl (by kernel_rfl)
theorem aeP {G:GH} {st:List bL} {li:List fK} {rv:List eZ} {b ms ml mr mb mu:Nat} {n:Int} (hck:sD G st li rv ms ml mr mu) (hb:G b=some (fD b ms ml mr mb mu n).2)
  {x3 x4 PV:Nat} {e:Int} {l:List kg} {v:aj} (h3:aI G x3 0=some (aJ b 0)) (h4:aI G x4 0=some (vi e)) (h11:aI G PV 3=some v) (hv:av G (.sl 4 (l.map kg.dat)) v) :
  qM (.func (.func 130) #[] #[(aJ x3 0),(aJ x4 0),(aJ PV 0)]) G l.length (Cw (aP st li rv) e l):=by
 intro k hk G1 w0 hm hG;refine kG (caps:=[(aJ x3 0),(aJ x4 0),(aJ PV 0)]) Z8 ?_;replace h3:=aL hm h3;replace h4:=aL hm h4;replace h11:=aL hm h11;replace hv:=hv.mono hm;obtain ⟨vA,vn,vc,rfl⟩:=hv.form;refine eN [(0,_),(1,_),(2,_),(3,_)] func130 rfl ntmps130 rfl rfl hG ?_;intro a H;refine kP H (SR fun _ K1=>ak K1 rfl (SR fun _ K2=>Rg EK rfl (by assumption) ?_));clear H K1;intro a H;refine kH H (Rg aC rfl (by assumption) ?_);clear H;intro a H;refine kH H (Rf F8 rfl (Rg HZ rfl (by assumption) ?_));clear H;intro a H;refine kH H (Rm rfl ?_);clear H;intro a H;refine s_call Z9 H wn rfl (aeR _ _ H.ro st li rv b ms ml mr mb mu n (hck.mono hm) (hm _ _ hb) e l _ hv k hk) rfl ?_;clear H;rintro v11 sF a w rfl zl H;exact kH H (ak K2 rfl (LR results130 rfl fun H=>H.rt rfl))
def xV (C:gV) (l:List jq):Int:=dB (l.map fun p=>mX C.st C.wJ p.key p.value)
def jI (C:gV) (m:uQ):Int:=if m.ins≠0∧m.ins∉C.ED then 22 else if ¬ (0≤m.move∧m.move≤1073741824)∨(m.move≠0∧m.ins=0) then 21 else if 16 < (m.dH.length:Int) then 9 else 0
def vW (C:gV) (k:Nat) (x:kZ) (pr:Int):Int:=if x.rev∉C.ED then 22 else if 0 < k∧x.rev≤pr then 6 else if ¬ (0≤x.move∧x.move≤1073741824) then 21 else 0
def vV (C:gV) (l:List kZ) (k:Nat):Int:=match l[k]? with|some x=>vW C k x ((l[k - 1]?.map kZ.rev).getD 0)|none=>0
def iZ (C:gV) (e:Int) (h:jm):Int:=dB [gL e h.props,xV C h.props,jI C h.marks,jV (vV C h.marks.dH) h.marks.dH.length,bS (decide (64 < (h.marks.layers.length:Int))) 9,jV (Cw C e h.marks.layers) h.marks.layers.length]
theorem adA {C:gV} {e:Int} {h:jm} (h1:gL e h.props≠0):iZ C e h=gL e h.props:=by simp [iZ,dB,h1]
theorem adB {C:gV} {e:Int} {h:jm} (h1:gL e h.props=0) (h2:xV C h.props≠0):iZ C e h=xV C h.props:=by simp [iZ,dB,h1,h2]
theorem zi {C:gV} {e:Int} {h:jm} (h1:gL e h.props=0) (h2:xV C h.props=0) (h3:jI C h.marks≠0):iZ C e h=jI C h.marks:=by simp [iZ,dB,h1,h2,h3]
theorem adC {C:gV} {e:Int} {h:jm} (h1:gL e h.props=0) (h2:xV C h.props=0) (h3:jI C h.marks=0) (h4:jV (vV C h.marks.dH) h.marks.dH.length≠0):iZ C e h=jV (vV C h.marks.dH) h.marks.dH.length:=by simp [iZ,dB,h1,h2,h3,h4]
theorem adD {C:gV} {e:Int} {h:jm} (h1:gL e h.props=0) (h2:xV C h.props=0) (h3:jI C h.marks=0) (h4:jV (vV C h.marks.dH) h.marks.dH.length=0) (h5:64 < (h.marks.layers.length:Int)):iZ C e h=9:=by simp [iZ,dB,h1,h2,h3,h4,bS,h5]
theorem adF {C:gV} {e:Int} {h:jm} (h1:gL e h.props=0) (h2:xV C h.props=0) (h3:jI C h.marks=0) (h4:jV (vV C h.marks.dH) h.marks.dH.length=0) (h5:¬ 64 < (h.marks.layers.length:Int)):iZ C e h=jV (Cw C e h.marks.layers) h.marks.layers.length:=by simp [iZ,dB,h1,h2,h3,h4,bS,h5];exact Eq.symm
theorem Va {C:gV} {l:List jq} {k:Nat} (h:k < l.length):dB ((l.map fun p=>mX C.st C.wJ p.key p.value).drop k)=if mX C.st C.wJ l[k].key l[k].value≠0 then mX C.st C.wJ l[k].key l[k].value else dB ((l.map fun p=>mX C.st C.wJ p.key p.value).drop (k+1)):=by
 rw [Jl (by simpa using h)];simp
theorem adG (G:GH) (w0:World) (hG:Hold G w0) (st:List bL) (li:List fK) (rv:List eZ) (b ms ml mr mb mu:Nat) (n:Int) (hck:sD G st li rv ms ml mr mu) (hb:G b=some (fD b ms ml mr mb mu n).2)
  (e:Int) (h:jm) (p d l:aj) (hh:jR G h p d l) (hz:pE h≤4294967296) :
  Calls prog 69 #[(aJ b 0),vi e,Ee h p d l] w0 (aZ w0 G fun u G'=>u=vi (iZ (aP st li rv) e h)):=by
 obtain ⟨pA,pc,rfl,-,-,-⟩:=hh.props.slice;obtain ⟨dA,dc,rfl,-,-,-⟩:=hh.dH.slice;obtain ⟨lA,lc,rfl,-,-,-⟩:=hh.layers.slice;have hml:maxLen=9223372036854775807:=rfl;have hzz:=Ie h;have hz1:=qY (h.props.map jq.dat);have hz2:=qY (h.marks.dH.map kZ.dat);have hz3:=qY (h.marks.layers.map kg.dat)
 simp only [bW] at hh hz1 hz2 hz3 ⊢
 generalize pE h=zz at hz hzz
 refine eN [(0,_),(1,_),(2,_)] func69 rfl ntmps69 rfl rfl hG ?_;intro a H;refine bK (fun _ K1=>?_);refine dz (cs:=[_]) H wn rfl rfl rfl ?_;clear H;intro b3 a w hb3 H;refine dz (cs:=[_]) H wn rfl rfl rfl ?_;clear H;intro b4 a w hb4 H;refine dz (cs:=[_,_,_,_,_]) H wn rfl rfl rfl ?_;clear H;intro b5 a w hb5 H;refine kH H (ak K1 rfl (SQ fun _ K2=>SQ fun _ K3=>?_));clear H K1;intro a H;obtain ⟨Xt,JE,xK,H⟩:=H.dQ;obtain ⟨Xr,Ei,wz,H⟩:=H.dQ;obtain ⟨Ga,AV,wu,H⟩:=H.dQ;replace xK:=AV _ _ (Ei _ _ xK);replace wz:=AV _ _ wz;have hma:∀ b o,G b=some o→Ga b=some o:=fun b o h=>AV _ _ (Ei _ _ (JE _ _ h));clear AV Ei JE;replace hck:=hck.mono hma;replace hb:=hma _ _ hb;replace hh:=hh.mono hma
 have g3:aI Ga b3 0=some (aJ b 0):=by unfold aI;rw [wu];rfl
 have g4:aI Ga b4 0=some (vi e):=by unfold aI;rw [wz];rfl
 have g50:aI Ga b5 0=some (.slice pA h.props.length pc):=by unfold aI;rw [xK];rfl
 have g51:∀ (j:Nat) (u:aj),[vi h.marks.ins,vi h.marks.move,.slice dA h.marks.dH.length dc,.slice lA h.marks.layers.length lc][j]?=some u→aI Ga b5 (1+j)=some u:=by
  intro j u hj
  unfold aI;rw [xK]
  match j,hj with
  | 0,hj=>exact hj
  | 1,hj=>exact hj
  | 2,hj=>exact hj
  | 3,hj=>exact hj
  | n+4,hj=>simp at hj
 have hc2:aI Ga b 2=some (.map (some mr)):=by unfold aI;rw [hb];rfl
 refine kP H (SC (Rg aC rfl (by assumption) ?_));clear H;intro a H;refine kH H (Rf Jf rfl (Rg EM rfl (by assumption) ?_));clear H;intro a H;refine s_call Sj H wn rfl (QS (U5 _ _ H.ro e h.props _ hh.props)) rfl ?_;clear H;rintro v17 _ a w ⟨⟨_,rfl⟩,rfl⟩ - H;refine kH H (aU K3 rfl (SR fun _ K4=>Rm rfl (Rc rfl (Kz K4 (Cd rfl ?_ ?_))))) <;> clear H K3 K4
 ·intro h19 a H
  try have pU:=dT h19
  refine bg (fun _ K5=>?_);have hE:=adA (C:=aP st li rv) (e:=e) (h:=h) pU;exact kP H (SC (Rm rfl (aU K5 rfl (LR results69 rfl fun H=>H.rt (by rw [hE])))))
 intro h19 a H
 try have pU:=dF h19
 have e1:gL e h.props=0:=by simpa using pU
 refine kP H (Kc K2 (SQ fun _ K6=>SR fun _ K7=>Rf Jf rfl (Rg EM rfl (by assumption) ?_)));clear H K2;intro a H;refine kH H (Rl tO rfl (Rm rfl (Kz K7 (SB ?_))));clear H K7;intro a H;skip;refine gq (ι:=Nat) (Tc:=[(3,_),(4,_),(5,_),(22,_),(23,_)]) (Lc:=[]) (fun gh=>[(24,vi gh)]) (fun gh=>[]) (fun gh=>Ga) (fun gh=>gh≤h.props.length∧dB ((h.props.map fun p=>mX st (li.map fK.id) p.key p.value).drop gh)=xV (aP st li rv) h.props) (fun gh=>h.props.length - gh) (0) (by exact (H).sub ⟨rfl,rfl,rfl,rfl,rfl,rfl,aD⟩) ?_ ?_
 ·exact ⟨gW _,rfl⟩
 clear H;intro gh a w hI H;obtain ⟨k,hgh⟩:∃ x,x=gh:=⟨_,rfl⟩;subst hgh;obtain ⟨hk,heq⟩:=hI;dsimp only [lca,aV] at H;refine kP H (SR fun _ K8=>Rc rfl (Kz K8 (SQ fun _ K9=>Cd rfl ?_ ?_))) <;> clear H K8
 ·intro nC a H
  try have p25:=dT nC
  have hk2:k < h.props.length:=by omega
  obtain ⟨xb,xo,rfl,hrow⟩:=J6 hh.props hk2;refine kP H (Kc K9 (SQ fun _ aQ=>SB (SR fun _ bH=>Ri tO oZ rfl rfl ?_)));clear H K9;intro a H;refine aW oZ (cs:=[_,_]) H wn rfl rfl (fun j v hj=>H.hp.aI (hrow j v hj)) rfl ?_;clear H;intro a H;refine dx oZ H wn rfl ?_;clear H;intro b9 a w um H;refine aX oZ 0 (vs:=[_,_]) _ H wn rfl rfl rfl rfl rfl rfl rfl rfl ?_;clear H;intro w H;dsimp only [List.set,setRow] at H;refine bH _ _ ?_;clear bH;refine kP H (SR fun _ bR=>Rg EK rfl (by assumption) ?_);clear H;intro a H;refine kH H (aO tZ aC 0 rfl rfl (aO SF aC 0 rfl rfl ?_));clear H;intro a H;refine s_call Mj H wn rfl (LX _ _ H.ro st li rv b ms ml mr mb mu n h.props[k].key h.props[k].value hck hb) rfl ?_;clear H;rintro v33 _ a w ⟨rfl,rfl⟩ - H;refine kH H (ak bR rfl (SR fun _ bY=>Rm rfl (Rc rfl (Kz bY (Cd rfl ?_ ?_))))) <;> clear H bR bY
  ·intro jD a H
   try have p35:=dT jD
   refine bg (fun _ bX=>?_)
   have hr:xV (aP st li rv) h.props=mX st (li.map fK.id) h.props[k].key h.props[k].value:=by rw [← heq];exact (Va (C:=aP st li rv) hk2).trans (au p35)
   have hE:=(adB (C:=aP st li rv) (e:=e) (h:=h) e1 (by rw [hr];exact p35)).trans hr;exact kP H (SC (Rm rfl (aU bX rfl (LR results69 rfl fun H=>H.rt (by rw [hE])))))
  intro jD a H
  try have p35:=dF jD
  refine kP H (Kc aQ (SC (Rd rfl (Rm rfl ?_))));clear H aQ;intro a H;refine aH ?_;refine eO ((k+1)) (by exact (H.bU (Pl:=[_]) (bN:=[]) [] (by decide) rfl).sub ⟨rfl,rfl,rfl,rfl,rfl,rfl,aD⟩) ?_ ?_
  ·exact ⟨by omega,by rw [Va (C:=aP st li rv) hk2,ah (by simpa using p35)] at heq;exact heq⟩
  first|omega|(dsimp only;omega)
 intro nC a H
 try have p25:=dF nC
 refine fI ?_;refine K6 _ _ ?_;clear K6;refine bg (fun _ dO=>?_)
 have e2:xV (aP st li rv) h.props=0:=by rw [← heq,gK (by rw [bW];omega)];rfl
 refine kP H (SC (Rf DV rfl ?_));clear H;intro a H;refine aW EO (cs:=[vi h.marks.ins,vi h.marks.move,.slice dA h.marks.dH.length dc,.slice lA h.marks.layers.length lc]) H wn rfl rfl (fun j v hj=>H.hp.aI (g51 j v hj)) rfl ?_;clear H;intro a H;refine dx EO H wn rfl ?_;clear H;intro b11 a w Ce H;refine aX EO 0 (vs:=[_,_,_,_]) _ H wn rfl rfl rfl rfl rfl rfl rfl rfl ?_;clear H;intro w H;dsimp only [List.set,setRow] at H;obtain ⟨Gb,hmb,Eb,H⟩:=H.dQ;replace hck:=hck.mono hmb;replace hb:=hmb _ _ hb;replace hh:=hh.mono hmb;replace g3:=aL hmb g3;replace g4:=aL hmb g4;replace hc2:=aL hmb hc2
 have q0:aI Gb b11 0=some (vi h.marks.ins):=by unfold aI;rw [Eb];rfl
 have q1:aI Gb b11 1=some (vi h.marks.move):=by unfold aI;rw [Eb];rfl
 have q2:aI Gb b11 2=some (.slice dA h.marks.dH.length dc):=by unfold aI;rw [Eb];rfl
 have q3:aI Gb b11 3=some (.slice lA h.marks.layers.length lc):=by unfold aI;rw [Eb];rfl
 have hcb:=aeP hck hb g3 g4 q3 hh.layers;refine aH ?_;refine dO _ _ ?_;clear dO;refine uU (ι:=GH) (Tc:=[(3,_),(4,_),(11,_)]) (Lc:=[]) (fun gh=>[]) (fun gh=>[]) (fun gh=>gh) (fun gh=>jI (aP st li rv) h.marks=0∧(∀ b o,Gb b=some o→gh b=some o)) (by exact (H).sub ⟨rfl,rfl,rfl,aD⟩) ?_ ?_
 ·skip;refine oG ?_;refine bg (fun _ dJ=>?_)
  by_cases c0:h.marks.ins≠0
  ·skip
   by_cases c1:h.marks.ins∉rv.map eZ.id
   ·skip;refine dI hmx [[],[0],[0,1],[0,1,2],(ra 0 4),(ra 0 5),(ra 0 6),(ra 0 7),(ra 0 4),[0,1,2,3,8],(ra 0 10),(ra 0 11),(ra 0 12),(ra 0 13)] [13] (by kernel_rfl) [_,_,_,_,_,(aJ b 0),_,_,_,_,.bool (decide (h.marks.ins∈rv.map eZ.id)),.bool (decide (h.marks.ins∉rv.map eZ.id)),_] H (aF (Z0 rfl (Rf xC rfl)) (X1 0 41 rfl fun hG=>Rg aC rfl (aL hG q0)) (Z1 1 42 rfl (Rc rfl)) (Z1 2 43 rfl (Rm rfl)) (aF (X1 3 44 rfl fun hG=>YR EK (aG c0) rfl (aL hG g3)) ?_ (Z2 5 46 3 44 rfl (YF FZ (aG c0) rfl)) (X2 6 47 3 44 rfl fun hG=>YR xY (aG c0) rfl (aL hG hc2)) (aF (Z1 3 44 rfl (YF xC (aG c0) rfl)) (X2 8 49 3 44 rfl fun hG=>YR aC (aG c0) rfl (aL hG q0)) ?_ ?_ (bM (Z2 3 44 11 52 rfl (Pt (aG c0) rfl)) (bM (bJ rfl) dP))))) ?_
    ·refine eB 4 45 3 44 rfl rfl fun _ a w G1 hG HT H fin=>?_;refine qW H (wg H rfl rfl (aG c0)) rfl rfl ?_;clear H;intro a H;exact fin H iJ rfl
    ·refine wY 7 48 9 50 3 44 rfl rfl fun _ a w G1 hG HT H fin=>?_;refine wN (zv:=.bool false) yh mJ (by kernel_rfl) H (wg H rfl rfl (aG c0)) rfl rfl (H.ro _ _ (hG _ _ hck.rev)) rfl ?_;clear H;intro a H;rw [Cy] at H;exact fin H iJ rfl
    ·refine eB 10 51 3 44 rfl rfl fun _ a w G1 hG HT H fin=>?_;refine kH H (YN (aG c0) rfl ?_);clear H;intro a H;exact fin H iJ (by show _=_;first|rfl|exact aM decide_not.symm)
    clear H;intro a w G pO H hv;have H:=H.aT (hv 12 53 rfl rfl) rfl;clear hv;refine kH H (Ra rfl ?_);clear H;intro a H;refine aH ⟨rfl,?_⟩;refine dJ _ _ ?_;clear dJ;refine yI H rfl (aG c1) ?_;refine bg (fun _ dD=>?_);have e3:jI (aP st li rv) h.marks=22:=au ⟨c0,c1⟩;have hE:=(zi (C:=aP st li rv) (e:=e) (h:=h) e1 e2 (by rw [e3];decide)).trans e3;exact kP H (SC (aU dD rfl (LR results69 rfl fun H=>H.rt (by rw [hE]))))
   skip;refine dI hmx [[],[0],[0,1],[0,1,2],(ra 0 4),(ra 0 5),(ra 0 6),(ra 0 7),(ra 0 4),[0,1,2,3,8],(ra 0 10),(ra 0 11),(ra 0 12),(ra 0 13)] [13] (by kernel_rfl) [_,_,_,_,_,(aJ b 0),_,_,_,_,.bool (decide (h.marks.ins∈rv.map eZ.id)),.bool (decide (h.marks.ins∉rv.map eZ.id)),_] H (aF (Z0 rfl (Rf xC rfl)) (X1 0 41 rfl fun hG=>Rg aC rfl (aL hG q0)) (Z1 1 42 rfl (Rc rfl)) (Z1 2 43 rfl (Rm rfl)) (aF (X1 3 44 rfl fun hG=>YR EK (aG c0) rfl (aL hG g3)) ?_ (Z2 5 46 3 44 rfl (YF FZ (aG c0) rfl)) (X2 6 47 3 44 rfl fun hG=>YR xY (aG c0) rfl (aL hG hc2)) (aF (Z1 3 44 rfl (YF xC (aG c0) rfl)) (X2 8 49 3 44 rfl fun hG=>YR aC (aG c0) rfl (aL hG q0)) ?_ ?_ (bM (Z2 3 44 11 52 rfl (Pt (aG c0) rfl)) (bM (bJ rfl) dP))))) ?_
   ·refine eB 4 45 3 44 rfl rfl fun _ a w G1 hG HT H fin=>?_;refine qW H (wg H rfl rfl (aG c0)) rfl rfl ?_;clear H;intro a H;exact fin H iJ rfl
   ·refine wY 7 48 9 50 3 44 rfl rfl fun _ a w G1 hG HT H fin=>?_;refine wN (zv:=.bool false) yh mJ (by kernel_rfl) H (wg H rfl rfl (aG c0)) rfl rfl (H.ro _ _ (hG _ _ hck.rev)) rfl ?_;clear H;intro a H;rw [Cy] at H;exact fin H iJ rfl
   ·refine eB 10 51 3 44 rfl rfl fun _ a w G1 hG HT H fin=>?_;refine kH H (YN (aG c0) rfl ?_);clear H;intro a H;exact fin H iJ (by show _=_;first|rfl|exact aM decide_not.symm)
   clear H;intro a w G pO H hv;have H:=H.aT (hv 12 53 rfl rfl) rfl;clear hv;refine kH H (Ra rfl ?_);clear H;intro a H;refine aH ⟨rfl,?_⟩;refine dJ _ _ ?_;clear dJ;refine pJ H rfl (aR c1) ?_;refine bg (fun _ dU=>?_)
   have hno:¬ (h.marks.ins≠0∧h.marks.ins∉(aP st li rv).ED):=by first|exact fun h=>c1 h.2|exact fun h=>c0 h.1
   replace q0:=aL pO q0;replace q1:=aL pO q1;replace q2:=aL pO q2;refine kP H (SC (Rf DU rfl (Rg aC rfl (by assumption) ?_)));clear H;intro a H;refine s_call tY H wn rfl (uE _ _ H.ro h.marks.move 0 1073741824) rfl ?_;clear H;rintro v57 _ a w ⟨rfl,rfl⟩ - H;refine kH H (Rn rfl (Rm rfl (Sp 59 rfl ?_ ?_))) <;> clear H
   ·intro iM a H
    try have p59:=dT iM
    refine kH H (bO iM rfl (bO iM rfl (Ku rfl (Ku rfl (Ku rfl (Ks iM rfl (Pt iM rfl (aU dU rfl (Ct rfl rfl (SQ fun _ fP=>?_))))))))));clear H dU;intro a H
    have e3:jI (aP st li rv) h.marks=21:=by unfold jI;rw [ah hno,au (by first|(simp_all;done)|(simp_all;omega))]
    have hE:=(zi (C:=aP st li rv) (e:=e) (h:=h) e1 e2 (by rw [e3];decide)).trans e3;exact kP H (SC (aU fP rfl (LR results69 rfl fun H=>H.rt (by rw [hE]))))
   intro iM a H
   try have p59:=dF iM
   refine kH H (YF DU iM rfl (YR aC iM rfl (by assumption) ?_));clear H;intro a H;refine kH H (YC iM rfl (YM iM rfl (Sp 63 rfl ?_ ?_))) <;> clear H
   ·intro h63 a H
    try have p63:=dT h63
    refine kH H (YF xC h63 rfl (YR aC h63 rfl (by assumption) ?_));clear H;intro a H;refine kH H (YC h63 rfl (PT iM h63 rfl (Pf iM rfl (aU dU rfl (Cd rfl ?_ ?_))))) <;> clear H dU
    ·intro gX a H
     try have p54:=dT gX
     refine bg (fun _ eG=>?_)
     have e3:jI (aP st li rv) h.marks=21:=by unfold jI;rw [ah hno,au (by first|(simp_all;done)|(simp_all;omega))]
     have hE:=(zi (C:=aP st li rv) (e:=e) (h:=h) e1 e2 (by rw [e3];decide)).trans e3;exact kP H (SC (aU eG rfl (LR results69 rfl fun H=>H.rt (by rw [hE]))))
    intro gX a H
    try have p54:=dF gX
    refine bg (fun _ fZ=>?_)
    have hn2:¬ (¬ (0≤h.marks.move∧h.marks.move≤1073741824)∨(h.marks.move≠0∧h.marks.ins=0)):=by first|(simp_all;done)|(simp_all;omega)
    refine kP H (SC (Rf xD rfl (Rg xZ rfl (by assumption) ?_)));clear H;intro a H;refine kH H (Rl uK rfl (Rc rfl (aU fZ rfl (Cd rfl ?_ ?_)))) <;> clear H fZ
    ·intro rT a H
     refine bg (fun _ gN=>?_)
     have e3:jI (aP st li rv) h.marks=9:=by unfold jI;rw [ah hno,ah hn2,au (by simpa using rT)]
     have hE:=(zi (C:=aP st li rv) (e:=e) (h:=h) e1 e2 (by rw [e3];decide)).trans e3;exact kP H (SC (aU gN rfl (LR results69 rfl fun H=>H.rt (by rw [hE]))))
    intro rT a H
    have e3:jI (aP st li rv) h.marks=0:=by unfold jI;rw [ah hno,ah hn2,ah (by simpa using rT)]
    refine fQ ?_;refine ⟨_,by exact (H).sub ⟨rfl,rfl,rfl,aD⟩,?_⟩;exact ⟨e3,pO⟩
   intro h63 a H
   try have p63:=dF h63
   refine kH H (cK h63 rfl (PF iM h63 rfl (Pf iM rfl (aU dU rfl (Cf rfl rfl (SQ fun _ iW=>?_))))));clear H dU;intro a H
   have hn2:¬ (¬ (0≤h.marks.move∧h.marks.move≤1073741824)∨(h.marks.move≠0∧h.marks.ins=0)):=by first|(simp_all;done)|(simp_all;omega)
   refine kP H (SC (Rf xD rfl (Rg xZ rfl (by assumption) ?_)));clear H;intro a H;refine kH H (Rl uK rfl (Rc rfl (aU iW rfl (Cd rfl ?_ ?_)))) <;> clear H iW
   ·intro rT a H
    refine bg (fun _ iN=>?_)
    have e3:jI (aP st li rv) h.marks=9:=by unfold jI;rw [ah hno,ah hn2,au (by simpa using rT)]
    have hE:=(zi (C:=aP st li rv) (e:=e) (h:=h) e1 e2 (by rw [e3];decide)).trans e3;exact kP H (SC (aU iN rfl (LR results69 rfl fun H=>H.rt (by rw [hE]))))
   intro rT a H
   have e3:jI (aP st li rv) h.marks=0:=by unfold jI;rw [ah hno,ah hn2,ah (by simpa using rT)]
   refine fQ ?_;refine ⟨_,by exact (H).sub ⟨rfl,rfl,rfl,aD⟩,?_⟩;exact ⟨e3,pO⟩
  skip;refine dI hmx [[],[0],[0,1],[0,1,2],(ra 0 4),(ra 0 5),(ra 0 6),(ra 0 7),(ra 0 4),[0,1,2,3,8],(ra 0 10),(ra 0 11),(ra 0 12),(ra 0 13)] [13] (by kernel_rfl) [_,_,_,_,undef,undef,undef,undef,undef,undef,undef,undef,_] H (aF (Z0 rfl (Rf xC rfl)) (X1 0 41 rfl fun hG=>Rg aC rfl (aL hG q0)) (Z1 1 42 rfl (Rc rfl)) (Z1 2 43 rfl (Rm rfl)) (aF (bq (j:=3) (by kernel_rfl) (fun _ _ _ _ _ h=>h) rfl rfl rfl rfl rfl (fun _ _ h=>bD h (aM (aR c0))) rfl (fun _=>rfl)) (bq (j:=3) (by kernel_rfl) (fun _ _ _ _ _ h=>h) rfl rfl rfl rfl rfl (fun _ _ h=>bD h (aM (aR c0))) rfl (fun _=>rfl)) (bq (j:=3) (by kernel_rfl) (fun _ _ _ _ _ h=>h) rfl rfl rfl rfl rfl (fun _ _ h=>bD h (aM (aR c0))) rfl (fun _=>rfl)) (bq (j:=3) (by kernel_rfl) (fun _ _ _ _ _ h=>h) rfl rfl rfl rfl rfl (fun _ _ h=>bD h (aM (aR c0))) rfl (fun _=>rfl)) (aF (bq (j:=3) (by kernel_rfl) (fun _ _ _ _ _ h=>h) rfl rfl rfl rfl rfl (fun _ _ h=>bD h (aM (aR c0))) rfl (fun _=>rfl)) (bq (j:=3) (by kernel_rfl) (fun _ _ _ _ _ h=>h) rfl rfl rfl rfl rfl (fun _ _ h=>bD h (aM (aR c0))) rfl (fun _=>rfl)) (bq (j:=3) (by kernel_rfl) (fun _ _ _ _ _ h=>h) rfl rfl rfl rfl rfl (fun _ _ h=>bD h (aM (aR c0))) rfl (fun _=>rfl)) (bq (j:=3) (by kernel_rfl) (fun _ _ _ _ _ h=>h) rfl rfl rfl rfl rfl (fun _ _ h=>bD h (aM (aR c0))) rfl (fun _=>rfl)) (bM (Z2 3 44 11 52 rfl (Pf (aR c0) rfl)) (bM (bJ rfl) dP))))) ?_
  clear H;intro a w G pO H hv;have H:=H.aT (hv 12 53 rfl rfl) rfl;clear hv;refine kH H (Ra rfl ?_);clear H;intro a H;refine aH ⟨rfl,?_⟩;refine dJ _ _ ?_;clear dJ;refine pJ H rfl rfl ?_;refine bg (fun _ iO=>?_)
  have hno:¬ (h.marks.ins≠0∧h.marks.ins∉(aP st li rv).ED):=by first|exact fun h=>c1 h.2|exact fun h=>c0 h.1
  replace q0:=aL pO q0;replace q1:=aL pO q1;replace q2:=aL pO q2;refine kP H (SC (Rf DU rfl (Rg aC rfl (by assumption) ?_)));clear H;intro a H;refine s_call tY H wn rfl (uE _ _ H.ro h.marks.move 0 1073741824) rfl ?_;clear H;rintro v57 _ a w ⟨rfl,rfl⟩ - H;refine kH H (Rn rfl (Rm rfl (Sp 59 rfl ?_ ?_))) <;> clear H
  ·intro iM a H
   try have p59:=dT iM
   refine kH H (bO iM rfl (bO iM rfl (Ku rfl (Ku rfl (Ku rfl (Ks iM rfl (Pt iM rfl (aU iO rfl (Ct rfl rfl (SQ fun _ jM=>?_))))))))));clear H iO;intro a H
   have e3:jI (aP st li rv) h.marks=21:=by unfold jI;rw [ah hno,au (by first|(simp_all;done)|(simp_all;omega))]
   have hE:=(zi (C:=aP st li rv) (e:=e) (h:=h) e1 e2 (by rw [e3];decide)).trans e3;exact kP H (SC (aU jM rfl (LR results69 rfl fun H=>H.rt (by rw [hE]))))
  intro iM a H
  try have p59:=dF iM
  refine kH H (YF DU iM rfl (YR aC iM rfl (by assumption) ?_));clear H;intro a H;refine kH H (YC iM rfl (YM iM rfl (Sp 63 rfl ?_ ?_))) <;> clear H
  ·intro h63 a H
   try have p63:=dT h63
   refine kH H (YF xC h63 rfl (YR aC h63 rfl (by assumption) ?_));clear H;intro a H;refine kH H (YC h63 rfl (PT iM h63 rfl (Pf iM rfl (aU iO rfl (Cd rfl ?_ ?_))))) <;> clear H iO
   ·intro gX a H
    try have p54:=dT gX
    refine bg (fun _ kC=>?_)
    have e3:jI (aP st li rv) h.marks=21:=by unfold jI;rw [ah hno,au (by first|(simp_all;done)|(simp_all;omega))]
    have hE:=(zi (C:=aP st li rv) (e:=e) (h:=h) e1 e2 (by rw [e3];decide)).trans e3;exact kP H (SC (aU kC rfl (LR results69 rfl fun H=>H.rt (by rw [hE]))))
   intro gX a H
   try have p54:=dF gX
   refine bg (fun _ jo=>?_)
   have hn2:¬ (¬ (0≤h.marks.move∧h.marks.move≤1073741824)∨(h.marks.move≠0∧h.marks.ins=0)):=by first|(simp_all;done)|(simp_all;omega)
   refine kP H (SC (Rf xD rfl (Rg xZ rfl (by assumption) ?_)));clear H;intro a H;refine kH H (Rl uK rfl (Rc rfl (aU jo rfl (Cd rfl ?_ ?_)))) <;> clear H jo
   ·intro rT a H
    refine bg (fun _ ng=>?_)
    have e3:jI (aP st li rv) h.marks=9:=by unfold jI;rw [ah hno,ah hn2,au (by simpa using rT)]
    have hE:=(zi (C:=aP st li rv) (e:=e) (h:=h) e1 e2 (by rw [e3];decide)).trans e3;exact kP H (SC (aU ng rfl (LR results69 rfl fun H=>H.rt (by rw [hE]))))
   intro rT a H
   have e3:jI (aP st li rv) h.marks=0:=by unfold jI;rw [ah hno,ah hn2,ah (by simpa using rT)]
   refine fQ ?_;refine ⟨_,by exact (H).sub ⟨rfl,rfl,rfl,aD⟩,?_⟩;exact ⟨e3,pO⟩
  intro h63 a H
  try have p63:=dF h63
  refine kH H (cK h63 rfl (PF iM h63 rfl (Pf iM rfl (aU iO rfl (Cf rfl rfl (SQ fun _ nO=>?_))))));clear H iO;intro a H
  have hn2:¬ (¬ (0≤h.marks.move∧h.marks.move≤1073741824)∨(h.marks.move≠0∧h.marks.ins=0)):=by first|(simp_all;done)|(simp_all;omega)
  refine kP H (SC (Rf xD rfl (Rg xZ rfl (by assumption) ?_)));clear H;intro a H;refine kH H (Rl uK rfl (Rc rfl (aU nO rfl (Cd rfl ?_ ?_)))) <;> clear H nO
  ·intro rT a H
   refine bg (fun _ ow=>?_)
   have e3:jI (aP st li rv) h.marks=9:=by unfold jI;rw [ah hno,ah hn2,au (by simpa using rT)]
   have hE:=(zi (C:=aP st li rv) (e:=e) (h:=h) e1 e2 (by rw [e3];decide)).trans e3;exact kP H (SC (aU ow rfl (LR results69 rfl fun H=>H.rt (by rw [hE]))))
  intro rT a H
  have e3:jI (aP st li rv) h.marks=0:=by unfold jI;rw [ah hno,ah hn2,ah (by simpa using rT)]
  refine fQ ?_;refine ⟨_,by exact (H).sub ⟨rfl,rfl,rfl,aD⟩,?_⟩;exact ⟨e3,pO⟩
 clear H;intro gh a w hI H;obtain ⟨g,hgh⟩:∃ x,x=gh:=⟨_,rfl⟩;subst hgh;obtain ⟨e3,uz⟩:=hI;replace hck:=hck.mono uz;replace hb:=uz _ _ hb;replace hh:=hh.mono uz;replace g3:=aL uz g3;replace q2:=aL uz q2;replace q3:=aL uz q3;replace hc2:=aL uz hc2;replace hcb:=hcb.mono uz;dsimp only [lca,aV] at H;refine kP H (SQ fun _ nQ=>SR fun _ nk=>Rf xD rfl (Rg xZ rfl (by assumption) ?_));clear H;intro a H;refine kH H (Rl uK rfl (Rm rfl (Kz nk (SB ?_))));clear H nk;intro a H;skip;refine gq (ι:=Nat × GH) (Tc:=[(3,_),(4,_),(11,_),(75,_),(76,_)]) (Lc:=[]) (fun gh=>[(77,vi gh.1)]) (fun gh=>[]) (fun gh=>gh.2) (fun gh=>gh.1≤h.marks.dH.length∧dB (((List.range h.marks.dH.length).map (vV (aP st li rv) h.marks.dH)).drop gh.1)=jV (vV (aP st li rv) h.marks.dH) h.marks.dH.length∧(∀ b o,g b=some o→gh.2 b=some o)) (fun gh=>h.marks.dH.length - gh.1) ((0,g)) (by exact (H).sub ⟨rfl,rfl,rfl,rfl,rfl,rfl,aD⟩) ?_ ?_
 ·exact ⟨gW _,rfl,fun _ _ h=>h⟩
 clear H;intro gh a w hI H;obtain ⟨k,g2⟩:=gh;dsimp only at hI H;obtain ⟨hk,heq,hgm⟩:=hI;dsimp only [lca,aV] at H;refine kP H (SR fun _ pF=>Rc rfl (Kz pF (SQ fun _ qN=>Cd rfl ?_ ?_))) <;> clear H pF
 ·intro M6 a H
  try have p78:=dT M6
  have hk2:k < h.marks.dH.length:=by omega
  have hd2:=hh.dH.mono hgm;obtain ⟨xb,xo,rfl,hrow⟩:=RN hd2 hk2
  have hk1:k - 1 < h.marks.dH.length:=by omega
  obtain ⟨b',o',he',hrow'⟩:=RN hd2 hk1
  injection he' with he'
  injection he' with e1 e2
  subst e1;subst e2
  have hde:vV (aP st li rv) h.marks.dH k=vW (aP st li rv) k h.marks.dH[k] h.marks.dH[k - 1].rev:=by unfold vV;rw [gy hk2,gy hk1];rfl
  have hX:∀ v,vW (aP st li rv) k h.marks.dH[k] h.marks.dH[k - 1].rev=v→v≠0→iZ (aP st li rv) e h=v:=fun v h1 h2=>by
   have h4:jV (vV (aP st li rv) h.marks.dH) h.marks.dH.length=v:=by rw [← heq,BJ hk2,hde,h1,au h2]
   exact (adC e1 e2 e3 (by rw [h4];exact h2)).trans h4
  have hp:=hrow' 0 _ rfl;have g3':=aL hgm g3;have hc2':=aL hgm hc2;have q2':=aL hgm q2;refine kP H (Kc qN (SQ fun _ oz=>SB (SR fun _ sH=>Rm rfl (Ri uK zO rfl rfl ?_))));clear H qN;intro a H;refine aW zO (cs:=h.marks.dH[k].cells) H wn rfl rfl (fun j v hj=>H.hp.aI (hrow j v hj)) rfl ?_;clear H;intro a H;refine dx zO H wn rfl ?_;clear H;intro b13 a w Gx H;refine kH H (Ra rfl ?_);clear H;intro a H;refine aX zO 0 (vs:=[_,_]) _ H wn rfl rfl rfl rfl rfl rfl rfl rfl ?_;clear H;intro w H;dsimp only [List.set,setRow] at H;refine sH _ _ ?_;clear sH;refine oG ?_;refine bg (fun _ wU=>?_);refine dI hmx [[],[0],[0,1],[0,1,2],[],[4],(ra 0 6),(ra 0 7),(ra 0 8)] [8] (by kernel_rfl) [_,_,_,_,_,vi h.marks.dH[k].rev,.bool (decide (h.marks.dH[k].rev∈rv.map eZ.id)),_] H (aF (X0 rfl fun hG=>Rg EK rfl (aL hG g3')) (Z1 0 83 rfl (Rk rfl)) (Z1 1 84 rfl (Rf FZ rfl)) (X1 2 85 rfl fun hG=>Rg xY rfl (aL hG hc2')) (aF (Z0 rfl (Rf F4 rfl)) (Z1 4 87 rfl (Ro aC 0 rfl)) ?_ (Z1 6 89 rfl (Rn rfl)) (bM (bJ rfl) dP))) ?_
  ·refine eB 3 86 5 88 rfl rfl fun _ a w G1 hG HT H fin=>?_;refine wN (zv:=.bool false) yh mJ (by kernel_rfl) H wn rfl rfl (H.ro _ _ (hG _ _ (hgm _ _ hck.rev))) rfl ?_;clear H;intro a H;rw [Cy] at H;exact fin H iJ rfl
  clear H;intro a w G D8 H hv;have H:=H.aT (hv 7 90 rfl rfl) rfl;clear hv;refine kH H (Ra rfl ?_);clear H;intro a H;refine aH ⟨rfl,?_⟩;refine wU _ _ ?_;clear wU;refine mV H rfl ?_ ?_
  ·intro sU
   refine bg (fun _ wV=>?_);have hE:=hX 22 (by unfold vW;rw [au (by simpa using sU)]) (by decide);exact kP H (SC (aU wV rfl (LR results69 rfl fun H=>H.rt (by rw [hE]))))
  intro sU
  try have UU:=dF sU
  have GL:¬ (h.marks.dH[k].rev∉(aP st li rv).ED):=by simpa using sU
  refine bg (fun _ mK=>?_);replace hp:=aL D8 hp;replace q2':=aL D8 q2'
  by_cases c3:0 < (k:Int)
  ·skip
   by_cases c4:h.marks.dH[k].rev≤h.marks.dH[k - 1].rev
   ·skip;refine dI hmx [[],[0],[0,1],[0,1,2],(ra 0 4),[0,1,2],[0,1,2,5],[0,1,2],[0,1,2,7],[0,1,2,5,6,7,8],[0,1,2,5,6,7,8,9],([0,1,2]++ra 5 6),(ra 0 12),(ra 0 13),(ra 0 14)] [14] (by kernel_rfl) [_,_,_,_,vi h.marks.dH[k].rev,_,_,_,vi ((k - 1:Nat):Int),_,_,_,_,_] H (aF (Z0 rfl (Rm rfl)) (Z1 0 92 rfl (Rc rfl)) (Z1 1 93 rfl (Rm rfl)) (Z1 2 94 rfl (YF F4 (aG c3) rfl)) (aF (Z2 3 95 2 94 rfl (YO aC 0 (aG c3) rfl)) (Z1 2 94 rfl (YF xD (aG c3) rfl)) (X2 5 97 2 94 rfl fun hG=>YR xZ (aG c3) rfl (aL hG q2')) (Z1 2 94 rfl (YM (aG c3) rfl)) (aF ?_ (Z3 6 98 8 100 2 94 rfl (YI uK zO (aG c3) rfl rfl)) (Z2 9 101 2 94 rfl (YF F4 (aG c3) rfl)) (X2 10 102 2 94 rfl fun hG=>YR aC (aG c3) rfl (aL hG hp)) (bM (Z3 4 96 11 103 2 94 rfl (YC (aG c3) rfl)) (bM (Z2 2 94 12 104 rfl (Pt (aG c3) rfl)) (bM (bJ rfl) dP)))))) ?_
    ·refine eB 7 99 2 94 rfl rfl fun _ a w G1 hG HT H fin=>?_;refine oV _ H (wg H rfl rfl (aG c3)) rfl rfl rfl (by omega) (by omega) rfl ?_;clear H;intro a H;exact fin H iJ (by show _=_;first|rfl|exact ay vi (by omega))
    clear H;intro a w G Ju H hv;have H:=H.aT (hv 13 105 rfl rfl) rfl;clear hv;refine kH H (Ra rfl ?_);clear H;intro a H;refine aH ⟨rfl,?_⟩;refine mK _ _ ?_;clear mK;refine yI H rfl (aG c4) ?_;refine bg (fun _ yD=>?_);have hz:0 < k∧h.marks.dH[k].rev≤h.marks.dH[k - 1].rev:=⟨by omega,c4⟩;have hE:=hX 6 (by unfold vW;rw [ah GL,au hz]) (by decide);exact kP H (SC (aU yD rfl (LR results69 rfl fun H=>H.rt (by rw [hE]))))
   skip;refine dI hmx [[],[0],[0,1],[0,1,2],(ra 0 4),[0,1,2],[0,1,2,5],[0,1,2],[0,1,2,7],[0,1,2,5,6,7,8],[0,1,2,5,6,7,8,9],([0,1,2]++ra 5 6),(ra 0 12),(ra 0 13),(ra 0 14)] [14] (by kernel_rfl) [_,_,_,_,vi h.marks.dH[k].rev,_,_,_,vi ((k - 1:Nat):Int),_,_,_,_,_] H (aF (Z0 rfl (Rm rfl)) (Z1 0 92 rfl (Rc rfl)) (Z1 1 93 rfl (Rm rfl)) (Z1 2 94 rfl (YF F4 (aG c3) rfl)) (aF (Z2 3 95 2 94 rfl (YO aC 0 (aG c3) rfl)) (Z1 2 94 rfl (YF xD (aG c3) rfl)) (X2 5 97 2 94 rfl fun hG=>YR xZ (aG c3) rfl (aL hG q2')) (Z1 2 94 rfl (YM (aG c3) rfl)) (aF ?_ (Z3 6 98 8 100 2 94 rfl (YI uK zO (aG c3) rfl rfl)) (Z2 9 101 2 94 rfl (YF F4 (aG c3) rfl)) (X2 10 102 2 94 rfl fun hG=>YR aC (aG c3) rfl (aL hG hp)) (bM (Z3 4 96 11 103 2 94 rfl (YC (aG c3) rfl)) (bM (Z2 2 94 12 104 rfl (Pt (aG c3) rfl)) (bM (bJ rfl) dP)))))) ?_
   ·refine eB 7 99 2 94 rfl rfl fun _ a w G1 hG HT H fin=>?_;refine oV _ H (wg H rfl rfl (aG c3)) rfl rfl rfl (by omega) (by omega) rfl ?_;clear H;intro a H;exact fin H iJ (by show _=_;first|rfl|exact ay vi (by omega))
   clear H;intro a w G Ju H hv;have H:=H.aT (hv 13 105 rfl rfl) rfl;clear hv;refine kH H (Ra rfl ?_);clear H;intro a H;refine aH ⟨rfl,?_⟩;refine mK _ _ ?_;clear mK;refine pJ H rfl (aR c4) ?_;refine bg (fun _ zX=>?_)
   have hz:¬ (0 < k∧h.marks.dH[k].rev≤h.marks.dH[k - 1].rev):=by first|exact fun h=>c4 h.2|exact fun h=>c3 (by omega)
   refine kP H (SC (aO SG aC 0 rfl rfl ?_));clear H;intro a H;refine s_call tY H wn rfl (uE _ _ H.ro h.marks.dH[k].move 0 1073741824) rfl ?_;clear H;rintro v109 _ a w ⟨rfl,rfl⟩ - H;refine kH H (Rn rfl (aU zX rfl (Cd rfl ?_ ?_))) <;> clear H zX
   ·intro vY a H
    try have OT:=dT vY
    refine bg (fun _ BD=>?_);have hE:=hX 21 (by unfold vW;rw [ah GL,ah hz,au (by have h0:=vY;simp at h0;omega)]) (by decide);exact kP H (SC (aU BD rfl (LR results69 rfl fun H=>H.rt (by rw [hE]))))
   intro vY a H
   try have OT:=dF vY
   have NH:vW (aP st li rv) k h.marks.dH[k] h.marks.dH[k - 1].rev=0:=by unfold vW;rw [ah GL,ah hz,ah (by have h0:=vY;simp at h0;omega)]
   have Nb:=fun b o h=>Ju b o (D8 b o (hgm b o h));refine kP H (Kc oz (SC (Rd rfl (Rm rfl ?_))));clear H oz;intro a H;refine aH ?_;refine eO ((k+1,G)) (by exact (H.bU (Pl:=[_]) (bN:=[]) [] (by decide) rfl).sub ⟨rfl,rfl,rfl,rfl,rfl,rfl,aD⟩) ?_ ?_
   ·(try dsimp only);exact ⟨by omega,by rw [BJ hk2,ah (by rw [hde];simpa using NH)] at heq;exact heq,Nb⟩
   first|omega|(dsimp only;omega)
  skip;refine dI hmx [[],[0],[0,1],[0,1,2],(ra 0 4),[0,1,2],[0,1,2,5],[0,1,2],[0,1,2,7],[0,1,2,5,6,7,8],[0,1,2,5,6,7,8,9],([0,1,2]++ra 5 6),(ra 0 12),(ra 0 13),(ra 0 14)] [14] (by kernel_rfl) [_,_,_,undef,undef,undef,undef,undef,undef,undef,undef,undef,undef,_] H (aF (Z0 rfl (Rm rfl)) (Z1 0 92 rfl (Rc rfl)) (Z1 1 93 rfl (Rm rfl)) (bq (j:=2) (by kernel_rfl) (fun _ _ _ _ _ h=>h) rfl rfl rfl rfl rfl (fun _ _ h=>bD h (aM (aR c3))) rfl (fun _=>rfl)) (aF (bq (j:=2) (by kernel_rfl) (fun _ _ _ _ _ h=>h) rfl rfl rfl rfl rfl (fun _ _ h=>bD h (aM (aR c3))) rfl (fun _=>rfl)) (bq (j:=2) (by kernel_rfl) (fun _ _ _ _ _ h=>h) rfl rfl rfl rfl rfl (fun _ _ h=>bD h (aM (aR c3))) rfl (fun _=>rfl)) (bq (j:=2) (by kernel_rfl) (fun _ _ _ _ _ h=>h) rfl rfl rfl rfl rfl (fun _ _ h=>bD h (aM (aR c3))) rfl (fun _=>rfl)) (bq (j:=2) (by kernel_rfl) (fun _ _ _ _ _ h=>h) rfl rfl rfl rfl rfl (fun _ _ h=>bD h (aM (aR c3))) rfl (fun _=>rfl)) (aF (bq (j:=2) (by kernel_rfl) (fun _ _ _ _ _ h=>h) rfl rfl rfl rfl rfl (fun _ _ h=>bD h (aM (aR c3))) rfl (fun _=>rfl)) (bq (j:=2) (by kernel_rfl) (fun _ _ _ _ _ h=>h) rfl rfl rfl rfl rfl (fun _ _ h=>bD h (aM (aR c3))) rfl (fun _=>rfl)) (bq (j:=2) (by kernel_rfl) (fun _ _ _ _ _ h=>h) rfl rfl rfl rfl rfl (fun _ _ h=>bD h (aM (aR c3))) rfl (fun _=>rfl)) (bq (j:=2) (by kernel_rfl) (fun _ _ _ _ _ h=>h) rfl rfl rfl rfl rfl (fun _ _ h=>bD h (aM (aR c3))) rfl (fun _=>rfl)) (bM (bq (j:=2) (by kernel_rfl) (fun _ _ _ _ _ h=>h) rfl rfl rfl rfl rfl (fun _ _ h=>bD h (aM (aR c3))) rfl (fun _=>rfl)) (bM (Z2 2 94 12 104 rfl (Pf (aR c3) rfl)) (bM (bJ rfl) dP)))))) ?_
  clear H;intro a w G Ju H hv;have H:=H.aT (hv 13 105 rfl rfl) rfl;clear hv;refine kH H (Ra rfl ?_);clear H;intro a H;refine aH ⟨rfl,?_⟩;refine mK _ _ ?_;clear mK;refine pJ H rfl rfl ?_;refine bg (fun _ zY=>?_)
  have hz:¬ (0 < k∧h.marks.dH[k].rev≤h.marks.dH[k - 1].rev):=by first|exact fun h=>c4 h.2|exact fun h=>c3 (by omega)
  refine kP H (SC (aO SG aC 0 rfl rfl ?_));clear H;intro a H;refine s_call tY H wn rfl (uE _ _ H.ro h.marks.dH[k].move 0 1073741824) rfl ?_;clear H;rintro v109 _ a w ⟨rfl,rfl⟩ - H;refine kH H (Rn rfl (aU zY rfl (Cd rfl ?_ ?_))) <;> clear H zY
  ·intro vY a H
   try have OT:=dT vY
   refine bg (fun _ BF=>?_);have hE:=hX 21 (by unfold vW;rw [ah GL,ah hz,au (by have h0:=vY;simp at h0;omega)]) (by decide);exact kP H (SC (aU BF rfl (LR results69 rfl fun H=>H.rt (by rw [hE]))))
  intro vY a H
  try have OT:=dF vY
  have NH:vW (aP st li rv) k h.marks.dH[k] h.marks.dH[k - 1].rev=0:=by unfold vW;rw [ah GL,ah hz,ah (by have h0:=vY;simp at h0;omega)]
  have Nb:=fun b o h=>Ju b o (D8 b o (hgm b o h));refine kP H (Kc oz (SC (Rd rfl (Rm rfl ?_))));clear H oz;intro a H;refine aH ?_;refine eO ((k+1,G)) (by exact (H.bU (Pl:=[_]) (bN:=[]) [] (by decide) rfl).sub ⟨rfl,rfl,rfl,rfl,rfl,rfl,aD⟩) ?_ ?_
  ·(try dsimp only);exact ⟨by omega,by rw [BJ hk2,ah (by rw [hde];simpa using NH)] at heq;exact heq,Nb⟩
  first|omega|(dsimp only;omega)
 intro M6 a H
 try have p78:=dF M6
 refine fI ?_;refine nQ _ _ ?_;clear nQ;refine bg (fun _ Fq=>?_);refine bg (fun _ Fu=>?_)
 have e4:jV (vV (aP st li rv) h.marks.dH) h.marks.dH.length=0:=by rw [← heq,gK (by simp;omega)];rfl
 replace q3:=aL hgm q3;refine kP H (SC (Rf F8 rfl (Rg HZ rfl (by assumption) ?_)));clear H;intro a H;refine kH H (Rl zR rfl (Rc rfl (Kn Fu (Cd rfl ?_ ?_)))) <;> clear H Fu
 ·intro M0 a H
  try have OU:=dT M0
  refine bg (fun _ Ip=>?_);have hE:=adD (C:=aP st li rv) (e:=e) (h:=h) e1 e2 e3 e4 OU;exact kP H (SC (aU Ip rfl (LR results69 rfl fun H=>H.rt (by rw [hE]))))
 intro M0 a H
 try have OU:=dF M0
 refine fQ ?_;refine Fq _ _ ?_;clear Fq;refine bg (fun _ Iq=>?_);have hE:=adF (C:=aP st li rv) (e:=e) (h:=h) e1 e2 e3 e4 OU;refine kP H (SC (Rf F8 rfl (Rg HZ rfl (by assumption) ?_)));clear H;intro a H;refine kH H (Rl zR rfl ?_);clear H;intro a H;refine nK H wn rfl rfl ?_;clear H;intro a H;refine s_call DK H wn rfl (FH _ _ H.ro h.marks.layers.length (Cw (aP st li rv) e h.marks.layers) _ (by omega) (hcb.mono hgm)) rfl ?_;clear H;rintro ajt aiz a w rfl aiK H;exact kH H (aU Iq rfl (LR results69 rfl fun H=>H.rt (by rw [hE])))
end
section
open Go.RowKit
theorem DY:bV prog 47 1 1:=⟨by kernel_rfl⟩
def codeOk (x:aB):Bool:=if x.kind=4 then decide (1≤x.code∧x.code≤3) else if x.kind=6 then decide (1≤x.code∧x.code≤2) else if x.kind=8 then decide (1≤x.code∧x.code≤4) else true
def EJ (x:aB):Bool:=decide (x.kind=8∧x.code=1)
def EZ (x:aB):Bool:=decide (x.kind=1∨x.kind=5) || EJ x
def Eu (x:aB):Bool:=decide (x.kind=6∨x.kind=7∨x.kind=8)
def DF (x:aB):Bool:=decide (x.kind=4∨x.kind=6∨x.kind=8)
def uY (s:ByteArray):Bool:=s.toList == (⟨#[]⟩:ByteArray).toList
def Ar (x:aB):Bool:=!DF x && decide (x.code≠0) || !Eu x && decide (x.id≠0) || !EZ x && !uY x.text || decide (x.kind≠6) && decide (0 < (x.flow.length:Int)) || decide (x.kind≠7) && decide (0 < (x.rows.length:Int))
def mq (x:aB):Int :=
 if (!decide (1≤x.kind∧x.kind≤8) || !codeOk x)=true then 3 else if Ar x=true then 15 else if gU x.text=false then 12 else if (decide (x.kind=1∨x.kind=5) && uY x.text)=true then 11
 else if (decide (x.kind=5) && decide (1024 < (x.text.size:Int)))=true then 10 else if (EJ x && !pK x.text)=true then 13 else 0
theorem acH (G:GH) (w0:World) (hG:Hold G w0) (x:aB) (p d l:aj) (fA rA:Option Addr) (fc rc:Nat) (hs:x.text.size < 4611686018427387904) :
  Calls prog 166 #[.agg #[vi x.kind,vi x.code,vi x.id,.string x.text,p,vi x.head.marks.ins,vi x.head.marks.move,d,l,.slice fA x.flow.length fc,.slice rA x.rows.length rc]] w0 (aZ w0 G fun u G'=>u=vi (mq x)∧G=G'):=by
 refine eN [(0,_)] func166 rfl ntmps166 rfl rfl hG ?_;intro a H;refine bK (fun _ K1=>?_);refine dz (cs:=[_,_,_,_,_,_,_,_,_,_,_]) H wn rfl rfl rfl ?_;clear H;intro b1 a w hb1 H;refine kH H (ak K1 rfl ?_);clear H K1;intro a H;refine uU (ι:=Bool) (Tc:=[(1,_)]) (Lc:=[(_,_)]) (fun gh=>[(3,.bool gh)]) (fun gh=>[]) (fun gh=>G) (fun gh=>gh=EJ x) (by exact (H).sub ⟨rfl,aD⟩) ?_ ?_
 ·skip;refine kP H (SC (aO kV aC 0 rfl rfl (Rc rfl (Rm rfl (Sp 11 rfl ?_ ?_))))) <;> clear H
  ·intro h11 a H
   try have qC:=dT h11
   refine kH H (YF DY h11 rfl (YO aC 0 h11 rfl (YC h11 rfl (Pt h11 rfl (Ra rfl ?_)))));clear H;intro a H;refine aH ?_;refine ⟨_,by exact (H).sub ⟨rfl,rfl,aD⟩,?_⟩
   unfold EJ;first|(simp_all;done)
  intro h11 a H
  try have qC:=dF h11
  refine kH H (cK h11 rfl (Pf h11 rfl (Ra rfl ?_)));clear H;intro a H;refine aH ?_;refine ⟨_,by exact (H).sub ⟨rfl,rfl,aD⟩,?_⟩
  unfold EJ;first|(simp_all;done)
 clear H;intro gh a w hI H;obtain ⟨st,hgh⟩:∃ x,x=gh:=⟨_,rfl⟩;subst hgh;have hst:=hI;dsimp only [lca,aV] at H;refine uU (ι:=Bool) (Tc:=[(1,_),(3,_)]) (Lc:=[(_,_)]) (fun gh=>[(4,.bool gh)]) (fun gh=>[]) (fun gh=>G) (fun gh=>gh=EZ x) (by exact (H).sub ⟨rfl,rfl,aD⟩) ?_ ?_
 ·skip;refine kP H (SC (aO kV aC 0 rfl rfl (Rc rfl (Rm rfl (Sp 19 rfl ?_ ?_))))) <;> clear H
  ·intro h19 a H
   try have pU:=dT h19
   refine kH H (cK h19 rfl (Pt h19 rfl (Rm rfl (Ks rfl rfl (Pt rfl rfl (Ra rfl ?_))))));clear H;intro a H;refine aH ?_;refine ⟨_,by exact (H).sub ⟨rfl,rfl,rfl,aD⟩,?_⟩
   unfold EZ;first|(simp_all;done)
  intro h19 a H
  try have pU:=dF h19
  refine kH H (YF kV h19 rfl (YO aC 0 h19 rfl (YC h19 rfl (Pf h19 rfl (Rm rfl (Sp 24 rfl ?_ ?_)))))) <;> clear H
  ·intro fu a H
   try have kL:=dT fu
   refine kH H (Ks fu rfl (Pt fu rfl (Ra rfl ?_)));clear H;intro a H;refine aH ?_;refine ⟨_,by exact (H).sub ⟨rfl,rfl,rfl,aD⟩,?_⟩
   unfold EZ;first|(simp_all;done)
  intro fu a H
  try have kL:=dF fu
  refine kH H (YM fu rfl (Pf fu rfl (Ra rfl ?_)));clear H;intro a H;refine aH ?_;refine ⟨_,by exact (H).sub ⟨rfl,rfl,rfl,aD⟩,?_⟩
  unfold EZ;first|(simp_all;done)
 clear H;intro gh a w hI H;obtain ⟨wd,hgh⟩:∃ x,x=gh:=⟨_,rfl⟩;subst hgh;have hwd:=hI;dsimp only [lca,aV] at H;refine uU (ι:=Bool) (Tc:=[(1,_),(3,_),(4,_)]) (Lc:=[(_,_)]) (fun gh=>[(5,.bool gh)]) (fun gh=>[]) (fun gh=>G) (fun gh=>gh=Eu x) (by exact (H).sub ⟨rfl,rfl,rfl,aD⟩) ?_ ?_
 ·skip;refine kP H (SC (aO kV aC 0 rfl rfl (Rc rfl (Rm rfl (Sp 30 rfl ?_ ?_))))) <;> clear H
  ·intro lG a H
   try have p30:=dT lG
   refine kH H (cK lG rfl (Pt lG rfl (Rm rfl (cK rfl rfl (Pt rfl rfl (Ra rfl ?_))))));clear H;intro a H;refine aH ?_;refine ⟨_,by exact (H).sub ⟨rfl,rfl,rfl,rfl,aD⟩,?_⟩
   unfold Eu;first|(simp_all;done)
  intro lG a H
  try have p30:=dF lG
  refine kH H (YF kV lG rfl (YO aC 0 lG rfl (YC lG rfl (Pf lG rfl (Rm rfl (Sp 35 rfl ?_ ?_)))))) <;> clear H
  ·intro jD a H
   try have p35:=dT jD
   refine kH H (cK jD rfl (Pt jD rfl (Ra rfl ?_)));clear H;intro a H;refine aH ?_;refine ⟨_,by exact (H).sub ⟨rfl,rfl,rfl,rfl,aD⟩,?_⟩
   unfold Eu;first|(simp_all;done)
  intro jD a H
  try have p35:=dF jD
  refine kH H (YF kV jD rfl (YO aC 0 jD rfl (YC jD rfl (Pf jD rfl (Ra rfl ?_)))));clear H;intro a H;refine aH ?_;refine ⟨_,by exact (H).sub ⟨rfl,rfl,rfl,rfl,aD⟩,?_⟩
  unfold Eu;first|(simp_all;done)
 clear H;intro gh a w hI H;obtain ⟨nm,hgh⟩:∃ x,x=gh:=⟨_,rfl⟩;subst hgh;have hnm:=hI;dsimp only [lca,aV] at H;refine kP H (SR fun _ K2=>ak K2 rfl ?_);clear H K2;intro a H;refine uU (ι:=Bool) (Tc:=[(1,_),(3,_),(4,_),(5,_)]) (Lc:=[(_,_)]) (fun gh=>[(6,.bool gh)]) (fun gh=>[]) (fun gh=>G) (fun gh=>gh=codeOk x) (by exact (H).sub ⟨rfl,rfl,rfl,rfl,aD⟩) ?_ ?_
 ·skip;refine kP H (SR fun _ K3=>aO kV aC 0 rfl rfl (Kz K3 (SB (SR fun _ K4=>Rc rfl (ak K4 rfl (Cd rfl ?_ ?_)))))) <;> clear H K3 K4
  ·intro BX a H
   try have p42:=dT BX
   refine kP H (SC (aO DY aC 0 rfl rfl ?_));clear H;intro a H;refine s_call tY H wn rfl (uE _ _ H.ro x.code 1 3) rfl ?_;clear H;rintro v46 _ a w ⟨rfl,rfl⟩ - H;refine kH H (Ra rfl ?_);clear H;intro a H;refine aH ?_;refine ⟨_,by exact (H).sub ⟨rfl,rfl,rfl,rfl,rfl,aD⟩,?_⟩
   unfold codeOk;first|(simp_all;done)
  intro BX a H
  try have p42:=dF BX
  refine kP H (SR fun _ K5=>Rc rfl (ak K5 rfl (Cd rfl ?_ ?_))) <;> clear H K5
  ·intro h47 a H
   try have p47:=dT h47
   refine kP H (SC (aO DY aC 0 rfl rfl ?_));clear H;intro a H;refine s_call tY H wn rfl (uE _ _ H.ro x.code 1 2) rfl ?_;clear H;rintro v51 _ a w ⟨rfl,rfl⟩ - H;refine kH H (Ra rfl ?_);clear H;intro a H;refine aH ?_;refine ⟨_,by exact (H).sub ⟨rfl,rfl,rfl,rfl,rfl,aD⟩,?_⟩
   unfold codeOk;first|(simp_all;done)
  intro h47 a H
  try have p47:=dF h47
  refine kP H (SR fun _ K6=>Rc rfl (ak K6 rfl (Cd rfl ?_ ?_))) <;> clear H K6
  ·intro oL a H
   try have p52:=dT oL
   refine kP H (SC (aO DY aC 0 rfl rfl ?_));clear H;intro a H;refine s_call tY H wn rfl (uE _ _ H.ro x.code 1 4) rfl ?_;clear H;rintro v56 _ a w ⟨rfl,rfl⟩ - H;refine kH H (Ra rfl ?_);clear H;intro a H;refine aH ?_;refine ⟨_,by exact (H).sub ⟨rfl,rfl,rfl,rfl,rfl,aD⟩,?_⟩
   unfold codeOk;first|(simp_all;done)
  intro oL a H
  try have p52:=dF oL
  refine fQ ?_;refine ⟨_,by exact (H).sub ⟨rfl,rfl,rfl,rfl,rfl,aD⟩,?_⟩
  unfold codeOk;first|(simp_all;done)
 clear H;intro gh a w hI H;obtain ⟨ck,hgh⟩:∃ x,x=gh:=⟨_,rfl⟩;subst hgh;have hck:=hI;dsimp only [lca,aV] at H;refine uU (ι:=Bool) (Tc:=[(1,_),(3,_),(4,_),(5,_),(6,_)]) (Lc:=[(_,_)]) (fun gh=>[(7,.bool gh)]) (fun gh=>[]) (fun gh=>G) (fun gh=>gh=DF x) (by exact (H).sub ⟨rfl,rfl,rfl,rfl,rfl,aD⟩) ?_ ?_
 ·skip;refine kP H (SC (aO kV aC 0 rfl rfl (Rc rfl (Rm rfl (Sp 60 rfl ?_ ?_))))) <;> clear H
  ·intro gZ a H
   try have p60:=dT gZ
   refine kH H (cK gZ rfl (Pt gZ rfl (Rm rfl (cK rfl rfl (Pt rfl rfl (Ra rfl ?_))))));clear H;intro a H;refine aH ?_;refine ⟨_,by exact (H).sub ⟨rfl,rfl,rfl,rfl,rfl,rfl,aD⟩,?_⟩
   unfold DF;first|(simp_all;done)
  intro gZ a H
  try have p60:=dF gZ
  refine kH H (YF kV gZ rfl (YO aC 0 gZ rfl (YC gZ rfl (Pf gZ rfl (Rm rfl (Sp 65 rfl ?_ ?_)))))) <;> clear H
  ·intro qh a H
   try have p65:=dT qh
   refine kH H (cK qh rfl (Pt qh rfl (Ra rfl ?_)));clear H;intro a H;refine aH ?_;refine ⟨_,by exact (H).sub ⟨rfl,rfl,rfl,rfl,rfl,rfl,aD⟩,?_⟩
   unfold DF;first|(simp_all;done)
  intro qh a H
  try have p65:=dF qh
  refine kH H (YF kV qh rfl (YO aC 0 qh rfl (YC qh rfl (Pf qh rfl (Ra rfl ?_)))));clear H;intro a H;refine aH ?_;refine ⟨_,by exact (H).sub ⟨rfl,rfl,rfl,rfl,rfl,rfl,aD⟩,?_⟩
  unfold DF;first|(simp_all;done)
 clear H;intro gh a w hI H;obtain ⟨cd,hgh⟩:∃ x,x=gh:=⟨_,rfl⟩;subst hgh;have hcd:=hI;dsimp only [lca,aV] at H;refine kP H (SQ fun _ K7=>SB (SR fun _ K8=>?_));clear H;intro a H;refine zS (ι:=Bool) (Tc:=[(1,_),(3,_),(4,_),(5,_),(7,_)]) 8 (fun (q0:Bool)=>[(78,.bool q0)]) (fun (q0:Bool)=>q0=(!decide (1≤x.kind∧x.kind≤8) || !codeOk x)) (by exact H.sub ⟨rfl,rfl,rfl,rfl,rfl,aD⟩) ?_ ?_
 ·intro Tn;refine kH H (aO kV aC 0 rfl rfl ?_);clear H;intro a H;refine s_call tY H wn rfl (uE _ _ H.ro x.kind 1 8) rfl ?_;clear H;rintro v73 _ a w ⟨rfl,rfl⟩ - H;refine kH H (Rn rfl (Rm rfl (Sp 75 rfl ?_ ?_))) <;> clear H
  ·intro Aw a H
   try have p75:=dT Aw
   refine kH H (bO Aw rfl (Pt Aw rfl ?_));clear H;intro a H;refine Tn (_) _ _ ?_ (by exact H.sub ⟨rfl,rfl,rfl,rfl,rfl,rfl,aD⟩);rw [← hck];clear hst hwd hnm hck hcd;(try clear hq1);(try clear hq2);(try clear hq3);(try clear hq0);(try clear hq4);(try clear lI);(try clear lJ);(try clear lK);simp_all
  intro Aw a H
  try have p75:=dF Aw
  refine kH H (YM Aw rfl (YN Aw rfl (Pf Aw rfl ?_)));clear H;intro a H;refine Tn (_) _ _ ?_ (by exact H.sub ⟨rfl,rfl,rfl,rfl,rfl,rfl,aD⟩);rw [← hck];clear hst hwd hnm hck hcd;(try clear hq1);(try clear hq2);(try clear hq3);(try clear hq0);(try clear hq4);(try clear lI);(try clear lJ);(try clear lK);simp_all
 clear H;intro q0 a w hI H;dsimp only [lca,aV] at H;simp only [xq,sM];have hq0:=hI;refine kH H (ak K8 rfl (Cd rfl ?_ ?_)) <;> clear H K8
 ·intro uh a H
  refine bg (fun _ K9=>?_)
  have e:mq x=3:=by unfold mq;rw [au (by rw [← hq0];exact uh)]
  exact kP H (SC (aU K9 rfl (LR results166 rfl fun H=>H.rt ⟨by rw [e],rfl⟩)))
 intro uh a H
 try have p70:=dF uh
 have f0:¬ (!decide (1≤x.kind∧x.kind≤8) || !codeOk x)=true:=by rw [← hq0,uh];decide
 refine bK (fun _ aQ=>?_);refine zS (ι:=Bool) (Tc:=[(1,_),(3,_),(4,_),(5,_)]) 7 (fun (q1:Bool)=>[(86,.bool q1)]) (fun (q1:Bool)=>q1=(!DF x && decide (x.code≠0))) (by exact H.sub ⟨rfl,rfl,rfl,rfl,aD⟩) ?_ ?_
 ·intro Tp;refine kH H (Rm rfl (Rn rfl (Rm rfl (Sp 82 rfl ?_ ?_)))) <;> clear H
  ·intro sU a H
   try have UU:=dT sU
   refine kH H (YF DY sU rfl (YO aC 0 sU rfl (YC sU rfl (Pt sU rfl ?_))));clear H;intro a H;refine Tp (_) _ _ ?_ (by exact H.sub ⟨rfl,rfl,rfl,rfl,rfl,aD⟩);rw [← hcd];clear hst hwd hnm hck hcd;(try clear hq1);(try clear hq2);(try clear hq3);(try clear hq0);(try clear hq4);(try clear lI);(try clear lJ);(try clear lK);simp_all
  intro sU a H
  try have UU:=dF sU
  refine kH H (cK sU rfl (Pf sU rfl ?_));clear H;intro a H;refine Tp (_) _ _ ?_ (by exact H.sub ⟨rfl,rfl,rfl,rfl,rfl,aD⟩);rw [← hcd];clear hst hwd hnm hck hcd;(try clear hq1);(try clear hq2);(try clear hq3);(try clear hq0);(try clear hq4);(try clear lI);(try clear lJ);(try clear lK);simp_all
 clear H;intro q1 a w hI H;dsimp only [lca,aV] at H;simp only [xq,sM];have hq1:=hI;refine zS (ι:=Bool) (Tc:=[(1,_),(3,_),(4,_)]) 9 (fun (q2:Bool)=>[(95,.bool q2)]) (fun (q2:Bool)=>q2=(q1 || !Eu x && decide (x.id≠0))) (by exact H.sub ⟨rfl,rfl,rfl,aD⟩) ?_ ?_
 ·intro Nt;refine kH H (Rm rfl (Sp 87 rfl ?_ ?_)) <;> clear H
  ·intro h87 a H
   try have OW:=dT h87
   refine kH H (cK h87 rfl (Ku rfl (Ku rfl (Ku rfl (Ks h87 rfl (Pt h87 rfl ?_))))));clear H;intro a H;refine Nt (_) _ _ ?_ (by exact H.sub ⟨rfl,rfl,rfl,rfl,aD⟩);rw [← hnm];clear hst hwd hnm hck hcd;(try clear hq1);(try clear hq2);(try clear hq3);(try clear hq0);(try clear hq4);(try clear lI);(try clear lJ);(try clear lK);simp_all
  intro h87 a H
  try have OW:=dF h87
  refine kH H (YM h87 rfl (YN h87 rfl (YM h87 rfl (Sp 90 rfl ?_ ?_)))) <;> clear H
  ·intro yV a H
   try have p90:=dT yV
   refine kH H (YF Ap yV rfl (YO aC 0 yV rfl (YC yV rfl (PT h87 yV rfl (Pf h87 rfl ?_)))));clear H;intro a H;refine Nt (_) _ _ ?_ (by exact H.sub ⟨rfl,rfl,rfl,rfl,aD⟩);rw [← hnm];clear hst hwd hnm hck hcd;(try clear hq1);(try clear hq2);(try clear hq3);(try clear hq0);(try clear hq4);(try clear lI);(try clear lJ);(try clear lK);simp_all
  intro yV a H
  try have p90:=dF yV
  refine kH H (cK yV rfl (PF h87 yV rfl (Pf h87 rfl ?_)));clear H;intro a H;refine Nt (_) _ _ ?_ (by exact H.sub ⟨rfl,rfl,rfl,rfl,aD⟩);rw [← hnm];clear hst hwd hnm hck hcd;(try clear hq1);(try clear hq2);(try clear hq3);(try clear hq0);(try clear hq4);(try clear lI);(try clear lJ);(try clear lK);simp_all
 clear H;intro q2 a w hI H;dsimp only [lca,aV] at H;simp only [xq,sM];have hq2:=hI;refine zS (ι:=Bool) (Tc:=[(1,_),(3,_)]) 9 (fun (q3:Bool)=>[(104,.bool q3)]) (fun (q3:Bool)=>q3=(q2 || !EZ x && !uY x.text)) (by exact H.sub ⟨rfl,rfl,aD⟩) ?_ ?_
 ·intro Nq;refine kH H (Rm rfl (Sp 96 rfl ?_ ?_)) <;> clear H
  ·intro qj a H
   try have Ht:=dT qj
   refine kH H (cK qj rfl (Ku rfl (Ku rfl (Ku rfl (Ks qj rfl (Pt qj rfl ?_))))));clear H;intro a H;refine Nq (_) _ _ ?_ (by exact H.sub ⟨rfl,rfl,rfl,aD⟩);rw [← hwd];clear hst hwd hnm hck hcd;(try clear hq1);(try clear hq2);(try clear hq3);(try clear hq0);(try clear hq4);(try clear lI);(try clear lJ);(try clear lK);simp_all [uY]
  intro qj a H
  try have Ht:=dF qj
  refine kH H (YM qj rfl (YN qj rfl (YM qj rfl (Sp 99 rfl ?_ ?_)))) <;> clear H
  ·intro yX a H
   try have p99:=dT yX
   refine kH H (YF xE yX rfl (YO iB 0 yX rfl ?_));clear H;intro a H;refine agw H (wg H rfl rfl yX) rfl rfl rfl ?_;clear H;intro a H;refine kH H (PT qj yX rfl (Pf qj rfl ?_));clear H;intro a H;refine Nq (_) _ _ ?_ (by exact H.sub ⟨rfl,rfl,rfl,aD⟩);rw [← hwd];clear hst hwd hnm hck hcd;(try clear hq1);(try clear hq2);(try clear hq3);(try clear hq0);(try clear hq4);(try clear lI);(try clear lJ);(try clear lK);simp_all [uY]
  intro yX a H
  try have p99:=dF yX
  refine kH H (cK yX rfl (PF qj yX rfl (Pf qj rfl ?_)));clear H;intro a H;refine Nq (_) _ _ ?_ (by exact H.sub ⟨rfl,rfl,rfl,aD⟩);rw [← hwd];clear hst hwd hnm hck hcd;(try clear hq1);(try clear hq2);(try clear hq3);(try clear hq0);(try clear hq4);(try clear lI);(try clear lJ);(try clear lK);simp_all [uY]
 clear H;intro q3 a w hI H;dsimp only [lca,aV] at H;simp only [xq,sM];have hq3:=hI;refine zS (ι:=Bool) (Tc:=[(1,_),(3,_)]) 11 (fun (q4:Bool)=>[(115,.bool q4)]) (fun (q4:Bool)=>q4=(q3 || decide (x.kind≠6) && decide (0 < (x.flow.length:Int)))) (by exact H.sub ⟨rfl,rfl,aD⟩) ?_ ?_
 ·intro Nr;refine kH H (Rm rfl (Sp 105 rfl ?_ ?_)) <;> clear H
  ·intro oK a H
   try have Ey:=dT oK
   refine kH H (bO oK rfl (bO oK rfl (Ku rfl (Ku rfl (Ku rfl (Ku rfl (Ks oK rfl (Pt oK rfl ?_))))))));clear H;intro a H;refine Nr (_) _ _ ?_ (by exact H.sub ⟨rfl,rfl,rfl,aD⟩);clear hst hwd hnm hck hcd;(try clear hq1);(try clear hq2);(try clear hq3);(try clear hq0);(try clear hq4);(try clear lI);(try clear lJ);(try clear lK);simp_all
  intro oK a H
  try have Ey:=dF oK
  refine kH H (YF kV oK rfl (YO aC 0 oK rfl (YC oK rfl (YM oK rfl (Sp 109 rfl ?_ ?_))))) <;> clear H
  ·intro vZ a H
   try have afs:=dT vZ
   refine kH H (YF BR vZ rfl (YO jL 0 vZ rfl (YL oq vZ rfl (YC vZ rfl (PT oK vZ rfl (Pf oK rfl ?_))))));clear H;intro a H;refine Nr (_) _ _ ?_ (by exact H.sub ⟨rfl,rfl,rfl,aD⟩);clear hst hwd hnm hck hcd;(try clear hq1);(try clear hq2);(try clear hq3);(try clear hq0);(try clear hq4);(try clear lI);(try clear lJ);(try clear lK);simp_all
  intro vZ a H
  try have afs:=dF vZ
  refine kH H (bO vZ rfl (bO vZ rfl (PF oK vZ rfl (Pf oK rfl ?_))));clear H;intro a H;refine Nr (_) _ _ ?_ (by exact H.sub ⟨rfl,rfl,rfl,aD⟩);clear hst hwd hnm hck hcd;(try clear hq1);(try clear hq2);(try clear hq3);(try clear hq0);(try clear hq4);(try clear lI);(try clear lJ);(try clear lK);simp_all
 clear H;intro q4 a w hI H;dsimp only [lca,aV] at H;simp only [xq,sM];have hq4:=hI;refine zS (ι:=Bool) (Tc:=[(1,_),(3,_)]) 11 (fun (q5:Bool)=>[(126,.bool q5)]) (fun (q5:Bool)=>q5=Ar x) (by exact H.sub ⟨rfl,rfl,aD⟩) ?_ ?_
 ·intro Ns;refine kH H (Rm rfl (Sp 116 rfl ?_ ?_)) <;> clear H
  ·intro h116 a H
   try have afu:=dT h116
   refine kH H (bO h116 rfl (bO h116 rfl (Ku rfl (Ku rfl (Ku rfl (Ku rfl (Ks h116 rfl (Pt h116 rfl ?_))))))));clear H;intro a H;refine Ns (_) _ _ ?_ (by exact H.sub ⟨rfl,rfl,rfl,aD⟩);rw [show Ar x=(q4 || decide (x.kind≠7) && decide (0 < (x.rows.length:Int))) by rw [hq4,hq3,hq2,hq1];rfl];clear hq4;clear hst hwd hnm hck hcd;(try clear hq1);(try clear hq2);(try clear hq3);(try clear hq0);(try clear hq4);(try clear lI);(try clear lJ);(try clear lK);simp_all
  intro h116 a H
  try have afu:=dF h116
  refine kH H (YF kV h116 rfl (YO aC 0 h116 rfl (YC h116 rfl (YM h116 rfl (Sp 120 rfl ?_ ?_))))) <;> clear H
  ·intro wh a H
   try have afv:=dT wh
   refine kH H (YF yQ wh rfl (YO zQ 0 wh rfl (YL pq wh rfl (YC wh rfl (PT h116 wh rfl (Pf h116 rfl ?_))))));clear H;intro a H;refine Ns (_) _ _ ?_ (by exact H.sub ⟨rfl,rfl,rfl,aD⟩);rw [show Ar x=(q4 || decide (x.kind≠7) && decide (0 < (x.rows.length:Int))) by rw [hq4,hq3,hq2,hq1];rfl];clear hq4;clear hst hwd hnm hck hcd;(try clear hq1);(try clear hq2);(try clear hq3);(try clear hq0);(try clear hq4);(try clear lI);(try clear lJ);(try clear lK);simp_all
  intro wh a H
  try have afv:=dF wh
  refine kH H (bO wh rfl (bO wh rfl (PF h116 wh rfl (Pf h116 rfl ?_))));clear H;intro a H;refine Ns (_) _ _ ?_ (by exact H.sub ⟨rfl,rfl,rfl,aD⟩);rw [show Ar x=(q4 || decide (x.kind≠7) && decide (0 < (x.rows.length:Int))) by rw [hq4,hq3,hq2,hq1];rfl];clear hq4;clear hst hwd hnm hck hcd;(try clear hq1);(try clear hq2);(try clear hq3);(try clear hq0);(try clear hq4);(try clear lI);(try clear lJ);(try clear lK);simp_all
 clear H;intro q5 a w hI H;dsimp only [lca,aV] at H;simp only [xq,sM];have lI:=hI;refine kH H (ak aQ rfl (Cd rfl ?_ ?_)) <;> clear H aQ
 ·intro Ay a H
  refine bg (fun _ bH=>?_)
  have e:mq x=15:=by unfold mq;rw [ah f0,au (by rw [← lI];exact Ay)]
  exact kP H (SC (aU bH rfl (LR results166 rfl fun H=>H.rt ⟨by rw [e],rfl⟩)))
 intro Ay a H
 try have OV:=dF Ay
 have f1:¬ Ar x=true:=by rw [← lI,Ay];decide
 refine kP H (SR fun _ bR=>aO xE iB 0 rfl rfl ?_);clear H;intro a H;refine s_call DL H wn rfl (EY _ _ H.ro x.text hs) rfl ?_;clear H;rintro v130 _ a w ⟨rfl,rfl⟩ - H;refine kH H (Rn rfl (ak bR rfl (Cd rfl ?_ ?_))) <;> clear H bR
 ·intro h127 a H
  refine bg (fun _ bY=>?_)
  have e:mq x=12:=by unfold mq;rw [ah f0,ah f1,au (by simpa using h127)]
  exact kP H (SC (aU bY rfl (LR results166 rfl fun H=>H.rt ⟨by rw [e],rfl⟩)))
 intro h127 a H
 try have ajo:=dF h127
 have f2:¬ gU x.text=false:=by simpa using h127
 refine bK (fun _ bX=>?_);refine zS (ι:=Bool) (Tc:=[(1,_),(3,_)]) 13 (fun (q6:Bool)=>[(145,.bool q6)]) (fun (q6:Bool)=>q6=(decide (x.kind=1∨x.kind=5) && uY x.text)) (by exact H.sub ⟨rfl,rfl,aD⟩) ?_ ?_
 ·intro Nu;refine kH H (aO kV aC 0 rfl rfl (Rc rfl (Rm rfl (Sp 136 rfl ?_ ?_)))) <;> clear H
  ·intro yS a H
   try have afw:=dT yS
   refine kH H (cK yS rfl (Pt yS rfl (Rm rfl ?_)));clear H;intro a H;refine Kj xE H (wg H rfl rfl rfl) rfl rfl ?_;clear H;intro a H;refine zF iB H (wg H rfl rfl rfl) rfl (H.hp.kr 0 rfl rfl) rfl ?_;clear H;intro a H;refine CQ H (wg H rfl rfl rfl) rfl rfl rfl ?_;clear H;intro a H;refine kH H (Pt rfl rfl ?_);clear H;intro a H;refine Nu (_) _ _ ?_ (by exact H.sub ⟨rfl,rfl,rfl,aD⟩);clear hst hwd hnm hck hcd;(try clear hq1);(try clear hq2);(try clear hq3);(try clear hq0);(try clear hq4);(try clear lI);(try clear lJ);(try clear lK);simp_all [uY]
  intro yS a H
  try have afw:=dF yS
  refine kH H (YF kV yS rfl (YO aC 0 yS rfl (YC yS rfl (Pf yS rfl (Rm rfl (Sp 141 rfl ?_ ?_)))))) <;> clear H
  ·intro yT a H
   try have afx:=dT yT
   refine kH H (YF xE yT rfl (YO iB 0 yT rfl ?_));clear H;intro a H;refine CQ H (wg H rfl rfl yT) rfl rfl rfl ?_;clear H;intro a H;refine kH H (Pt yT rfl ?_);clear H;intro a H;refine Nu (_) _ _ ?_ (by exact H.sub ⟨rfl,rfl,rfl,aD⟩);clear hst hwd hnm hck hcd;(try clear hq1);(try clear hq2);(try clear hq3);(try clear hq0);(try clear hq4);(try clear lI);(try clear lJ);(try clear lK);simp_all [uY]
  intro yT a H
  try have afx:=dF yT
  refine kH H (cK yT rfl (Pf yT rfl ?_));clear H;intro a H;refine Nu (_) _ _ ?_ (by exact H.sub ⟨rfl,rfl,rfl,aD⟩);clear hst hwd hnm hck hcd;(try clear hq1);(try clear hq2);(try clear hq3);(try clear hq0);(try clear hq4);(try clear lI);(try clear lJ);(try clear lK);simp_all [uY]
 clear H;intro q6 a w hI H;dsimp only [lca,aV] at H;simp only [xq,sM];have lJ:=hI;refine kH H (ak bX rfl (Cd rfl ?_ ?_)) <;> clear H bX
 ·intro Jq a H
  refine bg (fun _ dO=>?_)
  have e:mq x=11:=by unfold mq;rw [ah f0,ah f1,ah f2,au (by rw [← lJ];exact Jq)]
  exact kP H (SC (aU dO rfl (LR results166 rfl fun H=>H.rt ⟨by rw [e],rfl⟩)))
 intro Jq a H
 try have ajp:=dF Jq
 have f3:¬ (decide (x.kind=1∨x.kind=5) && uY x.text)=true:=by rw [← lJ,Jq];decide
 refine bK (fun _ dJ=>?_);refine zS (ι:=Bool) (Tc:=[(1,_),(3,_)]) 9 (fun (q7:Bool)=>[(155,.bool q7)]) (fun (q7:Bool)=>q7=(decide (x.kind=5) && decide (1024 < (x.text.size:Int)))) (by exact H.sub ⟨rfl,rfl,aD⟩) ?_ ?_
 ·intro Tq;refine kH H (aO kV aC 0 rfl rfl (Rc rfl (Rm rfl (Sp 150 rfl ?_ ?_)))) <;> clear H
  ·intro wm a H
   try have afy:=dT wm
   refine kH H (YF xE wm rfl (YO iB 0 wm rfl ?_));clear H;intro a H;refine CU fC H (wg H rfl rfl wm) rfl rfl ?_;clear H;intro a H;refine kH H (YC wm rfl (Pt wm rfl ?_));clear H;intro a H;refine Tq (_) _ _ ?_ (by exact H.sub ⟨rfl,rfl,rfl,aD⟩);clear hst hwd hnm hck hcd;(try clear hq1);(try clear hq2);(try clear hq3);(try clear hq0);(try clear hq4);(try clear lI);(try clear lJ);(try clear lK);simp_all
  intro wm a H
  try have afy:=dF wm
  refine kH H (bO wm rfl (bO wm rfl (Pf wm rfl ?_)));clear H;intro a H;refine Tq (_) _ _ ?_ (by exact H.sub ⟨rfl,rfl,rfl,aD⟩);clear hst hwd hnm hck hcd;(try clear hq1);(try clear hq2);(try clear hq3);(try clear hq0);(try clear hq4);(try clear lI);(try clear lJ);(try clear lK);simp_all
 clear H;intro q7 a w hI H;dsimp only [lca,aV] at H;simp only [xq,sM];have lK:=hI;refine kH H (ak dJ rfl (Cd rfl ?_ ?_)) <;> clear H dJ
 ·intro Js a H
  refine bg (fun _ dD=>?_)
  have e:mq x=10:=by unfold mq;rw [ah f0,ah f1,ah f2,ah f3,au (by rw [← lK];exact Js)]
  exact kP H (SC (aU dD rfl (LR results166 rfl fun H=>H.rt ⟨by rw [e],rfl⟩)))
 intro Js a H
 try have ajq:=dF Js
 have f4:¬ (decide (x.kind=5) && decide (1024 < (x.text.size:Int)))=true:=by rw [← lK,Js];decide
 refine bK (fun _ dU=>?_);refine zS (ι:=Bool) (Tc:=[]) 7 (fun (q8:Bool)=>[(163,.bool q8)]) (fun (q8:Bool)=>q8=(EJ x && !pK x.text)) (by exact H.sub trivial) ?_ ?_
 ·intro Tt;refine kH H (Rm rfl (Rm rfl (Sp 158 rfl ?_ ?_))) <;> clear H
  ·intro wo a H
   try have afz:=dT wo
   refine kH H (YF xE wo rfl (YO iB 0 wo rfl ?_));clear H;intro a H;refine s_call ME H (wg H rfl rfl wo) rfl (Md _ _ H.ro x.text hs) rfl ?_;clear H;rintro aju _ a w ⟨rfl,rfl⟩ - H;refine kH H (YN wo rfl (Pt wo rfl ?_));clear H;intro a H;refine Tt (_) _ _ ?_ (by exact H.sub ⟨rfl,aD⟩);rw [← hst];clear hst hwd hnm hck hcd;(try clear hq1);(try clear hq2);(try clear hq3);(try clear hq0);(try clear hq4);(try clear lI);(try clear lJ);(try clear lK);simp_all
  intro wo a H
  try have afz:=dF wo
  refine kH H (bO wo rfl (bO wo rfl (Pf wo rfl ?_)));clear H;intro a H;refine Tt (_) _ _ ?_ (by exact H.sub ⟨rfl,aD⟩);rw [← hst];clear hst hwd hnm hck hcd;(try clear hq1);(try clear hq2);(try clear hq3);(try clear hq0);(try clear hq4);(try clear lI);(try clear lJ);(try clear lK);simp_all
 clear H;intro q8 a w hI H;dsimp only [lca,aV] at H;simp only [xq,sM];have hq8:=hI;refine kH H (ak dU rfl (Cd rfl ?_ ?_)) <;> clear H dU
 ·intro M4 a H
  refine bg (fun _ fP=>?_)
  have e:mq x=13:=by unfold mq;rw [ah f0,ah f1,ah f2,ah f3,ah f4,au (by rw [← hq8];exact M4)]
  exact kP H (SC (aU fP rfl (LR results166 rfl fun H=>H.rt ⟨by rw [e],rfl⟩)))
 intro M4 a H
 refine fQ ?_;refine K7 _ _ ?_;clear K7;refine bg (fun _ eG=>?_)
 have e:mq x=0:=by unfold mq;rw [ah f0,ah f1,ah f2,ah f3,ah f4,ah (by rw [← hq8,M4];decide)]
 exact kP H (SC (aU eG rfl (LR results166 rfl fun H=>H.rt ⟨by rw [e],rfl⟩)))
end
section
open Go.RowKit
structure CS where
 n:Int
 bE:List Int
abbrev CR:=Int × CS
def fH (r:CR) (f:CS→CR):CR:=if r.1≠0 then r else f r.2
theorem FI {r:CR} {f:CS→CR} (h:r.1=0):fH r f=f r.2:=by rw [fH,ah (fun h'=>h' h)]
theorem Iz {r:CR} {f:CS→CR} (h:r.1≠0):fH r f=r:=by rw [fH,au h]
def jH (s:CS) (x:Int):CR:=(oO s.bE x,⟨s.n,jG s.bE x⟩)
def kY (body note:Bool) (t k i:Int) (s:CS):CR :=
 if k=3 then (bS (!body) 19,s) else if k=6 then fH (bS note 19,s) fun s=>jH s i else if k=7 then fH (bS (decide (4≤t)) 17,s) fun s=>jH s i else if k=8 then (bS (!decide (1≤i∧i≤1073741824)) 18,s) else (0,s)
def CO (C:gV) (h:jm) (n:Nat):Int:=dB [iZ C 9 h,bS (decide ((n:Int)=0)) 11,bS (decide (32 < (n:Int))) 9]
def kQ (n:Nat) (f:CS→CR) (s:CS):CR:=if n=0 then (11,s) else if 256 < n then (9,s) else f s
mutual
def dV (C:gV) (body note:Bool) (t:Int):aB→CS→CR
 | .mk k c i tx h f r,s =>
  fH (mq (.mk k c i tx h f r),s) fun s=>fH (kY body note t k i ⟨s.n+(if k=1 then jg tx else 1:Nat),s.bE⟩) fun s=>fH (iZ C k h,s) fun s =>
   if k=6 then jk C false true t f s else if k=7 then kQ r.length (fun s=>iE C note (t+1) r s) s else (0,s)
def Bj (C:gV) (note:Bool) (t:Int):bC→CS→CR
 | .mk h cs,s=>fH (CO C h cs.length,s) fun s=>qR C note t cs s
def cellC (C:gV) (note:Bool) (t:Int):aY→CS→CR
 | .mk i h f,s=>fH (jH s i) fun s=>fH (iZ C 10 h,s) fun s=>jk C false note t f s
def jk (C:gV) (body note:Bool) (t:Int):List aB→CS→CR
 | [],s=>(0,s)
 | x :: r,s=>fH (dV C body note t x s) fun s=>jk C body note t r s
def iE (C:gV) (note:Bool) (t:Int):List bC→CS→CR
 | [],s=>(0,s)
 | x :: r,s=>fH (Bj C note t x s) fun s=>iE C note t r s
def qR (C:gV) (note:Bool) (t:Int):List aY→CS→CR
 | [],s=>(0,s)
 | x :: r,s=>fH (cellC C note t x s) fun s=>qR C note t r s
end
theorem OA (C:gV) (body note:Bool) (t:Int) (x:aB) (s:CS):dV C body note t x s=fH (mq x,s) fun s=>fH (kY body note t x.kind x.id ⟨s.n+(fF x:Nat),s.bE⟩) fun s=>fH (iZ C x.kind x.head,s) fun s =>
  if x.kind=6 then jk C false true t x.flow s else if x.kind=7 then kQ x.rows.length (fun s=>iE C note (t+1) x.rows s) s else (0,s):=by cases x;rw [dV];rfl
theorem J9 (C:gV) (note:Bool) (t:Int) (x:bC) (s:CS):Bj C note t x s=fH (CO C x.head x.cells.length,s) fun s=>qR C note t x.cells s:=by cases x;rw [Bj];rfl
theorem II (C:gV) (note:Bool) (t:Int) (x:aY) (s:CS):cellC C note t x s=fH (jH s x.id) fun s=>fH (iZ C 10 x.head,s) fun s=>jk C false note t x.flow s:=by cases x;rw [cellC];rfl
def Up (s:CS) (z:Nat) (r:CR):Prop:=s.n≤r.2.n∧r.2.n≤s.n+z
theorem Up.and {s:CS} {z y q:Nat} {r:CR} {f:CS→CR} (h:Up s z r) (hq:z+y≤q) (hf:∀ s,Up s y (f s)):Up s q (fH r f):=by
 obtain ⟨h1,h2⟩:=h
 unfold fH
 split
 ·exact ⟨h1,by omega⟩
 obtain ⟨h3,h4⟩:=hf r.2;exact ⟨by omega,by omega⟩
theorem Up.zero (s:CS) (e:Int) (q:Nat):Up s q (e,s):=⟨Int.le_refl _,by dsimp only;omega⟩
theorem Up.le {s:CS} {z y:Nat} {r:CR} (h:Up s z r) (hq:z≤y):Up s y r:=⟨h.1,by have:=h.2;omega⟩
theorem VZ (s:CS) (x:Int) (q:Nat):Up s q (jH s x):=⟨Int.le_refl _,by dsimp only [jH];omega⟩
theorem ahN (body note:Bool) (t k i:Int) (s:CS) (q:Nat):Up s q (kY body note t k i s):=by
 unfold kY
 (repeat' split) <;> first|exact Up.zero _ _ _|exact (Up.zero _ _ 0).and (y:=0) (by omega) fun s=>VZ _ _ _
mutual
theorem V3 (C:gV) (body note:Bool) (t:Int):∀ (x:aB) (s:CS),Up s (cB x.dat) (dV C body note t x s)
 | .mk k c i tx h f r,s=>by
  have hz:=ou (.mk k c i tx h f r);have hf:=KI C false true t f;have hr:=V4 C note (t+1) r;rw [dV];obtain ⟨u,hu'⟩:∃ u,u=(if k=1 then jg tx else 1:Nat):=⟨_,rfl⟩
  have hu:u≤tx.size+1:=by
   have:=yL tx
   rw [hu'];split <;> omega
  rw [← hu'];dsimp only [aB.text,aB.flow,aB.rows,aB.head] at hz;refine (Up.zero s _ 0).and (Nat.le_of_eq (mQ _)) fun s=>?_
  have h2:Up s (u) (kY body note t k i ⟨s.n+(u:Nat),s.bE⟩):=by
   obtain ⟨h3,h4⟩:=ahN body note t k i ⟨s.n+(u:Nat),s.bE⟩ 0;dsimp only at h3 h4;exact ⟨by omega,by omega⟩
  refine h2.and (y:=bG f+iV r) (by omega) fun s=>(Up.zero s _ 0).and (Nat.le_of_eq (mQ _)) fun s=>?_
  by_cases h6:k=6
  ·rw [au h6];exact (hf s).le (by omega)
  rw [ah h6]
  by_cases h7:k=7
  ·rw [au h7]
   unfold kQ
   by_cases c1:r.length=0
   ·rw [au c1];exact Up.zero _ _ _
   rw [ah c1]
   by_cases c2:256 < r.length
   ·rw [au c2];exact Up.zero _ _ _
   rw [ah c2];exact (hr s).le (by omega)
  rw [ah h7];exact Up.zero _ _ _
theorem ahO (C:gV) (note:Bool) (t:Int):∀ (x:bC) (s:CS),Up s (cB x.dat) (Bj C note t x s)
 | .mk h cs,s=>by
  have hz:=yu (.mk h cs);have hc:=VY C note t cs;rw [J9];dsimp only [bC.cells,bC.head] at hz ⊢;exact (Up.zero s _ 0).and (y:=lW cs) (by omega) fun s=>hc s
theorem ahM (C:gV) (note:Bool) (t:Int):∀ (x:aY) (s:CS),Up s (cB x.dat) (cellC C note t x s)
 | .mk i h f,s=>by
  have hz:=zT (.mk i h f);have hf:=KI C false note t f;rw [II];dsimp only [aY.flow,aY.head,aY.id] at hz ⊢;exact (VZ s _ 0).and (y:=bG f) (by omega) fun s=>(Up.zero s _ 0).and (Nat.le_of_eq (mQ _)) fun s=>hf s
theorem KI (C:gV) (body note:Bool) (t:Int):∀ (l:List aB) (s:CS),Up s (bG l) (jk C body note t l s)
 | [],s=>by rw [jk];exact Up.zero _ _ _
 | x :: r,s=>by
  rw [jk];exact (V3 C body note t x s).and (y:=bG r) (by simp only [bG,fG,dZ];omega) fun s=>KI C body note t r s
theorem V4 (C:gV) (note:Bool) (t:Int):∀ (l:List bC) (s:CS),Up s (iV l) (iE C note t l s)
 | [],s=>by rw [iE];exact Up.zero _ _ _
 | x :: r,s=>by
  rw [iE];exact (ahO C note t x s).and (y:=iV r) (by simp only [iV,fG,dZ];omega) fun s=>V4 C note t r s
theorem VY (C:gV) (note:Bool) (t:Int):∀ (l:List aY) (s:CS),Up s (lW l) (qR C note t l s)
 | [],s=>by rw [qR];exact Up.zero _ _ _
 | x :: r,s=>by
  rw [qR];exact (ahM C note t x s).and (y:=lW r) (by simp only [lW,fG,dZ];omega) fun s=>VY C note t r s
end
def om {α:Type} (f:α→CS→CR) (l:List α) (s:CS):Nat→CS
 | 0=>s
 | i+1=>match l[i]? with|some x=>(f x (om f l s i)).2|none=>om f l s i
def yM {α:Type} (f:α→CS→CR) (l:List α) (s:CS) (i:Nat):Int:=match l[i]? with|some x=>(f x (om f l s i)).1|none=>0
theorem Po {α:Type} (f:α→CS→CR) (x:α) (l:List α) (s:CS):∀ i,om f (x :: l) s (i+1)=om f l (f x s).2 i
 | 0=>rfl
 | i+1=>by
  have ih:=Po f x l s i
  simp only [om,List.getElem?_cons_succ] at ih ⊢
  rw [ih]
theorem abF {α:Type} (f:α→CS→CR) (x:α) (l:List α) (s:CS) (i:Nat):yM f (x :: l) s (i+1)=yM f l (f x s).2 i:=by
 unfold yM
 simp only [List.getElem?_cons_succ,Po]
theorem XJ (E:Nat→Int) (n:Nat):jV E (n+1)=if E 0≠0 then E 0 else jV (fun i=>E (i+1)) n:=by
 unfold jV
 rw [List.range_succ_eq_map,fG,dB,List.map_map]
 rfl
theorem Ul (C:gV) (body note:Bool) (t:Int):∀ (l:List aB) (s:CS),(jk C body note t l s).1=jV (yM (dV C body note t) l s) l.length∧((jk C body note t l s).1=0→(jk C body note t l s).2=om (dV C body note t) l s l.length)
 | [],s=>by rw [jk];exact ⟨rfl,fun _=>rfl⟩
 | x :: r,s=>by
  obtain ⟨h1,h2⟩:=Ul C body note t r (dV C body note t x s).2;have e0:yM (dV C body note t) (x :: r) s 0=(dV C body note t x s).1:=rfl;rw [jk,lX,XJ,e0,Po]
  simp only [abF]
  unfold fH
  split
  ·next h=>exact ⟨rfl,fun h0=>absurd h0 h⟩
  exact ⟨h1,h2⟩
theorem V5 (C:gV) (body note:Bool) (t:Int) (l:List aB) (s:CS):∀ i,i≤l.length→s.n≤(om (dV C body note t) l s i).n∧(om (dV C body note t) l s i).n+(bG (l.drop i):Nat)≤s.n+(bG l:Nat)
 | 0,_=>⟨Int.le_refl _,Int.le_refl _⟩
 | i+1,hi=>by
  have hi':i < l.length:=hi;obtain ⟨h1,h2⟩:=V5 C body note t l s i (by omega)
  have hs:om (dV C body note t) l s (i+1)=(dV C body note t l[i] (om (dV C body note t) l s i)).2:=by rw [om,gy hi']
  have hd:bG (l.drop i)=1+cB l[i].dat+bG (l.drop (i+1)):=by
   simp only [bG];rw [lu hi',fG,dZ]
  obtain ⟨h3,h4⟩:=V3 C body note t l[i] (om (dV C body note t) l s i);rw [hs];exact ⟨by omega,by omega⟩
end
section
open Go.RowKit
mutual
/-- The ids in items, in document order. -/
def Hg:aB→List Int
 | .mk k _ i _ _ f r=>(if k=6∨k=7 then [i] else [])++((if k=6 then zw f else [])++(if k=7 then Eo r else []))
def zw:List aB→List Int
 | []=>[]
 | x :: r=>Hg x++zw r
def Hl:bC→List Int
 | .mk _ c=>En c
def Eo:List bC→List Int
 | []=>[]
 | x :: r=>Hl x++Eo r
def Hf:aY→List Int
 | .mk i _ f=>i :: zw f
def En:List aY→List Int
 | []=>[]
 | x :: r=>Hf x++En r
end
end
section
open Go.RowKit
theorem nu {r:CR} {f:CS→CR} {s':CS} (h:fH r f=(0,s')):r.1=0∧f r.2=(0,s'):=by
 unfold fH at h
 split at h
 ·rename_i h1;rw [h] at h1;exact absurd rfl h1
 rename_i h1;exact ⟨mR.1 h1,h⟩
theorem RB {r:CR} (h:r.1=0):r=(0,r.2):=Prod.ext h rfl
structure jZ (a b c:List Int):Prop where
 eq:c=a++b
 nd:a.Nodup→c.Nodup
 pos:∀ i∈b,1≤i∧i≤1073741824
theorem jZ.nil (a:List Int):jZ a [] a:=⟨by simp,fun h=>h,fun i h=>by cases h⟩
theorem jZ.trans {a b c d e:List Int} (h:jZ a b c) (g:jZ c d e):jZ a (b++d) e:=⟨by rw [g.eq,h.eq,mg],fun h1=>g.nd (h.nd h1),fun i hi=>(sK.1 hi).elim (h.pos i) (g.pos i)⟩
theorem jZ.id {a:List Int} {x:Int} (h:oO a x=0):jZ a [x] (jG a x):=by
 unfold jG
 rw [au h]
 unfold oO at h
 by_cases h1:1≤x∧x≤1073741824
 ·rw [ah (fun h'=>h' h1)] at h
  by_cases h2:x∈a
  ·rw [au h2] at h;cases h
  exact ⟨rfl,fun h3=>List.nodup_append.2 ⟨h3,by simp,fun u hu v hv=>by rw [uS.1 hv];exact fun e=>h2 (e ▸ hu)⟩,fun i hi=>by rw [uS.1 hi];exact h1⟩
 rw [au h1] at h;cases h
theorem jZ.jH {s s':CS} {x:Int} (h:jH s x=(0,s')):jZ s.bE [x] s'.bE:=by
 unfold Go.Proofs.YtdacibabefnabaaGreat.jH at h
 injection h with h1 h2
 rw [← h2];exact jZ.id h1
theorem afK {body note:Bool} {t k i:Int} {s s':CS} (h:kY body note t k i s=(0,s')):jZ s.bE (if k=6∨k=7 then [i] else []) s'.bE:=by
 unfold kY at h
 by_cases h3:k=3
 ·rw [au h3] at h;injection h with _ h2;rw [ah (by omega),← h2];exact jZ.nil _
 rw [ah h3] at h
 by_cases h6:k=6
 ·rw [au h6] at h;rw [au (.inl h6)];exact jZ.jH (nu h).2
 rw [ah h6] at h
 by_cases h7:k=7
 ·rw [au h7] at h;rw [au (.inr h7)];exact jZ.jH (nu h).2
 rw [ah h7] at h;rw [ah (by omega)]
 by_cases h8:k=8
 ·rw [au h8] at h;injection h with _ h2;rw [← h2];exact jZ.nil _
 rw [ah h8] at h;injection h with _ h2;rw [← h2];exact jZ.nil _
theorem Vf {n:Nat} {f:CS→CR} {s s':CS} (h:kQ n f s=(0,s')):n≠0∧f s=(0,s'):=by
 unfold kQ at h
 split at h
 ·cases h
 rename_i h1
 split at h
 ·cases h
 exact ⟨h1,h⟩
mutual
theorem abQ (C:gV) (body note:Bool) (t:Int):∀ (x:aB) (s s':CS),dV C body note t x s=(0,s')→jZ s.bE (Hg x) s'.bE
 | .mk k c i tx h f r,s,s',e=>by
  have hf:=Jc C false true t f;have hr:=Sr C note (t+1) r;rw [dV] at e;obtain ⟨-,e⟩:=nu e;obtain ⟨e1,e⟩:=nu e;obtain ⟨-,e⟩:=nu e;have h1:=afK (RB e1);rw [Hg];refine h1.trans ?_
  by_cases h6:k=6
  ·rw [au h6] at e ⊢;rw [ah (show ¬ k=7 by omega),vN];exact hf _ _ e
  rw [ah h6] at e ⊢;rw [ko]
  by_cases h7:k=7
  ·rw [au h7] at e ⊢;exact hr _ _ (Vf e).2
  rw [ah h7] at e ⊢
  injection e with _ e
  rw [← e];exact jZ.nil _
theorem abS (C:gV) (note:Bool) (t:Int):∀ (x:bC) (s s':CS),Bj C note t x s=(0,s')→jZ s.bE (Hl x) s'.bE
 | .mk h cs,s,s',e=>by
  have hc:=Sq C note t cs;rw [J9] at e;rw [Hl];exact hc _ _ (nu e).2
theorem abP (C:gV) (note:Bool) (t:Int):∀ (x:aY) (s s':CS),cellC C note t x s=(0,s')→jZ s.bE (Hf x) s'.bE
 | .mk i h f,s,s',e=>by
  have hf:=Jc C false note t f;rw [II] at e;dsimp only [aY.id,aY.head,aY.flow] at e;obtain ⟨e1,e⟩:=nu e;have h1:=jZ.jH (s':=(jH s i).2) (Prod.ext e1 rfl);rw [Hf];exact h1.trans (hf _ _ (nu e).2)
theorem Jc (C:gV) (body note:Bool) (t:Int):∀ (l:List aB) (s s':CS),jk C body note t l s=(0,s')→jZ s.bE (zw l) s'.bE
 | [],s,s',e=>by rw [jk] at e;injection e with _ e;rw [← e];exact jZ.nil _
 | x :: r,s,s',e=>by
  rw [jk] at e;obtain ⟨e1,e⟩:=nu e;rw [zw];exact (abQ C body note t x s _ (Prod.ext e1 rfl)).trans (Jc C body note t r _ _ e)
theorem Sr (C:gV) (note:Bool) (t:Int):∀ (l:List bC) (s s':CS),iE C note t l s=(0,s')→jZ s.bE (Eo l) s'.bE
 | [],s,s',e=>by rw [iE] at e;injection e with _ e;rw [← e];exact jZ.nil _
 | x :: r,s,s',e=>by
  rw [iE] at e;obtain ⟨e1,e⟩:=nu e;rw [Eo];exact (abS C note t x s _ (Prod.ext e1 rfl)).trans (Sr C note t r _ _ e)
theorem Sq (C:gV) (note:Bool) (t:Int):∀ (l:List aY) (s s':CS),qR C note t l s=(0,s')→jZ s.bE (En l) s'.bE
 | [],s,s',e=>by rw [qR] at e;injection e with _ e;rw [← e];exact jZ.nil _
 | x :: r,s,s',e=>by
  rw [qR] at e;obtain ⟨e1,e⟩:=nu e;rw [En];exact (abP C note t x s _ (Prod.ext e1 rfl)).trans (Sq C note t r _ _ e)
end
def iG (l:List aB):Prop:=∃ (C:gV) (body note:Bool) (t:Int) (s s':CS),jk C body note t l s=(0,s')
structure Ad (x:aB):Prop where
 txt:gU x.text=true
 kd:1≤x.kind∧x.kind≤8
 rw0:x.kind≠7→x.rows=[]
 fl0:x.kind≠6→x.flow=[]
 fl:iG x.flow
 rw:∀ r∈x.rows,∀ c∈r.cells,iG c.flow
theorem afo:iG []:=⟨⟨[],[],[]⟩,false,false,0,⟨0,[]⟩,⟨0,[]⟩,by rw [jk]⟩
theorem acG {x:aB} (h:mq x=0):gU x.text=true∧(1≤x.kind∧x.kind≤8)∧(x.kind≠7→x.rows=[])∧(x.kind≠6→x.flow=[]):=by
 unfold mq at h
 split at h
 ·cases h
 rename_i h1
 split at h
 ·cases h
 rename_i h2
 split at h
 ·cases h
 rename_i h3
 have hk:decide (1≤x.kind∧x.kind≤8)=true:=by
  cases hd:decide (1≤x.kind∧x.kind≤8)
  ·rw [hd] at h1;exact absurd rfl h1
  rfl
 refine ⟨by simpa using h3,rF hk,fun h7=>?_,fun h6=>?_⟩
 ·rw [Bool.not_eq_true] at h2
  unfold Ar at h2
  simp only [Bool.or_eq_false_iff] at h2
  have h4:=h2.2;rw [kT h7,Ai,sO] at h4;exact List.length_eq_zero_iff.1 (by omega)
 rw [Bool.not_eq_true] at h2
 unfold Ar at h2
 simp only [Bool.or_eq_false_iff] at h2
 have h4:=h2.1.2;rw [kT h6,Ai,sO] at h4;exact List.length_eq_zero_iff.1 (by omega)
theorem cells_ok {C:gV} {note:Bool} {t:Int}:∀ {l:List aY} {s s':CS},qR C note t l s=(0,s')→∀ c∈l,iG c.flow
 | [],_,_,_,_,h=>by cases h
 | x :: r,s,s',e,c,h=>by
  rw [qR] at e;obtain ⟨e1,e⟩:=nu e
  rcases nS.1 h with rfl|h
  ·have e2:cellC C note t c s=(0,(cellC C note t c s).2):=Prod.ext e1 rfl
   generalize (cellC C note t c s).2=s2 at e2
   rw [II] at e2;exact ⟨C,false,note,t,_,_,(nu (nu e2).2).2⟩
  exact cells_ok e c h
theorem Vg {C:gV} {note:Bool} {t:Int}:∀ {l:List bC} {s s':CS},iE C note t l s=(0,s')→∀ r∈l,∀ c∈r.cells,iG c.flow
 | [],_,_,_,_,h=>by cases h
 | x :: r,s,s',e,q,h=>by
  rw [iE] at e;obtain ⟨e1,e⟩:=nu e
  rcases nS.1 h with rfl|h
  ·have e2:Bj C note t q s=(0,(Bj C note t q s).2):=Prod.ext e1 rfl
   generalize (Bj C note t q s).2=s2 at e2
   rw [J9] at e2;exact cells_ok (nu e2).2
  exact Vg e q h
theorem iG.head {x:aB} {l:List aB} (h:iG (x :: l)):Ad x∧iG l:=by
 obtain ⟨C,body,note,t,s,s',e⟩:=h;rw [jk] at e;obtain ⟨e1,e⟩:=nu e;have e2:dV C body note t x s=(0,(dV C body note t x s).2):=Prod.ext e1 rfl
 generalize (dV C body note t x s).2=s2 at e2
 refine ⟨?_,⟨C,body,note,t,_,_,e⟩⟩;rw [OA] at e2;obtain ⟨f1,e2⟩:=nu e2;(iterate 2 obtain ⟨-,e2⟩:=nu e2);obtain ⟨h1,h2,h3,h4⟩:=acG f1;refine ⟨h1,h2,h3,h4,?_,?_⟩
 ·by_cases h6:x.kind=6
  ·rw [au h6] at e2;exact ⟨_,_,_,_,_,_,e2⟩
  rw [h4 h6];exact afo
 by_cases h7:x.kind=7
 ·rw [ah (by omega),au h7] at e2;exact Vg (Vf e2).2
 rw [h3 h7];exact fun _ h=>by cases h
theorem iG.tail {x:aB} {l:List aB} (h:iG (x :: l)):iG l:=h.head.2
theorem iG.mem:∀ {l:List aB} {x:aB},iG l→x∈l→Ad x
 | y :: l,x,h,hx=>by
  rcases nS.1 hx with rfl|hx
  ·exact h.head.1
  exact iG.mem h.head.2 hx
theorem Ad.e {x:aB} (h:Ad x):qK x=0:=by unfold qK C9;rw [au h.txt];split <;> rfl
theorem Ad.n1 {x:aB} (h:Ad x):n1 x=fF x:=by unfold Go.Proofs.YtdacibabefnabaaGreat.n1;rw [au h.e]
theorem iG.div {l:List aB} (h:iG l):uW l=true:=by
 unfold uW
 rw [lY];exact fun x hx=>kT (h.mem hx).e
theorem iG.len {l:List aB} (h:iG l):qV l=oW l:=by unfold qV;rw [au h.div]
mutual
theorem aiq (note:Bool) (t:Int):∀ x:aB,((wS note t x).map jf.id).Sublist (Hg x)
 | .mk k c i tx h f r=>by
  have hf:=KL true t f;have hr:=Ww note t r;rw [wS,Hg]
  by_cases h6:k=6
  ·rw [au h6,au (.inl h6),au h6,ah (by omega),vN];exact List.Sublist.cons_cons _ hf
  rw [ah h6,ah h6,ko]
  by_cases h7:k=7
  ·rw [au h7,au h7,au (.inr h7)];exact List.Sublist.cons _ hr
  rw [ah h7];exact List.nil_sublist _
theorem KL (note:Bool) (t:Int):∀ l:List aB,((iT note t l).map jf.id).Sublist (zw l)
 | []=>by rw [iT];exact List.nil_sublist _
 | x :: l=>by
  rw [iT,zw,sN];exact (aiq note t x).append (KL note t l)
theorem air (note:Bool) (t:Int):∀ x:bC,((wT note t x).map jf.id).Sublist (Hl x)
 | .mk h cs=>by rw [wT,Hl];exact Wv note t cs
theorem Ww (note:Bool) (t:Int):∀ l:List bC,((pz note t l).map jf.id).Sublist (Eo l)
 | []=>by rw [pz];exact List.nil_sublist _
 | x :: l=>by
  rw [pz,Eo,sN];exact (air note t x).append (Ww note t l)
theorem aip (note:Bool) (t:Int):∀ x:aY,((wR note t x).map jf.id).Sublist (Hf x)
 | .mk i h f=>by rw [wR,Hf];exact List.Sublist.cons_cons _ (KL note (t+1) f)
theorem Wv (note:Bool) (t:Int):∀ l:List aY,((pV note t l).map jf.id).Sublist (En l)
 | []=>by rw [pV];exact List.nil_sublist _
 | x :: l=>by
  rw [pV,En,sN];exact (aip note t x).append (Wv note t l)
end
structure Dj (l:List aB):Prop where
 ok:iG l
 nd:(zw l).Nodup
 pos:∀ i∈zw l,1≤i∧i≤1073741824
theorem Dj.of {C:gV} {body note:Bool} {t n:Int} {l:List aB} {s':CS} (h:jk C body note t l ⟨n,[]⟩=(0,s')):Dj l:=by
 have he:=Jc C body note t l _ _ h;have hn:=he.nd List.nodup_nil;rw [he.eq] at hn;exact ⟨⟨C,body,note,t,_,_,h⟩,by simpa using hn,he.pos⟩
theorem Dj.ids {l:List aB} (h:Dj l):((ji l).map jf.id).Nodup:=by
 have hs:=KL false 0 l;rw [ji,fG,List.nodup_cons];exact ⟨fun hm=>by have:=h.pos _ (hs.subset hm);dsimp only at this;omega,hs.nodup h.nd⟩
end
end Go.Proofs.YtdacibabefnabaaGreat
