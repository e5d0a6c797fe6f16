/-
  What the claim stands on, part 7: Sh24 Cu Bln Rtx Vl24 Vm24 Sw24 Brd Brs.
-/
import Derived.Test.YtdiflmikikiedaaGreatWlf
import Derived.ProofKit
import Derived.Deep.Slices
import Derived.Laws.StructEq
namespace Go.Proofs.YtdiflmikikiedaaGreat
set_option linter.all false
open Go.Proofs.Tryz
open Go.RowKit
abbrev vP:=Int × List ak
mutual
/-- The flows within, with their ids. -/
def sP:ak->List vP
 | .mk k _ i _ _ f r=>if k=6 then (i,f) :: iM f else if k=7 then pU r else []
def iM:List ak->List vP
 | []=>[]
 | x :: l=>sP x++iM l
def Cx:aO->List vP
 | .mk _ cs=>qI cs
def pU:List aO->List vP
 | []=>[]
 | x :: l=>Cx x++pU l
def Cw:aQ->List vP
 | .mk i _ f=>(i,f) :: iM f
def qI:List aQ->List vP
 | []=>[]
 | x :: l=>Cw x++qI l
end
def Il (f:jF):vP:=(f.id,f.items)
mutual
theorem aum (note:Bool) (t:Int):∀ x:ak,(zM note t x).map Il=sP x
 | .mk k c i tx h f r=>by
  have hf:=RB true t f;have hr:=agW note t r;rw [zM,sP]
  split
  ·rw [dO,hf];rfl
  split
  ·exact hr
  rfl
theorem RB (note:Bool) (t:Int):∀ l:List ak,(lu note t l).map Il=iM l
 | []=>by rw [lu,iM];rfl
 | x :: l=>by rw [lu,iM,ji,aum note t x,RB note t l]
theorem aun (note:Bool) (t:Int):∀ x:aO,(zN note t x).map Il=Cx x
 | .mk h cs=>by rw [zN,Cx];exact agV note t cs
theorem agW (note:Bool) (t:Int):∀ l:List aO,(rQ note t l).map Il=pU l
 | []=>by rw [rQ,pU];rfl
 | x :: l=>by rw [rQ,pU,ji,aun note t x,agW note t l]
theorem aul (note:Bool) (t:Int):∀ x:aQ,(zL note t x).map Il=Cw x
 | .mk i h f=>by rw [zL,Cw,dO,RB note (t+1) f];rfl
theorem agV (note:Bool) (t:Int):∀ l:List aQ,(sI note t l).map Il=qI l
 | []=>by rw [sI,qI];rfl
 | x :: l=>by rw [sI,qI,ji,aul note t x,agV note t l]
end
theorem agU (l:List ak):(qg l).map Il=(0,l) :: iM l:=by
 rw [qg,dO,RB];rfl
theorem agH {l:List ak} (h:Hg l) {p:vP} (hp:p∈(0,l) :: iM l):tO l p.1=some p.2:=by
 rw [<- agU] at hp;obtain ⟨f,hf,rfl⟩:=List.mem_map.1 hp
 unfold tO
 show ((qg l).find? fun g=>decide (g.id=f.id)).map jF.items=_
 rw [atO h.ids hf];rfl
theorem NP:∀ a b:List ak,iM (a++b)=iM a++iM b
 | [],b=>by simp [iM]
 | x :: a,b=>by simp [iM,NP a b]
theorem agO:∀ a b:List aO,pU (a++b)=pU a++pU b
 | [],b=>by simp [pU]
 | x :: a,b=>by simp [pU,agO a b]
theorem agM:∀ a b:List aQ,qI (a++b)=qI a++qI b
 | [],b=>by simp [qI]
 | x :: a,b=>by simp [qI,agM a b]
theorem agN (x:ak):sP x=if x.kind=6 then (x.id,x.flow) :: iM x.flow else if x.kind=7 then pU x.rows else []:=by cases x;rw [sP];rfl
theorem Rz {x:ak} (h:x.kind=1):sP x=[]:=by rw [agN,bU,bU]
theorem auj (out:List ak) (y:ak):iM (addN out y)=iM out++sP y:=by
 have one:iM [y]=sP y:=by rw [iM,iM,fG]
 by_cases hd:qG y
 ·rw [E8 hd]
  rcases hd with ⟨h7,hr⟩|⟨h1,-⟩
  ·rw [agN,bU,ay h7,List.eq_nil_of_length_eq_zero hr,pU,fG]
  rw [Rz h1,fG]
 by_cases hj:∃ o z,out=o++[z]∧pE z y
 ·obtain ⟨o,z,rfl,hz⟩:=hj;rw [zU hd hz,NP,NP,iM,iM,iM,iM,Rz (show (mJ z y).kind=1 from hz.2.1),Rz hz.2.1,Rz hz.1]
  simp
 rw [AQ hd fun o z e h=>hj ⟨o,z,e,h⟩,NP,one]
theorem RA:∀ (A out:List ak),iM (A.foldl addN out)=iM out++iM A
 | [],out=>by rw [List.foldl_nil,iM,fG]
 | y :: A,out=>by rw [List.foldl_cons,RA A,auj,iM,iL]
abbrev Gg (p:vP):vP:=(p.1,iA p.2)
mutual
theorem aud:∀ x:ak,sP (nI x)=(sP x).map Gg
 | .mk k c i tx h f r=>by
  have hf:=Ry f;have hr:=agK r;rw [nI,sP,sP]
  split
  ·rw [dO,RA,iM,jA,hf,<- wH]
  split
  ·exact hr
  rfl
theorem Ry:∀ l:List ak,iM (lV l)=(iM l).map Gg
 | []=>by rw [lV,iM];rfl
 | x :: l=>by rw [lV,iM,iM,ji,aud x,Ry l]
theorem aue:∀ x:aO,Cx (nR x)=(Cx x).map Gg
 | .mk h cs=>by rw [nR,Cx,Cx];exact agJ cs
theorem agK:∀ l:List aO,pU (kW l)=(pU l).map Gg
 | []=>by rw [kW,pU];rfl
 | x :: l=>by rw [kW,pU,pU,ji,aue x,agK l]
theorem auc:∀ x:aQ,Cw (nC x)=(Cw x).map Gg
 | .mk i h f=>by
  have hf:=Ry f;rw [nC,Cw,Cw,dO,RA,iM,jA,hf,<- wH]
theorem agJ:∀ l:List aQ,qI (kV l)=(qI l).map Gg
 | []=>by rw [kV,qI];rfl
 | x :: l=>by rw [kV,qI,qI,ji,auc x,agJ l]
end
theorem agP (l:List ak):iM (iA l)=(iM l).map Gg:=by rw [wH,RA,iM,jA,Ry]
theorem NR (h:dD):lS cT cF h↔¬ mU h=true:=by
 unfold lS mU
 rw [lD]
 constructor
 ·rintro (⟨-,h⟩|⟨x,hx,-⟩)
  ·cases h
  intro h0;rw [List.eq_nil_of_length_eq_zero h0] at hx;cases hx
 intro h0;obtain ⟨x,t,e⟩:=List.exists_cons_of_ne_nil (fun e=>h0 (by rw [e];rfl):h.marks.bD≠[]);exact .inr ⟨x,by rw [e];exact dV,M⟩
theorem akz (x:aQ):oz cT cF x=if mU x.head=true then [.mk x.id (gL cT cF x.head) (bZ cT cF x.flow)] else []:=by
 rw [aad]
 by_cases h:mU x.head=true
 ·rw [ay h,au fun hg=>(NR _).1 hg h]
 rw [au h,ay ((NR _).2 h)]
theorem akA:∀ l:List aQ,(fK cT cF l).length=0↔(l.findIdx? fun c=>mU c.head).isSome=false
 | []=>by rw [fK];simp
 | x :: l=>by
  have ih:=akA l;rw [fK,akz,gF,List.findIdx?_cons]
  by_cases h:mU x.head=true
  ·rw [ay h,ay h];simp
  rw [au h,au h]
  simpa using ih
theorem acS {p:Prop} (h:p:=by
 have h':mU x.head=false:=by simpa using h
 rw [ay ((NR _).2 h),h',Hq];rfl):p:=h
theorem akE (x:aO):nS cT cF x=if rP x=true then [.mk (gL cT cF x.head) (fK cT cF x.cells)] else []:=by
 rw [aah];have hc:=akA x.cells
 unfold rP
 by_cases h:mU x.head=true
 ·rw [au fun hg=>(NR _).1 hg h,h,E9]
  cases hf:(x.cells.findIdx? fun c=>mU c.head).isSome with
  | false=>rw [ay (hc.2 hf)];rfl
  | true=>rw [au fun h0=>by rw [hc.1 h0] at hf;cases hf];rfl
 exact acS
theorem akF:∀ l:List aO,(fZ cT cF l).length=0↔(l.findIdx? rP).isSome=false
 | []=>by rw [fZ];simp
 | x :: l=>by
  have ih:=akF l;rw [fZ,akE,gF,List.findIdx?_cons]
  by_cases h:rP x=true
  ·rw [ay h,ay h];simp
  rw [au h,au h]
  simpa using ih
theorem akC (x:ak):mK cT cF x=if nT x=true then (if x.kind=6 then [.mk x.kind x.code x.id x.text (gL cT cF x.head) (bZ cT cF x.flow) x.rows] else if x.kind=7 then [.mk x.kind x.code x.id x.text (gL cT cF x.head) x.flow (fZ cT cF x.rows)] else [.mk x.kind x.code x.id x.text (gL cT cF x.head) x.flow x.rows]) else []:=by
 rw [OX];have hr:=akF x.rows
 unfold nT
 by_cases h:mU x.head=true
 ·rw [au fun hg=>(NR _).1 hg h,h,E9]
  by_cases h6:x.kind=6
  ·rw [ay h6,ay h6,mY (show x.kind≠7 by omega)];rfl
  rw [au h6,au h6]
  by_cases h7:x.kind=7
  ·rw [ay h7,ay h7,qE (fun h=>h h7),Bool.false_or]
   cases hf:(x.rows.findIdx? rP).isSome with
   | false=>rw [ay (hr.2 hf)];rfl
   | true=>rw [au fun h0=>by rw [hr.1 h0] at hf;cases hf];rfl
  rw [au h7,au h7,mY h7];rfl
 exact acS
theorem aBr (k c i:Int) (tx:ByteArray) (h:dD) (f:List ak) (r:List aO):mK cT cF (.mk k c i tx h f r)=if nT (.mk k c i tx h f r)=true then (if k=6 then [.mk k c i tx (gL cT cF h) (bZ cT cF f) r] else if k=7 then [.mk k c i tx (gL cT cF h) f (fZ cT cF r)] else [.mk k c i tx (gL cT cF h) f r]) else []:=akC (.mk k c i tx h f r)
theorem aBu (h:dD) (cs:List aQ):nS cT cF (.mk h cs)=if rP (.mk h cs)=true then [.mk (gL cT cF h) (fK cT cF cs)] else []:=akE (.mk h cs)
theorem aBn (i:Int) (h:dD) (f:List ak):oz cT cF (.mk i h f)=if mU h=true then [.mk i (gL cT cF h) (bZ cT cF f)] else []:=akz (.mk i h f)
def JW (C:aV) (l:List ak):Prop:=∃ body note t,iN C body note t l
abbrev rsP (p:vP):vP:=(p.1,bZ cT cF p.2)
def Sub (C:aV) (a b:List vP) (ids:List Int):Prop:=a.map Prod.fst=ids∧∀ p∈a,∃ q∈b,JW C q.2∧p=rsP q
theorem Sub.nil (C:aV) (b:List vP):Sub C [] b []:=⟨M,fun _ h=>(by cases h)⟩
theorem Sub.app {C:aV} {a b a' b':List vP} {i i':List Int} (h:Sub C a b i) (h':Sub C a' b' i'):Sub C (a++a') (b++b') (i++i') :=
 ⟨by rw [ji,h.1,h'.1],fun p hp=>(kC.1 hp).elim (fun hp=>let ⟨q,h1,h2⟩:=h.2 p hp;⟨q,List.mem_append_left _ h1,h2⟩) fun hp=>let ⟨q,h1,h2⟩:=h'.2 p hp;⟨q,List.mem_append_right _ h1,h2⟩⟩
theorem Sub.cons {C:aV} {a b:List vP} {i:List Int} {id:Int} {f:List ak} (hf:JW C f) (h:Sub C a b i):Sub C ((id,bZ cT cF f) :: a) ((id,f) :: b) (id :: i) :=
 ⟨by rw [dO,h.1],fun p hp=>(gu.1 hp).elim (fun e=>⟨(id,f),dV,hf,e⟩) fun hp=>let ⟨q,h1,h2⟩:=h.2 p hp;⟨q,gI _ h1,h2⟩⟩
mutual
theorem aCG (C:aV) (body note:Bool) (t:Int):∀ x:ak,mh C body note t x->Sub C (iM (mK cT cF x)) (sP x) (FY x)
 | .mk k c i tx h f r,hx=>by
  have hf:=O6 C false true t f;have hr:=alg C note (t+1) r;have hx0:=(Gj _).1 hx;obtain ⟨-,-,fr,-⟩:=DW hx0.1;have hfl:=hx0.2.2.2.1;have hro:=hx0.2.2.2.2;dsimp only [ak.kind,ak.rows,ak.flow] at fr hfl hro
  have one:∀ y:ak,iM [y]=sP y:=fun y=>by rw [iM,iM,fG]
  have k0:rG []=[]:=by rw [rG]
  rw [aBr,FY]
  by_cases hs:nT (.mk k c i tx h f r)=true
  ·rw [ay hs,ay hs]
   by_cases h6:k=6
   ·rw [ay h6,ay h6,one,sP,sP,ay h6,ay h6,fr O,k0,fG];exact Sub.cons ⟨_,_,_,hfl h6⟩ (hf (hfl h6))
   rw [au h6,au h6,jA]
   by_cases h7:k=7
   ·rw [ay h7,one,sP,sP,au h6,ay h7,au h6,ay h7];exact hr (hro h7).2
   rw [au h7,one,sP,sP,au h6,au h7,fr h7,k0];exact Sub.nil _ _
  rw [au hs,au hs,iM];exact Sub.nil _ _
theorem aCH (C:aV) (note:Bool) (t:Int):∀ x:aO,pI C note t x->Sub C (pU (nS cT cF x)) (Cx x) (FZ x)
 | .mk h cs,hx=>by
  have hc:=alf C note t cs;rw [pI] at hx;rw [aBu,FZ]
  by_cases hs:rP (.mk h cs)=true
  ·rw [ay hs,ay hs,pU,pU,fG,Cx,Cx];exact hc hx.2
  rw [au hs,au hs,pU];exact Sub.nil _ _
theorem aCF (C:aV) (note:Bool) (t:Int):∀ x:aQ,pG C note t x->Sub C (qI (oz cT cF x)) (Cw x) (FX x)
 | .mk i h f,hx=>by
  have hf:=O6 C false note t f;rw [pG] at hx;rw [aBn,FX]
  by_cases hs:mU h=true
  ·rw [ay hs,ay hs,qI,qI,fG,Cw,Cw];exact Sub.cons ⟨_,_,_,hx.2⟩ (hf hx.2)
  rw [au hs,au hs,qI];exact Sub.nil _ _
theorem O6 (C:aV) (body note:Bool) (t:Int):∀ l:List ak,iN C body note t l->Sub C (iM (bZ cT cF l)) (iM l) (iH l)
 | [],_=>by rw [bZ,iM,iH];exact Sub.nil _ _
 | x :: l,h=>by
  rw [iN] at h;rw [bZ,NP,iM,iH];exact (aCG C body note t x h.1).app (O6 C body note t l h.2)
theorem alg (C:aV) (note:Bool) (t:Int):∀ l:List aO,kJ C note t l->Sub C (pU (fZ cT cF l)) (pU l) (rG l)
 | [],_=>by rw [fZ,pU,rG];exact Sub.nil _ _
 | x :: l,h=>by
  rw [kJ] at h;rw [fZ,agO,pU,rG];exact (aCH C note t x h.1).app (alg C note t l h.2)
theorem alf (C:aV) (note:Bool) (t:Int):∀ l:List aQ,lg C note t l->Sub C (qI (fK cT cF l)) (qI l) (sw l)
 | [],_=>by rw [fK,qI,sw];exact Sub.nil _ _
 | x :: l,h=>by
  rw [lg] at h;rw [fK,agM,qI,sw];exact (aCF C note t x h.1).app (alf C note t l h.2)
end
theorem Pb (a b:List ak):jD (a++b)=jD a++jD b:=by simp [jD]
theorem JB (x:ak):jD [x]=(jB x).data.toList:=by simp [jD]
theorem aDk {out:List ak} {y:ak} (h:¬ (y.kind=7∧y.rows.length=0)):jD (addN out y)=jD out++(jB y).data.toList:=by
 by_cases hd:qG y
 ·rw [E8 hd]
  rcases hd with h7|⟨h1,ht⟩
  ·exact absurd h7 h
  have e:(jB y).data.toList=[]:=by
   apply List.eq_nil_of_length_eq_zero
   unfold jB
   rw [ay h1];exact (pY).trans ht
  rw [e,fG]
 by_cases hj:∃ o z,out=o++[z]∧pE z y
 ·obtain ⟨o,z,rfl,hz⟩:=hj;rw [zU hd hz,Pb,Pb,JB,JB,iL]
  congr 1
  have e1:jB (mJ z y)=z.text++y.text:=ay hz.2.1;have e2:jB z=z.text:=ay hz.2.1;have e3:jB y=y.text:=ay hz.1;rw [e1,e2,e3];simp
 rw [AQ hd fun o z e h=>hj ⟨o,z,e,h⟩,Pb,JB]
theorem aoL (x:ak):jB (nI x)=jB x:=by rw [SL];rfl
theorem alJ:∀ (A out:List ak),(∀ y∈A,¬ (y.kind=7∧y.rows.length=0))->jD (A.foldl addN out)=jD out++jD A
 | [],out,_=>by rw [List.foldl_nil,show jD []=[] from rfl,fG]
 | y :: A,out,h=>by
  rw [List.foldl_cons,alJ A _ fun z hz=>h z (gI _ hz),aDk (h y dV),iL,<- JB,<- Pb];rfl
theorem aDl {l:List ak} (h:∀ y∈l,¬ (y.kind=7∧y.rows.length=0)):jD (iA l)=jD l:=by
 rw [wH,Jk,alJ _ _ fun y hy=>?_,show jD []=[] from rfl,jA]
 ·unfold jD
  rw [List.flatMap_map,List.flatMap_def,List.flatMap_def,List.map_congr_left fun x _=>by rw [aoL]]
 obtain ⟨x,hx,rfl⟩:=List.mem_map.1 hy;rw [SL];intro hq;refine h x hx ⟨hq.1,?_⟩;have h2:(x.rows.map nR).length=0:=hq.2
 rwa [bK] at h2
theorem Wh {x:ak} {h:dD} {f:List ak} {r:List aO}:jB (.mk x.kind x.code x.id x.text h f r)=jB x:=by cases x;rfl
theorem alK:∀ l:List ak,jD (bZ cT cF l)=wO l
 | []=>by rw [bZ];rfl
 | x :: l=>by
  have ih:=alK l;rw [bZ,Pb,ih,show wO (x :: l)=(if nT x=true then (jB x).data.toList else [])++wO l by simp [wO]]
  congr 1
  rw [akC]
  by_cases hs:nT x=true
  ·rw [ay hs,ay hs]
   split
   ·rw [JB,Wh]
   split
   ·rw [JB,Wh]
   rw [JB,Wh]
  rw [au hs,au hs];rfl
theorem aBw {C:aV} {body note:Bool} {t:Int} {l:List ak} (h:iN C body note t l):∀ y∈bZ cT cF l,¬ (y.kind=7∧y.rows.length=0):=fun y hy hq=>by
 have h1:=(OV (acc:=cT) (rej:=cF) C body note t l h).1;exact (((Gj y).1 (Aj.1 h1 y hy)).2.2.2.2 hq.1).1.1 hq.2
theorem atK {C:aV} {l:List ak} (h:JW C l):jD (iA (bZ cT cF l))=wO l:=by
 obtain ⟨body,note,t,h⟩:=h;rw [aDl (aBw h),alK]
theorem auh {x:ak} (h:kZ x=0) (hk:x.kind=1):x.text.size≠0:=by
 unfold kZ at h
 split at h
 ·cases h
 split at h
 ·cases h
 split at h
 ·cases h
 split at h
 ·cases h
 rename_i h2
 rw [mY (Or.inl hk),E9] at h2;intro h0
 apply h2
 have:x.text=⟨#[]⟩:=ByteArray.ext (Array.eq_empty_of_size_eq_zero h0);rw [this];unfold vk;exact beq_self_eq_true _
theorem azY {C:aV} {l:List ak} (h:JW C l):(∀ x∈l,lX (jB x)=true∧oU (jB x)=n1 x)∧∀ x∈l,x.kind=1->x.text.size≠0:=by
 obtain ⟨body,note,t,h⟩:=h;refine ⟨fun x hx=>?_,fun x hx=>auh ((Gj x).1 (Aj.1 h x hx)).1⟩;have hv:=(DW ((Gj x).1 (Aj.1 h x hx)).1).1
 have he:Av x=0:=by unfold Av JF;rw [ay hv];split <;> rfl
 unfold n1 jB jo
 rw [ay he]
 by_cases h1:x.kind=1
 ·rw [ay h1,ay h1];exact ⟨hv,M⟩
 rw [au h1,au h1];exact (Wi x).1
theorem alh {d:gX} (h:iQ d=0):(qg (nD (kK cT cF d)).flow).map jF.id=0 :: iH d.flow:=by
 obtain ⟨-,-,g4,-,-⟩:=(yV _).1 h;have e1:=cO (List.map Prod.fst) (agU (iA (bZ cT cF d.flow)));rw [List.map_map,dO,agP,List.map_map] at e1;have e2:=(O6 d.jT true false 0 d.flow g4).1
 show (qg (iA (bZ cT cF d.flow))).map jF.id=_
 refine e1.trans ?_;rw [<- e2];rfl
theorem aCI {d:gX} (h:iQ d=0) {i:Nat} (hi:i < (0 :: iH d.flow).length):∃ L,tO d.flow (0 :: iH d.flow)[i]=some L∧JW d.jT L∧tO (nD (kK cT cF d)).flow (0 :: iH d.flow)[i]=some (iA (bZ cT cF L)):=by
 obtain ⟨-,-,g4,-,-⟩:=(yV _).1 h;have hs:=O6 d.jT true false 0 d.flow g4;have hS:Sub d.jT ((0,bZ cT cF d.flow) :: iM (bZ cT cF d.flow)) ((0,d.flow) :: iM d.flow) (0 :: iH d.flow):=Sub.cons ⟨_,_,_,g4⟩ hs
 have hl:i < ((0,bZ cT cF d.flow) :: iM (bZ cT cF d.flow)).length:=by
  have:=cO List.length hS.1;rw [bK] at this;omega
 obtain ⟨q,hq,hok,e⟩:=hS.2 _ (jS hl)
 have e1:(0 :: iH d.flow)[i]=q.1:=by
  have h1:(((0,bZ cT cF d.flow) :: iM (bZ cT cF d.flow)).map Prod.fst)[i]?=some (0 :: iH d.flow)[i]:=by rw [hS.1,eB hi]
  rw [qD,eB hl,e] at h1
  simpa using h1.symm
 rw [e1];have h2:=agH (ajS h) hq
 have hm:(q.1,iA (bZ cT cF q.2))∈(0,iA (bZ cT cF d.flow)) :: iM (iA (bZ cT cF d.flow)):=by
  rw [agP]
  have h3:rsP q∈(0,bZ cT cF d.flow) :: iM (bZ cT cF d.flow):=by rw [<- e];exact jS hl
  have h4:=List.mem_map_of_mem (f:=Gg) h3;exact h4
 have h3:=agH (ajS (ajA (TB (acc:=cT) (rej:=cF) h))) (p:=(q.1,iA (bZ cT cF q.2))) hm;exact ⟨q.2,h2,hok,h3⟩
section
section
variable {N:Nat} {D:List Deferred} {w0:World} {F:Nat->Prop} {G0 G:GH} {L:OL} {T:List (Nat × ah)}
variable {r:Option Nat} {P:Program} {ops:Array Oper} {Q:Exit->Act->World->Prop} {rest:List Oper} {a:Act} {w:World}
variable {d:Nat} {ty:TypeId} {pos:String} {aL:Array Edge} {g:Option (Nat × Bool)}
theorem aB5 {t:TypeId} {x:Operand} {n c:Nat} (H:St N D w0 F G0 G L T a w) (hw:Region.wanted ⟨some d,.call { callee:=.builtin .unsafeSliceData,args:=#[x],argTypes:=#[t] },ty,pos,aL,g⟩ (yielded ops a.tmps)=true) (hx:ev T x=some (.slice none n c)) (hd:Nat.blt d N=true)
  (k:∀ a',St N D w0 F G0 G L ((d,.pointer none) :: T) a' w->WL r P ops Q rest a' w):WL r P ops Q (⟨some d,.call { callee:=.builtin .unsafeSliceData,args:=#[x],argTypes:=#[t] },ty,pos,aL,g⟩ :: rest) a w:=by
 refine fI (v:=.pointer none) (w':=w) hw M ?_ (k _ (H.put hd _ H.hp))
 have h:=Lib.run_unsafeSliceData_nil (P:=P) (w:=w) #[t] ty n c
 simp [execOp,resolve,invoke,builtin,H.ev hx,dP,h]
theorem aB9 {pt it:TypeId} {x y:Operand} {p:Option Addr} (H:St N D w0 F G0 G L T a w)
  (hw:Region.wanted ⟨some d,.call { callee:=.builtin .unsafeString,args:=#[x,y],argTypes:=#[pt,it] },ty,pos,aL,g⟩ (yielded ops a.tmps)=true) (hx:ev T x=some (.pointer p)) (hy:ev T y=some (.int .i64 0)) (hd:Nat.blt d N=true)
  (k:∀ a',St N D w0 F G0 G L ((d,.string ⟨#[]⟩) :: T) a' w->WL r P ops Q rest a' w):WL r P ops Q (⟨some d,.call { callee:=.builtin .unsafeString,args:=#[x,y],argTypes:=#[pt,it] },ty,pos,aL,g⟩ :: rest) a w:=by
 have h:=Lib.run_unsafeString_none (P:=P) (w:=w) pt it ty p
 refine fI (v:=.string ⟨#[]⟩) (w':=w) hw M ?_ (k _ (H.put hd _ H.hp))
 simp [execOp,resolve,invoke,builtin,H.ev hx,H.ev hy,dP,h]
 rfl
end
end
theorem aol (a b:List UInt8):Lib.byteCells (a++b)=Lib.byteCells a++Lib.byteCells b:=by simp [Lib.byteCells]
theorem aDb (G:GH) (Lo:OL) (w0:World) (b:Nat) (p:ah) (hO:gq G (bB b p (.slice none 0 0) :: Lo) w0) :
  Calls prog 94 #[(aH b 0)] w0 (fM w0 G (bB b p (.slice none 0 0) :: Lo) fun u G' L'=>u=.string ⟨#[]⟩):=by
 refine jc (N:=14) (T:=[(0,_)]) func94 M ntmps94 M M hO ?_;intro a H;refine kP H (SR fun _ K1=>aj K1 M (SQ fun _ K2=>?_));clear H K1;intro a H;have H:=H.sub (T':=[(0,_)]) ⟨M,aC⟩;refine dI hmx [[],[0],[0,1],[0,1,2],ra 0 4,[],[5],[5,6],[5,6,7],ra 5 4,ra 0 10,ra 0 11] [11] V [_,_,_,.slice none 0 0,.pointer none,_,_,_,.slice none 0 0,_,.string ⟨#[]⟩] H (aB (Z0 M (Rm M)) (Z1 0 3 M (Rk M)) (Z1 1 4 M (Rf Ad M)) (Z1 2 5 M (Ro Ar 0 M)) (aB ?_ (Z0 M (Rm M)) (Z1 5 8 M (Rk M)) (Z1 6 9 M (Rf Ad M)) (aB (Z1 7 10 M (Ro Ar 0 M)) (Z1 8 11 M (Rl Du M)) ?_ (bS M) dz))) ?_
 ·refine iO 3 6 M M fun _ a w G1 hG HT H fin=>?_;refine aB5 H wn M M ?_;exact jH
 ·refine eT 4 7 9 12 M M fun _ a w G1 hG HT H fin=>?_;refine aB9 H wn M M M ?_;exact jH
 clear H;intro a w G nO H hv;have H:=H.aM (hv 10 13 M M) M;clear hv;refine kH H (Ra M ?_);clear H;intro a H;refine aD ⟨M,?_⟩;refine K2 _ _ ?_;clear K2;refine lr H results94 M ?_;exact H.hp.gQ M
theorem aDa (G:GH) (Lo:OL) (w0:World) (b:Nat) (p v:ah) (l:List UInt8) (hO:gq G (bB b p v :: Lo) w0) (hrow:bY 5 1 v l.length (Lib.byteCells l) Lo) (h0:l=[]->v=.slice none 0 0) :
  Calls prog 94 #[(aH b 0)] w0 (fM w0 G (bB b p v :: Lo) fun u G' L'=>u=.string ⟨l.toArray⟩):=by
 by_cases h:l=[]
 ·obtain rfl:=h0 h;subst h;exact aDb G Lo w0 b p hO
 exact aDc G Lo w0 b p v l hO hrow h
theorem aga:aR 92:=aS func92 M
theorem aDn:Ty prog 172 2 32 [.pointer none,.slice none 0 0] true:=⟨V,V⟩
theorem asX:aR 93:=aS func93 M
theorem Ia {p:Prop} (h:p:=by
 intro a H;refine lr H results93 M ?_
 exact H.rt (cO Value.string (by
  unfold AZ
  repeat (first|rw [jl]|rw [bU])))):p:=h
theorem VX {p:Prop} (h:p:=by
 refine lr H results93 M ?_
 exact H.rt (cO Value.string (by
  unfold AZ
  repeat (first|rw [jl]|rw [bU])))):p:=h
theorem aoS (G:GH) (w0:World) (hG:Hold G w0) (x:ak) (cs:List ah) (hv:aX G x.dat cs) :
  Calls prog 93 #[.agg cs.toArray] w0 (bE w0 G fun u G'=>u=.string (AZ x)):=by
 obtain ⟨pA,pn,pc,dA,dn,dc,yA,yn,yc,fA,fn,fc,rA,rn,rc,rfl,-⟩:=hv.item;refine eN [(0,_)] func93 M ntmps93 M M hG ?_;intro a H;refine cZ (fun _ K1=>?_);refine dZ (cs:=[_,_,_,_,_,_,_,_,_,_,_]) H wn M M M ?_;clear H;intro b1 a w hb1 H;refine kH H (aj K1 M (SQ fun _ K2=>SR fun _ K3=>bC kF aF 0 M M (Kz K3 (SB (SR fun _ K4=>Rc M (aj K4 M (Cd M ?_ ?_))))))) <;> clear H K1 K3 K4
 ·intro h5 a H
  try have p5:=dT h5
  refine kP H (SR fun _ K5=>aj K5 M ?_);clear H K5;exact Ia
 intro h5 a H
 try have p5:=dF h5
 refine kP H (SR fun _ K6=>Rc M (aj K6 M (Cd M ?_ ?_))) <;> clear H K6
 ·intro h7 a H
  try have p7:=dT h7
  refine kP H (SR fun _ K7=>aj K7 M ?_);clear H K7;exact Ia
 intro h7 a H
 try have p7:=dF h7
 refine kP H (SQ fun _ K8=>SR fun _ K9=>Rc M (aj K9 M (Cd M ?_ ?_))) <;> clear H K9
 ·intro h9 a H
  try have p9:=dT h9
  refine kP H (Kc K8 (Ct M h9 (SR fun _ aT=>aj aT M ?_)));clear H K8 aT;exact Ia
 intro h9 a H
 try have p9:=dF h9
 refine kP H (SR fun _ bR=>Rc M (aj bR M (Cd M ?_ ?_))) <;> clear H bR
 ·intro h9 a H
  try have p9:=dT h9
  refine kP H (Kc K8 (Ct M h9 (SR fun _ cu=>aj cu M ?_)));clear H K8 cu;exact Ia
 intro h9 a H
 try have p9:=dF h9
 refine kP H (SR fun _ dw=>Rc M (aj dw M (Cd M ?_ ?_))) <;> clear H dw
 ·intro h9 a H
  try have p9:=dT h9
  refine kP H (Kc K8 (Ct M h9 (SR fun _ dB=>aj dB M ?_)));clear H K8 dB;exact Ia
 intro h9 a H
 try have p9:=dF h9
 refine kP H (SC (Rc M (bF K8 M (Cd M ?_ ?_)))) <;> clear H K8
 ·intro h9 a H
  try have p9:=dT h9
  refine kP H (SR fun _ dX=>aj dX M ?_);clear H dX;exact Ia
 intro h9 a H
 try have p9:=dF h9
 refine kP H (SR fun _ eu=>Rc M (aj eu M (Cd M ?_ ?_))) <;> clear H eu
 ·intro iq a H
  try have qL:=dT iq
  refine kP H (SR fun _ dN=>bC KL aF 0 M M (Kz dN (SB (SR fun _ eO=>Rc M (aj eO M (Cd M ?_ ?_)))))) <;> clear H dN eO
  ·intro h18 a H
   try have BH:=dT h18
   refine kP H (SR fun _ gD=>aj gD M ?_);clear H gD;intro a H;exact VX
  intro h18 a H
  try have BH:=dF h18
  refine kP H (SR fun _ fF=>Rc M (aj fF M (Cd M ?_ ?_))) <;> clear H fF
  ·intro h20 a H
   try have BI:=dT h20
   refine kP H (SR fun _ gK=>aj gK M ?_);clear H gK;intro a H;exact VX
  intro h20 a H
  try have BI:=dF h20
  refine kP H (SR fun _ jg=>Rc M (aj jg M (Cd M ?_ ?_))) <;> clear H jg
  ·intro h22 a H
   try have nk:=dT h22
   refine kP H (SR fun _ kX=>aj kX M ?_);clear H kX;intro a H;exact VX
  intro h22 a H
  try have nk:=dF h22
  refine kP H (Kc K2 (SR fun _ kQ=>aj kQ M ?_));clear H K2 kQ;exact Ia
 intro iq a H
 try have qL:=dF iq
 refine kP H (Kc K2 (SR fun _ jP=>aj jP M ?_));clear H K2 jP;intro a H;refine lr H results93 M ?_
 exact H.rt (cO Value.string (by
  unfold AZ
  repeat (first|rw [jl]|rw [bU])))
theorem aoM {x:ak} (h:x.kind=1->x.text.size≠0):(jB x).data.toList.length≠0:=by
 have h3:(jB x).data.toList.length=(jB x).size:=pY;rw [h3]
 unfold jB
 split
 ·exact h (by assumption)
 exact (Wi x).2.2
theorem abL {p:Prop} (h:p:=by
 exact ⟨O,.inr M,by rw [hbs,aol,gF,hts];exact I4,hen,by first|exact hgm|exact fun b o h=>sW b o (hgm b o h)⟩):p:=h
theorem akI (G:GH) (w0:World) (hG:Hold G w0) (l:List ak) (v:ah) (hv:av G (.sl 11 (l.map ak.dat)) v) (hz:bq l<=1073741824) (hne:∀ x∈l,x.kind=1->x.text.size≠0) :
  Calls prog 43 #[v] w0 (bE w0 G fun u G'=>u=.string ⟨(jD l).toArray⟩):=by
 obtain ⟨A,c,rfl,hc1,hc2,hg⟩:=hv.slice;rw [bK] at *;have hll:=Dw l;refine eN [(0,_)] func43 M ntmps43 M M hG ?_;intro a H;refine kP H (SR fun _ K1=>aj K1 M (SR fun _ K2=>?_));clear H K1;intro a H;refine dW aDn H wn M ?_;clear H;intro b3 a w hb3 H;refine K2 _ _ ?_;clear K2;refine kP H (SQ fun _ K3=>SR fun _ K4=>Rm M (Rl iB M (Rm M (Kz K4 (SB ?_)))));clear H K4;intro a H;skip;refine fD (ι:=Nat × ah × ah × OL × GH) (Tc:=[(3,_),(6,_),(7,_)]) (Lc:=[]) (fun gh=>[(8,vi gh.1)]) (fun gh=>[bB b3 gh.2.1 gh.2.2.1]++gh.2.2.2.1) (fun gh=>gh.2.2.2.2) (fun gh=>gh.1<=l.length∧(gh.2.1=.pointer none∨gh.2.1=(aH b3 0))∧bY 5 1 gh.2.2.1 (jD (l.take gh.1)).length (Lib.byteCells (jD (l.take gh.1))) gh.2.2.2.1∧(jD (l.take gh.1)=[]->gh.2.2.1=.slice none 0 0)∧(∀ b o,G b=some o->gh.2.2.2.2 b=some o)) (fun gh=>l.length - gh.1) ((0,.pointer none,.slice none 0 0,[],G)) (by exact H.sub ⟨M,M,M,M,aC⟩) ?_ ?_
 ·exact ⟨O,.inl M,bY.nil,fun _=>rfl,fun _ _ h=>h⟩
 clear H;rintro ⟨k,p,v,Lo,g⟩ a w hI H;dsimp only at hI H;obtain ⟨hk,hp,hrw,hnl,hgm⟩:=hI;dsimp only [lca,bM] at H;refine kP H (SR fun _ K5=>Rc M (Kz K5 (SQ fun _ K6=>Cd M ?_ ?_))) <;> clear H K5
 ·intro h9 a H
  try have p9:=dT h9
  have hk2:k < l.length:=by omega
  obtain ⟨b,o,cs,rfl,hcl,hrow,hrep⟩:=hg k l[k].dat (by simp [hk2]);obtain ⟨pA,pn,pc,dA,dn,dc,yA,yn,yc,fA,fn,fc,rA,rn,rc,rfl,-⟩:=hrep.item;replace hrow:=fun j u hj=>aG hgm (hrow j u hj);replace hrep:=hrep.mono hgm;have hbl:=aaI (l.take (k+1))
  have hzt:bq l=bq (l.take (k+1))+bq (l.drop (k+1)):=by
   have h:=Dp ((l.take (k+1)).map ak.dat) ((l.drop (k+1)).map ak.dat);exact Qx
  have hbs:=aDj hk2;have hbz:=cO List.length hbs;rw [gF] at hbz;have hts:(jB l[k]).data.toList.length=(jB l[k]).size:=pY;have hcb:=aoM (hne _ (jS hk2))
  have hen:∀ {v:ah},jD (l.take (k+1))=[]->v=.slice none 0 0:=fun e=>by
   rw [e] at hbz;simp only [List.length_nil] at hbz;omega
  refine kP H (Kc K6 (SQ fun _ K7=>SB (SR fun _ K8=>Ri iB eZ M M ?_)));clear H K6;intro a H;refine bQ eZ (cs:=[_,_,_,_,_,_,_,_,_,_,_]) H wn M M (fun j v hj=>H.hp.aI (hrow j v hj)) M ?_;clear H;intro a H;refine dW eZ H wn M ?_;clear H;intro b5 a w hb5 H;refine bJ eZ 0 (vs:=[_,_,_,_,_,_,_,_,_,_,_]) H wn M ?_;clear H;intro w H;refine K8 _ _ ?_;clear K8;refine kP H (SR fun _ K9=>bC kF aF 0 M M (Rc M (Kz K9 (Cd M ?_ ?_)))) <;> clear H K9
  ·intro iq a H
   try have qL:=dT iq
   have hch:jB l[k]=l[k].text:=ay qL;refine kP H (SC (bC wh jf 0 M M ?_));clear H;intro a H
   first|rw [<- hch] at H|skip
   refine gW aga (Li:=[_]) (L:=bB b3 p v :: Lo) H wn M (amw _ _ _ b3 p v _ _ (jB l[k]) hp (Hp.owns (Li:=[_]) H.hp) hrw O) M ?_;clear H;rintro v_ _ MO a w ⟨v17,UH,rfl,I4,rfl⟩ uJ H;refine kH H (Kn K7 (SC (Rd M (Rm M ?_))));clear H K7;intro a H;refine aD ?_;refine dQ ((k+1,(aH b3 0),v17,UH,_)) (by exact (H.eD (Pl:=[_,_]) (dK:=[_]) [1] Z M).sub ⟨M,M,M,M,aC⟩) ?_
   (try dsimp only);exact abL
  intro iq a H
  try have qL:=dF iq
  have hch:jB l[k]=AZ l[k]:=au qL;refine oQ ?_;refine bQ eZ (cs:=[_,_,_,_,_,_,_,_,_,_,_]) H wn M M (H.hp.dG 0 M M) M ?_;clear H;intro a H;refine s_call asX H wn M (aoS _ _ H.ro l[k] [_,_,_,_,_,_,_,_,_,_,_] hrep) M ?_;clear H;rintro v19 GQ a w rfl sW H;rw [<- hch] at H
  first|rw [<- hch] at H|skip
  refine gW aga (Li:=[_]) (L:=bB b3 p v :: Lo) H wn M (amw _ _ _ b3 p v _ _ (jB l[k]) hp (Hp.owns (Li:=[_]) H.hp) hrw O) M ?_;clear H;rintro v_ _ MO a w ⟨v17,UH,rfl,I4,rfl⟩ uJ H;refine kH H (Kn K7 (SC (Rd M (Rm M ?_))));clear H K7;intro a H;refine aD ?_;refine dQ ((k+1,(aH b3 0),v17,UH,_)) (by exact (H.eD (Pl:=[_,_]) (dK:=[_]) [1] Z M).sub ⟨M,M,M,M,aC⟩) ?_
  (try dsimp only);exact abL
 intro h9 a H
 try have p9:=dF h9
 refine dY ?_;refine K3 _ _ ?_;clear K3;refine bL (fun _ aT=>?_);rw [show l.take k=l from nZ O] at hrw hnl;refine oQ ?_;refine gW agb (Li:=[]) (L:=bB b3 p v :: Lo) H wn M (aDa _ _ _ b3 p v (jD l) (Hp.owns (Li:=[]) H.hp) hrw hnl) M ?_;clear H;rintro v22 Ux L22 a w rfl ahM H;exact kH H (bF aT M (LR results43 M fun H=>H.rt M))
theorem aqK:aR 138:=aS func138 M
theorem afy:aR 137:=aS func137 M
theorem aaL:Ty prog 57 1 24 [.slice none 0 0] false:=⟨V,V⟩
theorem aqJ:aR 136:=aS func136 M
def bP (b:Bool):AP:=fun args _=>args=[.bool b]
theorem abH {A:List Bool} {k:Nat} {args:List ah} {g:GH} (h:xJ (A.map bP) k args g):∃ hk:k < A.length,args=[.bool A[k]]:=by
 obtain ⟨p,hp,hargs⟩:=h;rw [qD] at hp;obtain ⟨q,hq,rfl⟩:=oO.1 hp;obtain ⟨hk,rfl⟩:=jZ.1 hq;exact ⟨hk,hargs⟩
theorem abM {p:Prop} (h:p:=by
 first
  | exact H.hp.lW (L':=abq) (by repeat (first|exact kS _|apply List.Sublist.cons)) (.inr (hb2 (by simpa using qJ)))
  | exact H.hp.gQ (.inl (by
    have:=iG.len;rw [rU O] at this
    first|(rw [bK,<- this];exact iG.now)|(rw [<- this];exact iG.now)))):p:=h
set_option maxHeartbeats 4000000 in
theorem aDv {G:GH} {bd:Nat} {l:List ak} {v:ah} (hb:aI G bd 0=some v) (hv:av G (.sl 11 (l.map ak.dat)) v) (hz:bq l<=1073741824) :
  Iter prog G (.func (.func 137) #[] #[(aH bd 0)]) ((kg l).map bP):=by
 intro J Jx fv G1 L w0 Yj hGi tT hJx hJ hO hcb;refine kD (caps:=[(aH bd 0)]) afy ?_;obtain ⟨A,c,rfl,hc1,hc2,hg⟩:=hv.slice;rw [bK] at *;have hll:=Dw l;replace hb:=aG hGi hb;refine jc (N:=33) (T:=[(0,_),(1,_)]) func137 M ntmps137 M M hO ?_;intro a H;refine kP H (SR fun _ K1=>Rg jy M hb (Rl iB M (Rm M (Kz K1 (SB ?_)))));clear H K1;intro a H;skip;refine fD (ι:=Nat × Nat × OL × GH) (Tc:=[(0,_),(1,_),(7,_),(8,_)]) (Lc:=[]) (fun gh=>[(9,vi gh.1)]) (fun gh=>[]++gh.2.2.1) (fun gh=>gh.2.2.2) (fun gh=>gh.1<=l.length∧(∀ b o,G1 b=some o->gh.2.2.2 b=some o)∧Now ((kg l).map bP) bP J (kg l).length gh.2.1 (kg (l.drop gh.1)) gh.2.2.2 gh.2.2.1) (fun gh=>l.length - gh.1) ((0,0,L,G1)) (by exact H.sub ⟨M,M,M,M,M,aC⟩) ?_ ?_
 ·exact ⟨kY _,fun _ _ h=>h,⟨hJ,fun i a h=>by rw [gZ,qD];rw [uX] at h;rw [h];rfl,by simp⟩⟩
 clear H;rintro ⟨k,j1,Lt,g⟩ a w hI H;dsimp only at hI H;obtain ⟨hk,hgm,iG⟩:=hI;dsimp only [lca,bM] at H;refine kP H (SR fun _ K2=>Rc M (Kz K2 (SQ fun _ K3=>Cd M ?_ ?_))) <;> clear H K2
 ·intro h10 a H
  try have ni:=dT h10
  have hk2:k < l.length:=by omega
  obtain ⟨b,o,pA,pn,pc,dA,dn,dc,yA,yn,yc,fA,fn,fc,rA,rn,rc,rfl,hrow,hhd,hfl,axp⟩:=DV hk2 hg
  have hc3:¬ c=k:=by omega
  have he1:((l.map ak.dat).drop k).take 1=[l[k]].map ak.dat:=by rw [nK (by simpa using hk2)];simp
  have IY:aX G l[k].dat [vi l[k].kind,vi l[k].code,vi l[k].id,.string l[k].text,.slice pA pn pc,vi l[k].head.marks.ins,vi l[k].head.marks.move,.slice dA dn dc,.slice yA yn yc,.slice fA fn fc,.slice rA rn rc]:=aX.mkItem hhd hfl axp;have hG1:∀ b o,G b=some o->g b=some o:=fun b o h=>hgm b o (hGi b o h)
  have LC:Now ((kg l).map bP) bP J (kg l).length j1 (List.replicate (n1 l[k] - 0) (nT l[k])++kg (l.drop (k+1))) g Lt:=by
   rw [nK hk2,show l[k] :: l.drop (k+1)=[l[k]]++l.drop (k+1) from rfl,Xm,Xo] at iG;exact iG
  have hn1:n1 l[k]<=1073741824:=by
   have h1:=LC.len;have h2:=Xn l
   simp only [gF,List.length_replicate] at h1
   omega
  refine kP H (Kc K3 (SQ fun _ K4=>SB (SR fun _ K5=>Rm M (Ri iB eZ M M ?_))));clear H K3;intro a H;refine bQ eZ (cs:=[vi l[k].kind,vi l[k].code,vi l[k].id,.string l[k].text,.slice pA pn pc,vi l[k].head.marks.ins,vi l[k].head.marks.move,.slice dA dn dc,.slice yA yn yc,.slice fA fn fc,.slice rA rn rc]) H wn M M (fun j v hj=>H.hp.aI (aG hG1 (hrow j v hj))) M ?_;clear H;intro a H;refine dW eZ H wn M ?_;clear H;intro b4 a w hb4 H;refine kH H (Ra M ?_);clear H;intro a H;refine bJ eZ 0 (vs:=[_,_,_,_,_,_,_,_,_,_,_]) H wn M ?_;clear H;intro w H;refine K5 _ _ ?_;clear K5;refine kP H (SR fun _ K6=>Rg jy M (aG hgm hb) (Rm M (Rm M (Rd M ?_))));clear H;intro a H;refine akZ iB eZ k (k+1) H wn M M M M O O O M ?_;clear H;intro a H;rw [au hc3,uT,add_lit,Ho] at H;refine s_call asS H wn M (ayU _ _ H.ro [l[k]] _ ((by have h:=hv.part k (k+1) O (by rw [bK];omega);rw [au hc3,uT,add_lit,Ho,he1] at h;exact h:av G _ _).mono hG1) (by have:=O8 (rows:=l.map ak.dat) (k:=k) (r:=l[k].dat) (by simp [hk2]);simp only [bq,dO,qZ,dM] at *;omega)) rfl ?_;clear H;rintro v20 _ a w ⟨rfl,rfl⟩ - H;rw [ayT] at H;refine kH H (Rm M ?_);clear H;intro a H;(iterate 2 refine lJ H wn M M M ?_;clear H;intro a H);refine kH H (Ra M (aj K6 M (SR fun _ K7=>Rm M (Rm M (Kz K7 (SB ?_))))));clear H K6 K7;intro a H;skip;refine fD (ι:=Nat × Nat × OL × GH) (Tc:=[(0,_),(1,_),(4,_),(7,_),(8,_),(9,_),(23,_)]) (Lc:=[(_,_)]) (fun gh=>[(24,vi gh.1)]) (fun gh=>[]++gh.2.2.1) (fun gh=>gh.2.2.2) (fun gh=>gh.1<=n1 l[k]∧(∀ b o,g b=some o->gh.2.2.2 b=some o)∧Now ((kg l).map bP) bP J (kg l).length gh.2.1 (List.replicate (n1 l[k] - gh.1) (nT l[k])++kg (l.drop (k+1))) gh.2.2.2 gh.2.2.1) (fun gh=>n1 l[k] - gh.1) ((0,j1,Lt,g)) (by exact H.sub ⟨M,M,M,M,M,M,M,M,aC⟩) ?_ ?_
  ·exact ⟨kY _,fun _ _ h=>h,LC⟩
  clear H;rintro ⟨m,j2,Lt2,g2⟩ a w hI H;dsimp only at hI H;obtain ⟨hm,jW,yw⟩:=hI;dsimp only [lca,bM] at H;refine kP H (SR fun _ K8=>Rc M (Kz K8 (SQ fun _ K9=>Cd M ?_ ?_))) <;> clear H K8
  ·intro iR a H
   try have p25:=dT iR
   have hm2:m < n1 l[k]:=by omega
   have uK:Now ((kg l).map bP) bP J (kg l).length j2 (nT l[k] :: (List.replicate (n1 l[k] - m - 1) (nT l[k])++kg (l.drop (k+1)))) g2 Lt2:=by
    rw [show n1 l[k] - m=(n1 l[k] - m - 1)+1 by omega,List.replicate_succ] at yw;exact yw
   refine kP H (Kc K9 (SQ fun _ aT=>SB (SR fun _ bR=>Rm M ?_)));clear H K9;intro a H;refine bQ eZ (cs:=[_,_,_,_,_,_,_,_,_,_,_]) H wn M M (H.hp.dG 0 M M) M ?_;clear H;intro a H;refine s_call aqK H wn M (aCJ _ _ H.ro l[k] _ ((IY.mono hG1).mono jW)) M ?_;clear H;rintro v28 MK a w rfl Em H;refine BL (Li:=[_]) (L:=Lt2) H wn M M (hcb j2 _ _ _ _ ⟨_,uK.head,M⟩ (fun b o h=>Em b o (jW b o (hgm b o h))) (tT _ _ _ _ Em uK.now) (Hp.owns (Li:=[_]) H.hp)) M ?_;clear H;rintro v29 G29 abq a w ⟨b29,rfl,hb1,hb2⟩ awz H;refine kH H (Rn M (Kz bR (Cd M ?_ ?_))) <;> clear H bR
   ·intro qJ a H
    try have p30:=dT qJ
    refine eP ?_;refine (leave0 H results137 ?_).1
    exact abM
   intro qJ a H
   try have p30:=dF qJ
   refine kP H (Kc aT (SC (Rd M (Rm M ?_))));clear H aT;intro a H;refine aD ?_;refine dQ ((m+1,j2+1,abq,_)) (by exact H.sub ⟨M,M,M,M,M,M,M,M,aC⟩) ?_
   (try dsimp only);exact ⟨O,fun b o h=>awz b o (Em b o (jW b o h)),by rw [show n1 l[k] - (m+1)=n1 l[k] - m - 1 by omega];exact uK.step (hb1 (by simpa using qJ))⟩
  intro iR a H
  try have p25:=dF iR
  obtain rfl:m=n1 l[k]:=by omega
  rw [Nat.sub_self,List.replicate_zero,jA] at yw;refine dY ?_;refine K4 _ _ ?_;clear K4;refine kP H (SC (Rd M (Rm M ?_)));clear H;intro a H;refine aD ?_;refine dQ ((k+1,j2,Lt2,g2)) (by exact (H.eD (Pl:=[_]) (dK:=[]) [] Z M).sub ⟨M,M,M,M,M,aC⟩) ?_
  (try dsimp only);exact ⟨O,fun b o h=>jW b o (hgm b o h),yw⟩
 intro h10 a H
 try have ni:=dF h10
 refine dY ?_;refine (leave0 H results137 ?_).2
 exact abM
theorem aDw (G:GH) (w0:World) (hG:Hold G w0) (l:List ak) (v:ah) (hv:av G (.sl 11 (l.map ak.dat)) v) (hz:bq l<=1073741824) :
  Calls prog 78 #[v] w0 (bE w0 G fun u G'=>∃ bd,u=.func (.func 137) #[] #[(aH bd 0)]∧Iter prog G' u ((kg l).map bP)):=by
 obtain ⟨A,c,rfl,-,-,-⟩:=hv.slice;refine eN [(0,_)] func78 M ntmps78 M M hG ?_;intro a H;refine cZ (fun _ K1=>?_);refine dZ (cs:=[_]) H wn M M M ?_;clear H;intro b1 a w hb1 H;refine kH H (aj K1 M (SR fun _ K2=>?_));clear H K1;intro a H;refine vG H wn M M ?_;clear H;intro a H;refine kH H (aj K2 M ?_);clear H K2;intro a H;refine eP ?_;obtain ⟨G2,hm2,hb1,H⟩:=H.fU;refine lv H results78 M ?_;exact H.rt ⟨b1,M,aDv (by unfold aI;rw [hb1];rfl) (hv.mono hm2) hz⟩
theorem anu (G:GH) (w0:World) (hG:Hold G w0) (A:List Bool) (caps:List ah) (hit:Iter prog G (.func (.func 137) #[] caps.toArray) (A.map bP)) (hA:A.length<=4294967296) :
  Calls prog 136 #[.slice none 0 0,.func (.func 137) #[] caps.toArray] w0 (bE w0 G fun u G'=>av G' (.sl 1 (A.map AX)) u):=by
 have hml:4294967297<=maxLen:=by decide
 refine eN [(0,_),(1,_)] func136 M ntmps136 M M hG ?_;intro a H;refine cZ (fun _ K1=>?_);refine dZ (cs:=[_]) H wn M M M ?_;clear H;intro b2 a w hb2 H;refine kH H (aj K1 M (SQ fun _ K2=>SR fun _ K3=>Rm M (Kz K3 (SB ?_))));clear H K1 K3;intro a H;skip;refine QE (ι:=ah × List ah × OL) (κ:=Empty) (Lc:=[]) (fun (k:Nat) (gh:ah × List ah × OL)=>[(b2,.cells #[gh.1] 57 (0,0))]) (fun (k:Nat) (gh:ah × List ah × OL)=>gh.2.2) (fun (k:Nat) (gh:ah × List ah × OL) (g:GH)=>bY 4 1 gh.1 k gh.2.1 gh.2.2∧dx g 1 ((A.take k).map AX) gh.2.1) (fun x=>x.elim) (fun x=>x.elim) (fun x=>x.elim) (fun x=>x.elim) ((.slice none 0 0,[],[])) (by exact H.Jm (A:=[_])) M afy (hit) (fun _ _ h=>h) M (fun k args g h=>by obtain ⟨_,rfl⟩:=abH h;rfl) (fun k i G G' hm h=>⟨h.1,h.2.mono hm⟩) (fun x=>x.elim) (⟨bY.nil,dx.nil⟩) ?_ ?_ ?_
 ·clear H;intro l2 Da zY bk k args gh G2 w2 F2 B2 a hk2 hm2 hI X8 Yv aiF H;obtain ⟨v,xs,Lo⟩:=gh;dsimp only at hI H;obtain ⟨hk,rfl⟩:=abH hk2;dsimp only [yP,List.cons_append,List.nil_append] at H;obtain ⟨hrw,fu⟩:=hI;refine kP H (SC (Ra M ?_));clear H;intro a H;refine aD ?_;refine X8 _ _ _ _ _ _ (by exact H) ?_;clear H;intro w H;refine kP H (SB (SC (Ro aaL 1 M (Rm M ?_))));clear H;intro a H;refine iV Pm ug [_] [_] H wn M M M M M (by intro i q h;match i,h with|0,h=>exact h|n+1,h=>simp at h) M M ?_;clear H;intro b10 a w aht H;refine ny (Li:=[_,_,_]++bk) (Lo:=Lo) (news:=[.bool A[k]]) Pm ug M M (St.un (A:=[_,_,_]) H) wn M M hrw M (H.hp.dG 0 M M) M O O M ?_;clear H;intro v11 amT a w xu H;obtain ⟨Uq,c11,rfl,-,-⟩:=xu.shape
  simp only [iL,pR,jA] at H
  refine bJ aaL 2 (vs:=[_]) H wn M ?_;clear H;intro w H;refine aD ?_;refine Yv ((.slice Uq (k+1) c11,xs++[.bool A[k]],amT)) _ _ _ _ _ (by exact H.eD (Pl:=[_,_,_]) (dK:=[_,_]) [1,2] Z M) ?_;exact ⟨xu,by rw [jK hk,ji];exact fu.snoc (aof _ _) M⟩
 ·clear H;intro Dk2 gh Gd2 a w hm2 hI H;obtain ⟨v,xs,Lo⟩:=gh;dsimp only at hI H;dsimp only [lca,bM] at H;obtain ⟨hrw,fu⟩:=hI;rw [bK] at hrw fu;rw [uV] at fu;refine K2 _ _ ?_;clear K2;refine kP H (SR fun _ K4=>Ro aaL 1 M (aj K4 M ?_));clear H K4;intro a H;refine eP ?_;refine (Je H 0 M ?_).1;clear H;intro a w H;dsimp only [List.eraseIdx_cons_succ,List.eraseIdx_cons_zero] at H;refine lv H results136 M ?_;obtain ⟨Gr,hmr,hrep,H⟩:=St.qh (Li:=[_]) H hrw (rows:=A.map AX) (by simp) fu;exact H.rt hrep
 intro Dk x;exact x.elim
theorem apI (G:GH) (w0:World) (hG:Hold G w0) (A:List Bool) (caps:List ah) (hit:Iter prog G (.func (.func 137) #[] caps.toArray) (A.map bP)) (hA:A.length<=4294967296) :
  Calls prog 77 #[.func (.func 137) #[] caps.toArray] w0 (bE w0 G fun u G'=>av G' (.sl 1 (A.map AX)) u):=by
 refine eN [(0,_)] func77 M ntmps77 M M hG ?_;intro a H;refine kP H (SR fun _ K1=>aj K1 M (SR fun _ K2=>Rm M ?_));clear H K1;intro a H;refine s_call aqJ H wn M (anu _ _ H.ro A caps hit hA) M ?_;clear H;rintro v4 G4 a w Oo rD H;exact kH H (aj K2 M (LR results77 M fun H=>H.rt Oo))
theorem WU:aR 28:=aS func28 M
theorem asR:aR 78:=aS func78 M
theorem asQ:aR 77:=aS func77 M
theorem asA:aR 27:=aS func27 M
theorem atZ (l:List ak) (id:Int):bq ((tO l id).getD [])<=bq l:=by
 cases h:tO l id with
 | none=>exact kY _
 | some f=>exact Xp h
theorem abN {p:Prop} (h:p:=by
 first
  | exact H.rt ⟨_,by rw [ay (by simp_all)],FP⟩
  | exact H.rt ⟨_,by rw [au (by simp_all)],by rw [show tO d.flow id=none by simp_all];exact av.uM M Z⟩):p:=h
theorem aA3 (G:GH) (w0:World) (hG:Hold G w0) (D:kN) (d:gX) (hR:pO G D d) (hz:bq d.flow<=1073741824) (id:Int) :
  Calls prog 27 #[D.val,vi id] w0 (bE w0 G fun u G'=>∃ v,u=.tuple #[v,vi (if (tO d.flow id).isSome then 0 else 8)]∧av G' (.sl 1 ((kg ((tO d.flow id).getD [])).map AX)) v):=by
 have hs:=atZ d.flow id;have hfl:=Xn ((tO d.flow id).getD []);refine eN [(0,_),(1,_)] func27 M ntmps27 M M hG ?_;intro a H;refine cZ (fun _ K1=>?_);refine dZ (cs:=[_,_,_,_,_,_,_,_,_,_,_]) H wn M M M ?_;clear H;intro b2 a w hb2 H;refine kH H (Ra M (aj K1 M (SR fun _ K2=>?_)));clear H K1;intro a H;refine bQ jN (cs:=[_,_,_,_,_,_,_,_,_,_,_]) H wn M M (H.hp.dG 0 M M) M ?_;clear H;intro a H;refine kH H (Rm M ?_);clear H;intro a H;refine s_call WU H wn M (Xq _ _ H.ro D d.flow id hR.fl O) M ?_;clear H;rintro v11 yM a w ⟨Uh,rfl,vB⟩ CJ H;obtain ⟨Uq,n11,c11,rfl⟩:=vB.form;refine kH H (Rm M ?_);clear H;intro a H;(iterate 2 refine lJ H wn M M M ?_;clear H;intro a H);refine kH H (Ra M (aj K2 M (SQ fun _ K3=>SR fun _ K4=>Rm M (Rn M (Kz K4 (Cd M ?_ ?_)))))) <;> clear H K2 K4
 ·intro jC a H
  try have sD:=dT jC
  refine kP H (SR fun _ K5=>Ra M (aj K5 M ?_));clear H K5;intro a H;refine eP ?_;refine (kG H results27 (.cons (fB H M) (.cons (fB H M) .nil)) ?_).1
  exact abN
 intro jC a H
 try have sD:=dF jC
 refine kP H (Kc K3 (SR fun _ K6=>Rm M ?_));clear H K3;intro a H;refine s_call asR H wn M (aDw _ _ H.ro _ _ vB O) M ?_;clear H;rintro v17 AB a w ⟨bd,rfl,hit⟩ uJ H;refine s_call asQ H wn M (apI _ _ H.ro _ [(aH bd 0)] hit O) M ?_;clear H;rintro v18 EO a w FP hm18 H;obtain ⟨A18,n18,c18,rfl⟩:=FP.form;refine kH H (Ra M (aj K6 M ?_));clear H K6;intro a H;refine eP ?_;refine (kG H results27 (.cons (fB H M) (.cons (fB H M) .nil)) ?_).1
 exact abN
section
theorem afT:aR 41:=aS func41 M
theorem aDq:prog.underlying 21=some (.int .i32):=by kernel_rfl
theorem asE:aR 40:=aS func40 M
theorem afU:aR 43:=aS func43 M
section
variable {N:Nat} {D:List Deferred} {w0:World} {F:Nat->Prop} {G0 G:GH} {L:OL} {T:List (Nat × ah)}
variable {r:Option Nat} {P:Program} {ops:Array Oper} {Q:Exit->Act->World->Prop} {rest:List Oper} {a:Act} {w:World}
variable {d:Nat} {ty:TypeId} {pos:String} {aL:Array Edge} {g:Option (Nat × Bool)}
theorem aB0 {x:Operand} {t u:TypeId} {kd ks:IntKind} {n:Int} (ht:P.underlying t=some (.int ks)) (hu:P.underlying u=some .string) (H:St N D w0 F G0 G L T a w) (hw:Region.wanted ⟨some d,.convert t u x,ty,pos,aL,g⟩ (yielded ops a.tmps)=true) (hx:ev T x=some (.int kd n)) (hd:Nat.blt d N=true)
  (k:∀ a',St N D w0 F G0 G L ((d,.string (Utf8.encode n)) :: T) a' w->WL r P ops Q rest a' w):WL r P ops Q (⟨some d,.convert t u x,ty,pos,aL,g⟩ :: rest) a w:=by
 refine fI (v:=.string (Utf8.encode n)) (w':=w) hw M ?_ (k _ (H.put hd _ H.hp))
 simp [execOp,convert,nu hu,nu ht,H.ev hx,dP,Conv.intToString]
end
theorem nX.le {s:ByteArray} {F:List Bool} {p k p' k':Nat} {B:List UInt8} (h:nX s F p k B p' k'):p<=p'∧k<=k':=by
 induction h with
 | nil=>exact ⟨dS _,dS _⟩
 | step hp hd hw h ih=>omega
theorem nX.fin {s:ByteArray} {F:List Bool} {p k p' k':Nat} {B:List UInt8} (h:nX s F p k B p' k') (hp:p'=p):B=[]∧k=k':=by
 cases h with
 | nil=>exact ⟨M,M⟩
 | step h1 hd hw h=>have:=h.le;omega
theorem nX.one {s:ByteArray} {F:List Bool} {p k p' k':Nat} {B:List UInt8} (h:nX s F p k B p' k') (hp:p < p'):(gM s p).2.2=true∧k < k'∧∃ C,B=(if F.getD k false=true then (s.data.toList.drop p).take (gM s p).2.1 else [])++C∧nX s F (p+(gM s p).2.1) (k+1) C p' k':=by
 cases h with
 | nil=>omega
 | step h1 hd hw h=>exact ⟨hd,by have:=h.le;omega,_,rfl,h⟩
theorem txv:∀ {l:List ak},(∀ x∈l,lX (jB x)=true)->lX ⟨(jD l).toArray⟩=true
 | [],_=>aqn.1
 | x :: l,h=>by
  rw [alI];exact aaU (h x dV) (txv fun y hy=>h y (gI _ hy))
theorem amf:∀ l:List ak,(wO l).length<=(jD l).length
 | []=>dS _
 | x :: l=>by
  have:=amf l;rw [show wO (x :: l)=(if nT x=true then (jB x).data.toList else [])++wO l by simp [wO],show jD (x :: l)=(jB x).data.toList++jD l by simp [jD],gF,gF]
  split
  ·omega
  simp only [List.length_nil];omega
theorem azV (l:List ak):∀ x∈iA l,x.kind=1->x.text.size≠0:=fun x hx hk h0=>by
 rw [wH] at hx;exact (Wj (lV l) [] Wm).1 x hx (.inr ⟨hk,h0⟩)
theorem aoz {acc l:List UInt8} {s:ByteArray} (h:s.data.toList=l):(⟨acc.toArray⟩:ByteArray)++s=⟨(acc++l).toArray⟩:=by
 subst h
 apply ByteArray.ext;simp
theorem aCM {l:List UInt8} {s:ByteArray} (h:s.data.toList=l):s.size=l.length:=by
 subst h;exact (pY).symm
def E5 (L:List ak) (v:ah) (G:GH):Prop:=∃ A n c,v=.tuple #[.slice A n c,.bool true]∧av G (.sl 11 (L.map ak.dat)) (.slice A n c)
theorem aby {L:List ak} {v:ah} {G G':GH} (hm:∀ b o,G b=some o->G' b=some o) (h:E5 L v G):E5 L v G':=let ⟨A,n,c,h1,h2⟩:=h;⟨A,n,c,h1,h2.mono hm⟩
def MU (L:List ak) (v:ah) (G:GH):Prop:=∃ A n c,v=.tuple #[.slice A n c,vi 0]∧av G (.sl 1 ((kg L).map AX)) (.slice A n c)
theorem anh {L:List ak} {v:ah} {G G':GH} (hm:∀ b o,G b=some o->G' b=some o) (h:MU L v G):MU L v G':=let ⟨A,n,c,h1,h2⟩:=h;⟨A,n,c,h1,h2.mono hm⟩
theorem aA2 (G:GH) (w0:World) (hG:Hold G w0) (D:kN) (d:gX) (hR:pO G D d) (hs:yL 536870912 d) (hc:iQ d=0) :
  Calls prog 40 #[D.val] w0 (bE w0 G fun u G'=>av G' (.sl 1 ((0 :: iH d.flow).map fun q=>[li q])) u):=by
 have hz:=(ajB (aag (acc:=cT) (rej:=cF) hs Z Z)).fl;refine eN [(0,_)] func40 M ntmps40 M M hG ?_;intro a H;refine cZ (fun _ K1=>?_);refine dZ (cs:=[_,_,_,_,_,_,_,_,_,_,_]) H wn M M M ?_;clear H;intro b1 a w hb1 H;refine kH H (aj K1 M (SR fun _ K2=>?_));clear H K1;intro a H;refine bQ jN (cs:=[_,_,_,_,_,_,_,_,_,_,_]) H wn M M (H.hp.dG 0 M M) M ?_;clear H;intro a H;refine s_call WJ H wn M (Z9 _ _ H.ro D d hR hs hc) M ?_;clear H;rintro v4 G4 a w ⟨E,rfl,hE⟩ rD H;refine s_call afT H wn M (afl _ _ H.ro E _ hE.fl (Nat.le_trans hz Z)) M ?_;clear H;rintro v5 G5 a w hv5 yh H;rw [show ((qg (nD (kK cT cF d)).flow).map fun f:jF=>[li f.id])=(0 :: iH d.flow).map fun q=>[li q] by rw [<- alh hc,List.map_map];rfl] at hv5;exact kH H (aj K2 M (LR results40 M fun H=>H.rt hv5))
theorem anB {p:Prop} (h:p:=by
 exact Ac HT Hb hG hv (LJ aP) H M):p:=h
theorem U9 {p:Prop} (h:p:=by
 exact kH H (Rg aF M (aG hG hci) fun _ H=>fin H iJ M)):p:=h
theorem Qy {p:Prop} (h:p:=by
 clear H;intro a H;refine aD ⟨M,?_⟩;exact anB):p:=h
theorem Qp {p:Prop} (h:p:=by
 refine iO 9 65 M M fun _ a w G1 hG HT H fin=>?_;refine Jy H (wg H M M M) M M ?_;exact jH):p:=h
theorem M9 {p:Prop} (h:p:=by
 refine yG mD aF i H wn M M M O M ?_;exact jH):p:=h
theorem adg {p:Prop} (h:p:=by
 intro aW a w G1 hG HT H fin;refine bQ jN (cs:=D.cells) H wn M M (fun j v hj=>H.hp.aI (aG hG (aG hT (hgd j v hj)))) M ?_;exact jH):p:=h
theorem adt {p:Prop} (h:p:=by
 refine yG mD aF i H (wg H M M M) M M M O M ?_;exact jH):p:=h
set_option maxHeartbeats 8000000 in
theorem aCK (G:GH) (w0:World) (hG:Hold G w0) (D:kN) (d:gX) (hR:pO G D d) (hs:yL 134217728 d) :
  Calls prog 11 #[D.val] w0 (bE w0 G fun u G'=>u=.bool true):=by
 have YQ:=hs.up (m:=536870912) Z;have hml:maxLen=9223372036854775807:=rfl;refine eN [(0,_)] func11 M ntmps11 M M hG ?_;intro a H;refine cZ (fun _ K1=>?_);refine dZ (cs:=[_,_,_,_,_,_,_,_,_,_,_]) H wn M M M ?_;clear H;intro b1 a w hb1 H;refine kH H (aj K1 M (SQ fun _ K2=>SQ fun _ K3=>?_));clear H K1;intro a H;obtain ⟨Ga,hma,hb1',H⟩:=H.fU;have hgd:=fun j v hj=>wu hb1' 0 D.cells M j v hj;replace hR:=hR.mono hma;refine oQ ?_;refine s_call WH H wn M (Zm _ _ H.ro) M ?_;clear H;rintro v18 EO a w rfl hm18 H;replace hR:=hR.mono hm18;replace hgd:=fun j v hj=>aG hm18 (hgd j v hj);refine kH H (Rn M (Rm M (Sp 20 M ?_ ?_))) <;> clear H
 ·intro h20 a H
  try have BI:=dT h20
  refine kH H (aU h20 M (aU h20 M (Pt h20 M (Kn K3 (Ct M M (SR fun _ K4=>?_))))));clear H K3;intro a H;refine s_call WH H wn M (Zm _ _ H.ro) M ?_;clear H;rintro v26 G26 a w rfl Oc H;replace hR:=hR.mono Oc;replace hgd:=fun j v hj=>aG Oc (hgd j v hj);exact kH H (aj K4 M (LR results11 M fun H=>H.rt (by first|rfl|(simp_all;done))))
 intro h20 a H
 try have BI:=dF h20
 refine bQ jN (cs:=D.cells) H (wg H M M h20) M M (fun j v hj=>H.hp.aI (hgd j v hj)) M ?_;clear H;intro a H;refine jM aC5 [_,_] H (wg H M M h20) M M M M ?_;clear H;intro a H;refine s_call aqM H (wg H M M h20) M (aCR _ _ H.ro D d hR hs.z [] [] _ _ ⟨av.uM M Z,av.uM M Z,Z,Z⟩) M ?_;clear H;rintro v23 Uy a w ⟨b23,rfl,avr⟩ CO H;replace hR:=hR.mono CO;replace hgd:=fun j v hj=>aG CO (hgd j v hj);refine kH H (YN h20 M (Pf h20 M (Kn K3 (Cd M ?_ ?_)))) <;> clear H K3
 ·intro iR a H
  try have p25:=dT iR
  refine cZ (fun _ K5=>?_);refine s_call WH H wn M (Zm _ _ H.ro) M ?_;clear H;rintro v26 G26 a w rfl Oc H;replace hR:=hR.mono Oc;replace hgd:=fun j v hj=>aG Oc (hgd j v hj);exact kH H (aj K5 M (LR results11 M fun H=>H.rt (by first|rfl|(simp_all;done))))
 intro iR a H
 try have p25:=dF iR
 refine iD ?_;refine K2 _ _ ?_;clear K2;refine bL (fun _ K6=>?_)
 have hc:iQ d=0:=by simp_all
 refine oQ ?_;refine bQ jN (cs:=D.cells) H wn M M (fun j v hj=>H.hp.aI (hgd j v hj)) M ?_;clear H;intro a H;refine s_call WJ H wn M (Z9 _ _ H.ro D d hR YQ hc) M ?_;clear H;rintro v28 MK a w ⟨E,rfl,hE⟩ Em H;replace hR:=hR.mono Em;replace hgd:=fun j v hj=>aG Em (hgd j v hj);refine dW jN H wn M ?_;clear H;intro b3 a w hb3 H;refine bJ jN 0 (vs:=[_,_,_,_,_,_,_,_,_,_,_]) H wn M ?_;clear H;intro w H;refine aD ?_;refine K6 _ _ ?_;clear K6;refine bL (fun _ K7=>?_);obtain ⟨Gb,hmb,zu,H⟩:=H.fU;have hge:=fun j v hj=>wu zu 0 E.cells M j v hj;replace hR:=hR.mono hmb;replace hE:=hE.mono hmb;replace hgd:=fun j v hj=>aG hmb (hgd j v hj);obtain ⟨r,hr⟩:∃ r,r=nD (kK cT cF d):=⟨_,M⟩;have hsh:=alh hc;have hat:=fun i hi=>aCI hc (i:=i) hi;have hz0:=hs.fl
 have hz1:bq r.flow<=1073741824:=by rw [hr];exact (ajB (aag (acc:=cT) (rej:=cF) YQ Z Z)).fl
 have hE:pO Gb E r:=by rw [hr];exact hE
 rw [<- hr] at hsh
 simp only [<- hr] at hat
 have hkl:=Jd d.flow;obtain ⟨I,hI0⟩:∃ I,I=0 :: iH d.flow:=⟨_,M⟩
 have hIl:I.length=(iH d.flow).length+1:=by rw [hI0];rfl
 have avl:∀ i (hi:i < I.length),∃ L,tO d.flow I[i]=some L∧JW d.jT L∧tO r.flow I[i]=some (iA (bZ cT cF L)):=by subst hI0;exact hat
 rw [<- hI0] at hsh
 have LJ:P8 (fun (aP:Nat->ah × OL) (bV:Nat) (v:ah) (G:GH)=>match bV with|0=>v=.agg D.cells.toArray|1=>av G (.sl 1 (I.map fun q=>[li q])) v|2=>v=.agg E.cells.toArray|3=>av G (.sl 1 (I.map fun q=>[li q])) v|4=>v=(aP 4).1∧bY 3 1 v 1 [vi 0] (aP 4).2|5=>v=(aH b1 (0+0))|6=>v=dh D.f|7=>av G (.sl 1 ((iH d.flow).map fun q=>[li q])) v|8=>v=(aP 8).1∧bY 3 1 v I.length (I.map vi) (aP 8).2|_=>True):=by intro aP bV v G G' hm h;(iterate 12 (rcases bV with _|bV;(first|exact h|exact h.mono hm)));exact trivial
 refine aop [4,8] [(4,8)] (hmx) [[],[0],[],[0,1,2],[],[],[5],[0,1,2,3,5,6],ra 0 8,ra 0 9,ra 0 10,ra 0 11] [9,10,11] V V Z V Z (fun (aP:Nat->ah × OL) (bV:Nat) (v:ah) (G:GH)=>match bV with|0=>v=.agg D.cells.toArray|1=>av G (.sl 1 (I.map fun q=>[li q])) v|2=>v=.agg E.cells.toArray|3=>av G (.sl 1 (I.map fun q=>[li q])) v|4=>v=(aP 4).1∧bY 3 1 v 1 [vi 0] (aP 4).2|5=>v=(aH b1 (0+0))|6=>v=dh D.f|7=>av G (.sl 1 ((iH d.flow).map fun q=>[li q])) v|8=>v=(aP 8).1∧bY 3 1 v I.length (I.map vi) (aP 8).2|_=>True) (fun m hm x y i v G hi hc h=>by
  have hm:m=4∨m=8:=by simpa using hm
  rcases hm with rfl|rfl
  ·exact VP
  ·exact VP
  ) H ?_ ?_ ?_
 ·clear H;refine aB ?_ ?_ ?_ ?_ (aB ?_ ?_ ?_ ?_ (aB ?_ ?_ ?_ ?_ dz))
  ·intro aP dU aW a w G1 fE _ _ aK hc hG HT hv;have H:=HT;clear aK;have Hb:=H.full;have H:=Hb;clear hc;refine bQ jN (cs:=D.cells) H wn M M (fun j v hj=>H.hp.aI (aG hG (hgd j v hj))) M ?_;exact Qy
  ·intro aP dU aW a w G1 fE _ _ aK hc hG HT hv;have H:=HT;clear aK;have H:=H.aM (hv 0 29 (hc 0 Z) M) M;have Hb:=H.full;have H:=Hb;clear hc;refine s_call asE H wn M (aA2 _ _ H.ro D d (hR.mono hG) YQ hc) M ?_;clear H;rintro v30 ER a w aiL NV H;rw [<- hI0] at aiL;refine aD ⟨M,?_⟩;exact oV V (LJ aP) M M HT Hb hG hv NV (aiL) H
  ·intro aP dU aW a w G1 fE _ _ aK hc hG HT hv;have H:=HT;clear aK;have Hb:=H.full;have H:=Hb;clear hc;refine bQ jN (cs:=E.cells) H wn M M (fun j v hj=>H.hp.aI (aG hG (hge j v hj))) M ?_;exact Qy
  ·intro aP dU aW a w G1 fE _ _ aK hc hG HT hv;have H:=HT;clear aK;have H:=H.aM (hv 2 31 (hc 2 Z) M) M;have Hb:=H.full;have H:=Hb;clear hc;refine s_call afT H wn M (afl _ _ H.ro E r.flow (hE.mono hG).fl O) M ?_;clear H;rintro v32 G32 a w hx32 auG H;rw [show ((qg r.flow).map fun f:jF=>[li f.id])=I.map fun q=>[li q] by rw [<- hsh,List.map_map];rfl] at hx32;refine aD ⟨M,?_⟩;exact oV V (LJ aP) M M HT Hb hG hv auG (hx32) H
  ·exact zW
  ·intro aP dU aW a w G1 fE _ _ aK hc hG HT hv;have H:=HT;clear aK;have Hb:=H.full;have H:=Hb;clear hc;refine kH H (Rf vZ M ?_);exact Qy
  ·intro aP dU aW a w G1 fE _ _ aK hc hG HT hv;have H:=HT;clear aK;have H:=H.aM (hv 5 34 (hc 5 Z) M) M;have Hb:=H.full;have H:=Hb;clear hc;refine kH H (Rg jy M (aG hG (hgd 0 _ M)) ?_);exact Qy
  ·intro aP dU aW a w G1 fE _ _ aK hc hG HT hv;have H:=HT;clear aK;have H:=H.aM (hv 6 35 (hc 6 Z) M) M;have Hb:=H.full;have H:=Hb;clear hc;refine s_call WV H wn M (ajb 1073741825 (dS _) _ _ H.ro d.flow _ (hR.mono hG).fl O) M ?_;clear H;rintro v36 G36 a w aye Ed H;refine aD ⟨M,?_⟩;exact oV V (LJ aP) M M HT Hb hG hv Ed (aye) H
  ·exact zW
  ·exact HY
  ·exact HY
  exact Kk
 ·clear H;refine aB ?_ ?_ ?_ ?_ (aB ?_ ?_ ?_ ?_ (aB ?_ ?_ ?_ ?_ dz))
  ·intro hB;exact gV
  ·intro hB;exact gV
  ·intro hB;exact gV
  ·intro hB;exact gV
  ·intro _ aP dU aW a w G1 fE _ hc hG HT hv;have H:=HT;have H:=H.cast (show Mi [(4,8)] aP 4++dU=dU from rfl);have Hb:=H.full;have H:=Hb;clear hc;refine iV mD aF [_] [_] H wn M M M M M (by intro i q h;match i,h with|0,h=>exact h|n+1,h=>simp at h) M M ?_;clear H;intro Ht a w aER H;refine aD ⟨M,(.slice (some ⟨Ht,0,none⟩) 1 1,[(Ht,.cells #[vi 0] 3 (0,0))]),?_⟩;exact Bc V (LJ (oL aP 4 (.slice (some ⟨Ht,0,none⟩) 1 1,[(Ht,.cells #[vi 0] 3 (0,0))]))) M HT Hb hG (fun j e h1 h2 h3=>(let ⟨v,q1,_,q2⟩:=hv (.slice (some ⟨Ht,0,none⟩) 1 1,[(Ht,.cells #[vi 0] 3 (0,0))]) j e h1 h2 h3;⟨v,q1,q2⟩)) (fun _ _ h=>h) (⟨M,M,.inr ⟨Ht,1,#[vi 0],M,M,Z,Z,M,M⟩⟩) H
  ·intro hB;exact gV
  ·intro hB;exact gV
  ·intro hB;exact gV
  ·intro _ aP dU aW a w G1 fE _ hc hG HT hv;have H:=HT;have H:=H.cast (show Mi [(4,8)] aP 8++dU=(aP 4).2++dU from rfl);obtain ⟨u33,YU,Om,-⟩:=hv (.bool false,[]) 4 33 Z (hc 4 Z) M;(try dsimp only at Om);obtain ⟨uz,FV⟩:=Om;have H:=H.gU YU;obtain ⟨u36,axR,Sb,-⟩:=hv (.bool false,[]) 7 36 Z (hc 7 Z) M;(try dsimp only at Sb);obtain ⟨A36,n36,c36,rfl⟩:=Sb.form
   obtain rfl:n36=(iH d.flow).length:=by simpa using Sb.len
   have H:=H.gU axR;have Hb:=H.full;have H:=Hb;clear hc;obtain ⟨A33,c33,e33,-,-⟩:=FV.shape;subst e33;refine aaq mD aF M M (Li:=dU) (Lo:=(aP 4).2) (H.perm uU) wn M M FV Sb O O M ?_;clear H;intro v37 MP n37 a w Ep avG H;have NW:=fun (b:Nat) (o:Obj) (h:G1 b=some o)=>h;have H:=H.perm uU;rw [V9 avG] at Ep
   have Ep:bY 3 1 v37 I.length (I.map vi) MP:=by rw [hIl,Nat.add_comm,hI0];exact Ep
   refine aD ⟨M,(v37,MP),?_⟩;exact Bc V (LJ (oL aP 8 (v37,MP))) M HT Hb hG (fun j e h1 h2 h3=>(let ⟨v,q1,_,q2⟩:=hv (v37,MP) j e h1 h2 h3;⟨v,q1,q2⟩)) NW (⟨rfl,Ep⟩) H
  ·intro hB;exact gV
  ·intro hB;exact gV
  intro hB;exact gV
 clear H;intro aP a w G FB H hv;rw [show jk [4,8] (live [(4,8)] fun _=>true) aP=(aP 8).2 from by first|(simp [jk,live];done)|(simp [jk,live];rfl)] at H
 try simp only [jk,List.flatMap_cons,List.flatMap_nil,cond_true,fG,iL] at H
 obtain ⟨u30,axO,LD⟩:=hv 1 30 Z M;(try dsimp only at LD);obtain ⟨A30,n30,Kr,rfl⟩:=LD.form
 obtain rfl:n30=I.length:=by simpa using LD.len
 have H:=H.gU axO;obtain ⟨u32,axP,LG⟩:=hv 3 32 Z M;(try dsimp only at LG);obtain ⟨A32,n32,c32,rfl⟩:=LG.form
 obtain rfl:n32=I.length:=by simpa using LG.len
 have H:=H.gU axP;obtain ⟨u37,axS,aie⟩:=hv 8 37 Z M;(try dsimp only at aie);obtain ⟨h37,Ep⟩:=aie;have H:=H.gU axS;clear hv;obtain ⟨⟨v37,MP⟩,e37⟩:∃ y,y=aP 8:=⟨_,M⟩;rw [<- e37] at H h37 Ep;dsimp only at H h37 Ep;subst h37;obtain ⟨A37,c37,rfl,-,-⟩:=Ep.shape;refine kH H (Ra M (Ra M (Ra M ?_)));clear H;intro a H;refine aD ⟨M,?_⟩;refine K7 _ _ ?_;clear K7;refine bL (fun _ K8=>?_);refine bL (fun _ K9=>?_);obtain ⟨G4,rD,ayf,H⟩:=H.qh (Li:=[]) Ep (rows:=I.map fun q=>[li q]) (by simp) (CX _ _);have R7:∀ b o,Gb b=some o->G4 b=some o:=fun b o h=>rD b o (FB b o h);replace hR:=hR.mono R7;replace hE:=hE.mono R7;replace LD:=LD.mono rD;replace LG:=LG.mono rD;replace hgd:=fun j v hj=>aG R7 (hgd j v hj);replace hge:=fun j v hj=>aG R7 (hge j v hj);refine kP H (SC (Rm M (Rl mD M (Rm M (Rl mD M (Rc M (Rm M (Sp 43 M ?_ ?_)))))))) <;> clear H
 ·intro h43 a H
  exact absurd h43 (by simp)
 intro h43 a H
 try have p43:=dF h43
 refine kH H (YM h43 M (YL mD h43 M (YM h43 M (YL mD h43 M (YC h43 M (Pf h43 M (Kn K9 (Cd M ?_ ?_)))))))) <;> clear H K9
 ·intro Fx a H
  exact absurd Fx (by simp)
 intro Fx a H
 try have p49:=dF Fx
 refine kP H (Kc K8 (SQ fun _ aT=>SR fun _ bR=>aj bR M (SB ?_)));clear H K8 bR;intro a H;skip;refine fD (ι:=Nat × GH) (Tc:=[(1,_),(3,_),(4,_),(5,_),(6,_)]) (Lc:=[]) (fun gh=>[(7,vi gh.1)]) (fun gh=>[]) (fun gh=>gh.2) (fun gh=>gh.1<=I.length∧(∀ b o,G4 b=some o->gh.2 b=some o)) (fun gh=>I.length - gh.1) ((0,G4)) (by exact H.sub ⟨M,M,M,M,M,M,aC⟩) ?_ ?_
 ·exact Qm
 clear H;rintro ⟨i,g⟩ a w hI H;dsimp only at hI H;obtain ⟨hi,hgm⟩:=hI;dsimp only [lca,bM] at H;refine kP H (SQ fun _ cu=>SR fun _ dw=>Rm M (Rm M (Rl mD M (Rc M (Kz dw (Cd M ?_ ?_)))))) <;> clear H dw
 ·intro Iq a H
  try have p53:=dT Iq
  have hi2:i < I.length:=by omega
  obtain ⟨bi,oi,rfl,hci⟩:=LX (f:=fun q=>q) LD hi2;obtain ⟨bj,oj,rfl,hcj⟩:=LX (f:=fun q=>q) LG hi2;obtain ⟨bk,ok,rfl,hck⟩:=LX (f:=fun q=>q) ayf hi2;obtain ⟨L,hL1,hL2,hL3⟩:=avl i hi2;have hzL:=Xp hL1;have hzM:=Xp hL3;obtain ⟨hch,hne⟩:=azY hL2;have hft:=atK hL2;rw [show oi+i=oi+i*1 by omega] at hci;rw [show oj+i=oj+i*1 by omega] at hcj;rw [show ok+i=ok+i*1 by omega] at hck;replace hci:=aG hgm hci;replace hcj:=aG hgm hcj;replace hck:=aG hgm hck;refine kP H (Kc cu (SQ fun _ dB=>SB (SQ fun _ dX=>SQ fun _ eu=>?_)));clear H cu;intro a H;refine dI hmx [[],[],[0,1],[0,1,2],[],[],[4,5],[4,5,6],ra 0 8,ra 0 9,ra 0 10,ra 0 10,ra 0 12,ra 0 13,ra 0 10,ra 0 10,(ra 0 10++[14,15]),(ra 0 10++[14,15,16]),ra 0 18,ra 0 19] [] V [_,_,(aH bi (oi+i*1)),_,_,_,(aH bj (oj+i*1)),_,.bool false,_,.slice (some ⟨bi,oi,none⟩) I.length Kr,vi i,(aH bi (oi+i*1)),vi I[i],.slice (some ⟨bk,ok,none⟩) I.length c37,vi i,(aH bk (ok+i*1)),vi I[i],.bool false,_] H (aB (Z0 M (Rm M)) (Z0 M (Rm M)) ?_ (X1 2 58 M fun hG=>Rg aF M (aG hG hci)) (aB (Z0 M (Rm M)) (Z0 M (Rm M)) ?_ (X1 6 62 M fun hG=>Rg aF M (aG hG hcj)) (aB ?_ (Z1 8 64 M (Rm M)) ?_ ?_ (aB ?_ ?_ ?_ ?_ (aB ?_ ?_ ?_ (Z2 9 65 18 74 M (Pf M M)) dz))))) ?_
  ·refine eT 0 56 1 57 M M fun _ a w G1 hG HT H fin=>?_;exact M9
  ·refine eT 4 60 5 61 M M fun _ a w G1 hG HT H fin=>?_;exact M9
  ·refine eT 3 59 7 63 M M fun _ a w G1 hG HT H fin=>?_;refine kH H (Rc M ?_);clear H;intro a H;exact fin H iJ (iP (by simp))
  ·exact Qp
  ·exact Qp
  ·refine zS 10 66 11 67 9 65 M M fun _ a w G1 hG HT H fin=>?_;exact adt
  ·refine eT 12 68 9 65 M M fun _ a w G1 hG HT H fin=>?_;refine sF aF H (wg H M M M) M (H.hp.aI (aG hG hci)) M ?_;exact jH
  ·exact Qp
  ·exact Qp
  ·refine zS 14 70 15 71 9 65 M M fun _ a w G1 hG HT H fin=>?_;exact adt
  ·refine eT 16 72 9 65 M M fun _ a w G1 hG HT H fin=>?_;refine sF aF H (wg H M M M) M (H.hp.aI (aG hG hck)) M ?_;exact jH
  ·refine zS 13 69 17 73 9 65 M M fun _ a w G1 hG HT H fin=>?_;refine Jv H (wg H M M M) M M M M ?_;clear H;intro a H;exact fin H iJ (iP (by simp))
  clear H;intro a w G uD H hv;have H:=H.aM (hv 19 75 M M) M;clear hv;refine aD ⟨M,?_⟩;refine eu _ _ ?_;clear eu;refine sM H M M ?_;refine iD ?_;refine dX _ _ ?_;clear dX;refine bL (fun _ dN=>?_);have hT:∀ b o,G4 b=some o->G b=some o:=fun b o h=>uD b o (hgm b o h);replace hci:=aG uD hci
  have Bt:zR (fun (bV:Nat) (v:ah) (G:GH)=>match bV with|0=>v=.agg D.cells.toArray|1=>v=.slice (some ⟨bi,oi,none⟩) I.length Kr|2=>v=vi i|3=>v=(aH bi (oi+i*1))|4=>v=vi I[i]|5=>E5 L v G|6=>E5 L v G|7=>av G (.sl 11 (L.map ak.dat)) v|8=>v=.bool true|9=>av G (.sl 11 (L.map ak.dat)) v|_=>True):=by intro bV v G G' hm h;(iterate 11 (rcases bV with _|bV;(first|exact h|exact aby hm h|exact av.mono hm h)));exact trivial
  refine yU (hmx) [[],[],[],[1,2],[1,2,3],ra 0 5,ra 0 6,ra 0 7,ra 0 7,ra 0 8,ra 0 10] [10] V V _ Bt H ?_ ?_
  ·clear H;refine aB ?_ ?_ ?_ ?_ (aB ?_ ?_ ?_ ?_ (bN ?_ (bN ?_ (bN (bS M) dz))))
   ·refine eY [] M trivial V Bt M M ?_;exact adg
   ·refine eY [] M trivial V Bt M M ?_;exact AV
   ·refine eY [] M trivial V Bt M M ?_;exact AV
   ·refine eY [(1,78,_),(2,79,_)] M ⟨fun _ _ h=>h,fun _ _ h=>h,aC⟩ V Bt M M ?_;intro aW a w G1 hG HT H fin;exact M9
   ·refine eY [(3,80,_)] M ⟨fun _ _ h=>h,aC⟩ V Bt M M ?_;intro aW a w G1 hG HT H fin;exact U9
   ·refine eY [(0,77,_),(4,81,_)] M ⟨fun _ _ h=>h,fun _ _ h=>h,aC⟩ V Bt M M ?_;intro aW a w G1 hG HT H fin;refine s_call WU H wn M (Xq _ _ H.ro D d.flow I[i] ((hR.mono hT).mono hG).fl O) M ?_;clear H;rintro v82 G82 a w ⟨x82,rfl,Y9⟩ auV H;rw [hL1] at H Y9
    have ayg:E5 L (.tuple #[x82,.bool true]) G82:=by obtain ⟨A,n,c,rfl⟩:=Y9.form;exact ⟨A,n,c,M,Y9⟩
    exact fin H auV (ayg)
   ·intro aW a w G1 _ aK hc hG HT hv;have H:=HT;clear aK;obtain ⟨u82,axX,aij⟩:=hv 5 82 (hc 5 Z) M;(try dsimp only at aij);obtain ⟨A82,n82,c82,rfl,axe⟩:=aij;have H:=H.gU axX;have Hb:=H.full;have H:=Hb;clear hc;refine kH H (Rm M ?_);clear H;intro a H;refine aD ⟨M,?_⟩;exact oV V Bt M M HT Hb hG hv (fun _ _ h=>h) (⟨_,_,_,M,axe⟩) H
   ·intro aW a w G1 _ aK hc hG HT hv;have H:=HT;clear aK;obtain ⟨u76,YX,Ot⟩:=hv 6 76 (hc 6 Z) M;(try dsimp only at Ot);obtain ⟨A76,n76,c76,rfl,aiq⟩:=Ot;have H:=H.gU YX;have Hb:=H.full;have H:=Hb;clear hc;refine lJ H wn M M M ?_;clear H;intro a H;refine aD ⟨M,?_⟩;exact oV V Bt M M HT Hb hG hv (fun _ _ h=>h) (aiq) H
   ·intro aW a w G1 _ aK hc hG HT hv;have H:=HT;clear aK;obtain ⟨u76,YX,Ot⟩:=hv 6 76 (hc 6 Z) M;(try dsimp only at Ot);obtain ⟨A76,n76,c76,rfl,aiq⟩:=Ot;have H:=H.gU YX;have Hb:=H.full;have H:=Hb;clear hc;refine lJ H wn M M M ?_;clear H;intro a H;refine aD ⟨M,?_⟩;exact Ac HT Hb hG hv Bt H M
   intro aW a w G1 _ aK hc hG HT hv;have H:=HT;clear aK;obtain ⟨u83,axY,YB⟩:=hv 7 83 (hc 7 Z) M;(try dsimp only at YB);obtain ⟨A83,n83,c83,rfl⟩:=av.form YB;have H:=H.gU axY;have Hb:=H.full;have H:=Hb;clear hc;refine kH H (Ra M ?_);clear H;intro a H;refine aD ⟨M,?_⟩;exact oV V Bt M M HT Hb hG hv (fun _ _ h=>h) (YB) H
  clear H;intro a w G oH H hv;obtain ⟨u8,zx,mI⟩:=hv 9 8 Z M;(try dsimp only at mI);obtain ⟨A8,n8,c8,rfl⟩:=av.form mI;have H:=H.gU zx;have H:=H.aM (hv 8 84 M M) M;clear hv;refine kH H (Ra M ?_);clear H;intro a H;refine aD ⟨M,?_⟩;refine dN _ _ ?_;clear dN;refine bL (fun _ eO=>?_);replace hT:=fun b o h=>oH b o (hT b o h);replace hci:=aG oH hci
  obtain rfl:n8=L.length:=by simpa using mI.len
  have wD:zR (fun (bV:Nat) (v:ah) (G:GH)=>match bV with|0=>v=.agg E.cells.toArray|1=>v=.slice (some ⟨bi,oi,none⟩) I.length Kr|2=>v=vi i|3=>v=(aH bi (oi+i*1))|4=>v=vi I[i]|5=>E5 (iA (bZ cT cF L)) v G|6=>E5 (iA (bZ cT cF L)) v G|7=>av G (.sl 11 ((iA (bZ cT cF L)).map ak.dat)) v|8=>v=.bool true|9=>av G (.sl 11 ((iA (bZ cT cF L)).map ak.dat)) v|_=>True):=by intro bV v G G' hm h;(iterate 11 (rcases bV with _|bV;(first|exact h|exact aby hm h|exact av.mono hm h)));exact trivial
  refine yU (hmx) [[],[],[],[1,2],[1,2,3],ra 0 5,ra 0 6,ra 0 7,ra 0 7,ra 0 8,ra 0 10] [10] V V _ wD H ?_ ?_
  ·clear H;refine aB ?_ ?_ ?_ ?_ (aB ?_ ?_ ?_ ?_ (bN ?_ (bN ?_ (bN (bS M) dz))))
   ·refine eY [] M trivial V wD M M ?_;intro aW a w G1 hG HT H fin;refine bQ jN (cs:=E.cells) H wn M M (fun j v hj=>H.hp.aI (aG hG (aG hT (hge j v hj)))) M ?_;exact jH
   ·refine eY [] M trivial V wD M M ?_;exact AV
   ·refine eY [] M trivial V wD M M ?_;exact AV
   ·refine eY [(1,87,_),(2,88,_)] M ⟨fun _ _ h=>h,fun _ _ h=>h,aC⟩ V wD M M ?_;intro aW a w G1 hG HT H fin;exact M9
   ·refine eY [(3,89,_)] M ⟨fun _ _ h=>h,aC⟩ V wD M M ?_;intro aW a w G1 hG HT H fin;exact U9
   ·refine eY [(0,86,_),(4,90,_)] M ⟨fun _ _ h=>h,fun _ _ h=>h,aC⟩ V wD M M ?_;intro aW a w G1 hG HT H fin;refine s_call WU H wn M (Xq _ _ H.ro E r.flow I[i] ((hE.mono hT).mono hG).fl O) M ?_;clear H;rintro v91 G91 a w ⟨x91,rfl,hy91⟩ auX H;rw [hL3] at H hy91
    have hx91:E5 (iA (bZ cT cF L)) (.tuple #[x91,.bool true]) G91:=by obtain ⟨A,n,c,rfl⟩:=hy91.form;exact ⟨A,n,c,M,hy91⟩
    exact fin H auX (hx91)
   ·intro aW a w G1 _ aK hc hG HT hv;have H:=HT;clear aK;obtain ⟨u91,axZ,aik⟩:=hv 5 91 (hc 5 Z) M;(try dsimp only at aik);obtain ⟨A91,n91,c91,rfl,axf⟩:=aik;have H:=H.gU axZ;have Hb:=H.full;have H:=Hb;clear hc;refine kH H (Rm M ?_);clear H;intro a H;refine aD ⟨M,?_⟩;exact oV V wD M M HT Hb hG hv (fun _ _ h=>h) (⟨_,_,_,M,axf⟩) H
   ·intro aW a w G1 _ aK hc hG HT hv;have H:=HT;clear aK;obtain ⟨u85,YZ,Ou⟩:=hv 6 85 (hc 6 Z) M;(try dsimp only at Ou);obtain ⟨A85,n85,c85,rfl,air⟩:=Ou;have H:=H.gU YZ;have Hb:=H.full;have H:=Hb;clear hc;refine lJ H wn M M M ?_;clear H;intro a H;refine aD ⟨M,?_⟩;exact oV V wD M M HT Hb hG hv (fun _ _ h=>h) (air) H
   ·intro aW a w G1 _ aK hc hG HT hv;have H:=HT;clear aK;obtain ⟨u85,YZ,Ou⟩:=hv 6 85 (hc 6 Z) M;(try dsimp only at Ou);obtain ⟨A85,n85,c85,rfl,air⟩:=Ou;have H:=H.gU YZ;have Hb:=H.full;have H:=Hb;clear hc;refine lJ H wn M M M ?_;clear H;intro a H;refine aD ⟨M,?_⟩;exact Ac HT Hb hG hv wD H M
   intro aW a w G1 _ aK hc hG HT hv;have H:=HT;clear aK;obtain ⟨u92,aya,YD⟩:=hv 7 92 (hc 7 Z) M;(try dsimp only at YD);obtain ⟨A92,n92,c92,rfl⟩:=av.form YD;have H:=H.gU aya;have Hb:=H.full;have H:=Hb;clear hc;refine kH H (Ra M ?_);clear H;intro a H;refine aD ⟨M,?_⟩;exact oV V wD M M HT Hb hG hv (fun _ _ h=>h) (YD) H
  clear H;intro a w G Ea H hv;obtain ⟨u10,I6,rE⟩:=hv 9 10 Z M;(try dsimp only at rE);obtain ⟨Uo,n10,c10,rfl⟩:=av.form rE;have H:=H.gU I6;have H:=H.aM (hv 8 93 M M) M;clear hv;refine kH H (Ra M ?_);clear H;intro a H;refine aD ⟨M,?_⟩;refine eO _ _ ?_;clear eO;refine bL (fun _ gD=>?_);replace hT:=fun b o h=>Ea b o (hT b o h);replace hci:=aG Ea hci;replace mI:=mI.mono Ea
  obtain rfl:n10=(iA (bZ cT cF L)).length:=by simpa using rE.len
  have Bu:zR (fun (bV:Nat) (v:ah) (G:GH)=>match bV with|0=>v=.agg D.cells.toArray|1=>v=.slice (some ⟨bi,oi,none⟩) I.length Kr|2=>v=vi i|3=>v=(aH bi (oi+i*1))|4=>v=vi I[i]|5=>MU L v G|6=>MU L v G|7=>av G (.sl 1 ((kg L).map AX)) v|8=>v=vi 0|9=>av G (.sl 1 ((kg L).map AX)) v|_=>True):=by intro bV v G G' hm h;(iterate 11 (rcases bV with _|bV;(first|exact h|exact anh hm h|exact av.mono hm h)));exact trivial
  refine yU (hmx) [[],[],[],[1,2],[1,2,3],ra 0 5,ra 0 6,ra 0 7,ra 0 7,ra 0 8,ra 0 10] [10] V V _ Bu H ?_ ?_
  ·clear H;refine aB ?_ ?_ ?_ ?_ (aB ?_ ?_ ?_ ?_ (bN ?_ (bN ?_ (bN (bS M) dz))))
   ·refine eY [] M trivial V Bu M M ?_;exact adg
   ·refine eY [] M trivial V Bu M M ?_;exact AV
   ·refine eY [] M trivial V Bu M M ?_;exact AV
   ·refine eY [(1,96,_),(2,97,_)] M ⟨fun _ _ h=>h,fun _ _ h=>h,aC⟩ V Bu M M ?_;intro aW a w G1 hG HT H fin;exact M9
   ·refine eY [(3,98,_)] M ⟨fun _ _ h=>h,aC⟩ V Bu M M ?_;intro aW a w G1 hG HT H fin;exact U9
   ·refine eY [(0,95,_),(4,99,_)] M ⟨fun _ _ h=>h,fun _ _ h=>h,aC⟩ V Bu M M ?_;intro aW a w G1 hG HT H fin;refine s_call asA H wn M (aA3 _ _ H.ro D d ((hR.mono hT).mono hG) O I[i]) M ?_;clear H;rintro aFM amM a w ⟨x100,rfl,Y8⟩ auy H;rw [hL1] at H Y8
    have ayd:MU L (.tuple #[x100,vi 0]) amM:=by obtain ⟨A,n,c,rfl⟩:=Y8.form;exact ⟨A,n,c,M,Y8⟩
    exact fin H auy (ayd)
   ·intro aW a w G1 _ aK hc hG HT hv;have H:=HT;clear aK;obtain ⟨aFK,axJ,aib⟩:=hv 5 100 (hc 5 Z) M;(try dsimp only at aib);obtain ⟨aEl,n100,aEA,rfl,axd⟩:=aib;have H:=H.gU axJ;have Hb:=H.full;have H:=Hb;clear hc;refine kH H (Rm M ?_);clear H;intro a H;refine aD ⟨M,?_⟩;exact oV V Bu M M HT Hb hG hv (fun _ _ h=>h) (⟨_,_,_,M,axd⟩) H
   ·intro aW a w G1 _ aK hc hG HT hv;have H:=HT;clear aK;obtain ⟨u94,Y0,Ov⟩:=hv 6 94 (hc 6 Z) M;(try dsimp only at Ov);obtain ⟨A94,n94,c94,rfl,ais⟩:=Ov;have H:=H.gU Y0;have Hb:=H.full;have H:=Hb;clear hc;refine lJ H wn M M M ?_;clear H;intro a H;refine aD ⟨M,?_⟩;exact oV V Bu M M HT Hb hG hv (fun _ _ h=>h) (ais) H
   ·intro aW a w G1 _ aK hc hG HT hv;have H:=HT;clear aK;obtain ⟨u94,Y0,Ov⟩:=hv 6 94 (hc 6 Z) M;(try dsimp only at Ov);obtain ⟨A94,n94,c94,rfl,ais⟩:=Ov;have H:=H.gU Y0;have Hb:=H.full;have H:=Hb;clear hc;refine lJ H wn M M M ?_;clear H;intro a H;refine aD ⟨M,?_⟩;exact Ac HT Hb hG hv Bu H M
   intro aW a w G1 _ aK hc hG HT hv;have H:=HT;clear aK;obtain ⟨aFL,axK,IQ⟩:=hv 7 101 (hc 7 Z) M;(try dsimp only at IQ);obtain ⟨amJ,n101,aoo,rfl⟩:=av.form IQ;have H:=H.gU axK;have Hb:=H.full;have H:=Hb;clear hc;refine kH H (Ra M ?_);clear H;intro a H;refine aD ⟨M,?_⟩;exact oV V Bu M M HT Hb hG hv (fun _ _ h=>h) (IQ) H
  clear H;intro a w G Bo H hv;obtain ⟨u12,axL,FL⟩:=hv 9 12 Z M;(try dsimp only at FL);obtain ⟨A12,n12,c12,rfl⟩:=av.form FL;have H:=H.gU axL;have H:=H.aM (hv 8 102 M M) M;clear hv;refine kH H (Ra M ?_);clear H;intro a H;refine aD ⟨M,?_⟩;refine gD _ _ ?_;clear gD;refine bL (fun _ fF=>?_);refine bL (fun _ gK=>?_);replace hT:=fun b o h=>Bo b o (hT b o h);replace mI:=mI.mono Bo;replace rE:=rE.mono Bo
  obtain rfl:n12=(kg L).length:=by simpa using FL.len
  refine kP H (SC (Rm M (Rn M (Rm M (Sp 105 M ?_ ?_))))) <;> clear H
  ·intro oW a H
   exact absurd oW Z
  intro oW a H
  try have Jq:=dF oW
  refine kH H (YM oW M (YN oW M (Pf oW M (Rm M (Sp 109 M ?_ ?_))))) <;> clear H
  ·intro uy a H
   exact absurd uy Z
  intro uy a H
  try have akc:=dF uy
  refine kH H (YM uy M (YC uy M (Pf uy M (Kn gK (Cd M ?_ ?_))))) <;> clear H gK
  ·intro h112 a H
   exact absurd h112 Z
  intro h112 a H
  try have aFD:=dF h112
  refine kP H (Kc fF (SR fun _ jg=>aj jg M (SR fun _ kX=>aj kX M (SQ fun _ kQ=>SR fun _ jP=>Rm M ?_))));clear H fF jg kX;intro a H;refine s_call afU H wn M (akI _ _ H.ro L _ mI O hne) M ?_;clear H;rintro aFP amN a w rfl Yo H;replace hT:=fun b o h=>Yo b o (hT b o h);replace rE:=rE.mono Yo;replace FL:=FL.mono Yo;obtain ⟨T,RH⟩:∃ T:ByteArray,T=⟨(jD L).toArray⟩:=⟨_,M⟩
  have hTv:lX T=true:=by rw [RH];exact txv fun x hx=>(hch x hx).1
  have hTs:T.size=(jD L).length:=by rw [RH];exact List.size_toArray
  have hTl:=aaI L;have hvl:=amf L;have hfl:=Xn L
  have avh:nX T (kg L) 0 0 (wO L) T.size (kg L).length:=by
   have h:=nX.flow L ⟨#[]⟩ [] hch
   have e0:(⟨#[]⟩++⟨(jD L).toArray⟩:ByteArray)=T:=by rw [RH];apply ByteArray.ext;simp
   rw [e0,jA] at h;exact h
  rw [<- RH] at H;refine aBZ iW H wn M M ?_;clear H;intro anv a w aEL H;refine jP _ _ ?_;clear jP;refine AY ?_;skip;refine fD (ι:=Nat × Nat × List UInt8 × List UInt8) (Tc:=[(1,_),(3,_),(4,_),(5,_),(6,_),(7,_),(10,_),(12,_),(115,_)]) (Lc:=[]) (fun gh=>[(14,.string ⟨gh.2.2.1.toArray⟩),(15,vi gh.2.1)]) (fun gh=>[(anv,.stringIter T gh.1)]) (fun gh=>amN) (fun gh=>gh.2.2.1++gh.2.2.2=wO L∧nX T (kg L) gh.1 gh.2.1 gh.2.2.2 T.size (kg L).length∧nL T gh.1 < 0∧gh.1<=T.size) (fun gh=>T.size - gh.1) ((0,0,[],wO L)) (by exact H.sub ⟨M,M,M,M,M,M,M,M,M,M,M,aC⟩) ?_ ?_
  ·exact ⟨M,avh,by simpa [lX] using hTv,kY _⟩
  clear H;rintro ⟨p,k,acc,B⟩ a w hI H;dsimp only at hI H;obtain ⟨hacc,hRn,hfs,hpl⟩:=hI;have avj:=cO List.length hacc;rw [gF] at avj;dsimp only [lca,bM] at H;refine cZ (fun _ mE=>?_);refine aBX (i:=0) H wn M M M ?_;clear H;intro a w H;dsimp only [List.set] at H;refine lJ H wn M azK M ?_;clear H;intro a H;refine mE _ _ ?_;clear mE;refine kP H (SQ fun _ mF=>Cd M ?_ ?_) <;> clear H
  ·intro Ip a H
   try have C8:=dT Ip
   rw [ajN C8,ajM C8] at H;obtain ⟨hd1,hk1,C,hC1,hC2⟩:=hRn.one C8;have hdi:=WC hfs C8;have hvd:=Px hfs C8;have hde:=WB C8 hd1;have hen:=ata hfs C8;rw [hde.1] at H hen
   have hFk:(kg L).getD k false=(kg L)[k]:=by rw [List.getD_eq_getElem?_getD,eB hk1,Option.getD_some]
   obtain ⟨bf,of_,rfl,hcf⟩:=aoe FL hk1;refine kP H (Kc mF (SB (SR fun _ jQ=>?_)));clear H mF;intro a H;refine lJ H wn M M M ?_;clear H;intro a H;refine kH H (aj jQ M (SQ fun _ oM=>SR fun _ pQ=>Rm M (Rm M (Rl Pm M (Rc M (Kz pQ (Cd M ?_ ?_))))))) <;> clear H jQ pQ
   ·intro h122 a H
    try have aAn:=dT h122
    exfalso;omega
   intro h122 a H
   try have aAn:=dF h122
   refine kP H (Kc oM (SQ fun _ oN=>SR fun _ qz=>Rm M (Rm M (Ri Pm ug M M (Rg ug M hcf (Kz qz (Cd M ?_ ?_))))))) <;> clear H oM qz
   ·intro NT a H
    try have aAo:=dT NT
    refine kP H (SC (Rm M (Rm M ?_)));clear H;intro a H;refine aB0 aDq iW H wn M M ?_;clear H;intro a H
    refine akP H wn M M (by
     have e1:(⟨acc.toArray⟩:ByteArray).size=acc.length:=List.size_toArray;have e2:=aCM hen;rw [List.length_take] at e2
     omega) rfl ?_;clear H;intro a H
    rw [show (⟨acc.toArray⟩:ByteArray)++Utf8.encode ((Utf8.decode T p).1:Int)=⟨(acc++(T.data.toList.drop p).take (gM T p).2.1).toArray⟩ from aoz hen] at H;refine kH H (bF oN M (SC (Rm M (Rd M (Ra M ?_)))));clear H oN;intro a H;refine aD ?_;refine dQ ((p+(gM T p).2.1,k+1,acc++(T.data.toList.drop p).take (gM T p).2.1,C)) (by exact H.sub ⟨M,M,M,M,M,M,M,M,M,M,M,aC⟩) ?_
    (try dsimp only);exact ⟨by rw [<- hacc,hC1,ay (by rw [hFk];simpa using NT),iL],hC2,hvd.2,hdi.2⟩
   intro NT a H
   try have aAo:=dF NT
   refine kP H (Kc oN (SC (Rm M (Rd M (Ra M ?_)))));clear H oN;intro a H;refine aD ?_;refine dQ ((p+(gM T p).2.1,k+1,acc,C)) (by exact H.sub ⟨M,M,M,M,M,M,M,M,M,M,M,aC⟩) ?_
   (try dsimp only);exact ⟨by rw [<- hacc,hC1,au (by rw [hFk];simpa using NT),jA],hC2,hvd.2,hdi.2⟩
  intro Ip a H
  try have C8:=dF Ip
  obtain ⟨rfl,rfl⟩:=hRn.fin O;rw [fG] at hacc;subst hacc;refine dY ?_;refine kQ _ _ ?_;clear kQ;refine kP H (SR fun _ pW=>Rm M (Rm M (Rl Pm M (Rc M (Rm M (Sp 137 M ?_ ?_)))))) <;> clear H
  ·intro Fw a H
   exact absurd Fw (by simp)
  intro Fw a H
  try have aFF:=dF Fw
  refine kH H (YM Fw M (YM Fw M ?_));clear H;intro a H;refine s_call afU H (wg H M M Fw) M (akI _ _ H.ro _ _ rE O (azV _)) M ?_;clear H;rintro aFS amQ a w rfl awx H;rw [hft] at H;have hgz:∀ b o,G4 b=some o->amQ b=some o:=fun b o h=>awx b o (hT b o h);refine akV H (wg H M M Fw) M M M ?_;clear H;intro a H;refine kH H (Pf Fw M (Kz pW (Cd M ?_ ?_))) <;> clear H pW
  ·intro XH a H
   exact absurd XH (by simp)
  intro XH a H
  try have aFG:=dF XH
  refine kP H (Kc dB (SC (Rm M (Rd M (Ra M ?_)))));clear H dB;intro a H;refine aD ?_;refine dQ ((i+1,_)) (by exact (H.eD (Pl:=[_]) (dK:=[]) [] Z M).sub ⟨M,M,M,M,M,M,aC⟩) ?_
  (try dsimp only);exact ⟨O,hgz⟩
 intro Iq a H
 try have p53:=dF Iq
 refine dY ?_;refine aT _ _ ?_;clear aT;exact kP H (SR fun _ qR=>aj qR M (LR results11 M fun H=>H.rt (by first|rfl|(simp_all;done))))
end
section
open Go.ChangeShapes Go.RowKit Go.Deep
abbrev sS (W:World):GH:=fun k=>W.heap[k]?
theorem auo {W:World} {b o:Nat} {v:ah} (h:W.cell? ⟨b,o,none⟩=some v):aI (sS W) b o=some v:=by
 unfold World.cell? at h
 unfold aI sS
 split at h
 ·rename_i c e f hh
  simp only at hh
  rw [hh];simpa using h
 cases h
theorem ajl {α:Type} {p:Nat->α->Prop}:∀ n:Nat,(∀ i,i < n->∃ x,p i x)->∃ l:List α,l.length=n∧∀ i x,l[i]?=some x->p i x
 | 0,_=>⟨[],M,fun i x h=>by simp at h⟩
 | n+1,h=>by
  obtain ⟨l,hl,hp⟩:=ajl n (fun i hi=>h i O);obtain ⟨x,hx⟩:=h n O;refine ⟨l++[x],by simp [hl],fun i y hy=>?_⟩
  by_cases hi:i < l.length
  ·exact hp i y (by rwa [yO hi] at hy)
  rw [um O] at hy
  have hin:i - l.length=0:=by
   have:=(jZ.1 hy).1
   simp at this;omega
  rw [hin] at hy
  simp only [Cj,pX] at hy
  subst hy;rw [show i=n by omega];exact hx
theorem aok {H:Type} (d:DataW H):1<=Rows.uptoBulk d:=by
 cases d <;> (try simp only [Rows.uptoBulk]) <;> (try omega)
 rename_i x;cases x <;> simp only [Rows.uptoBulk] <;> omega
theorem aep {H ρ:Type} {dat:ρ->List Dat}:∀ (rs:List ρ) (D:Nat->DataW H),(∀ i r,rs[i]?=some r->bX (dat r)+1<=8*Rows.uptoBulk (D i))->dM (rs.map dat)<=8*Rows.uptoBulkAll ((List.range rs.length).map D)
 | [],D,_=>kY _
 | r :: rs,D,h=>by
  have h0:=h 0 r M;have hp:=aok (D 0);have ih:=aep rs (fun i=>D (i+1)) (fun i r hr=>h (i+1) r (by simpa using hr));rw [kR,List.range_succ_eq_map]
  simp only [dO,List.map_map,dM,Rows.uptoBulkAll]
  have e:(List.map (D ∘ Nat.succ) (List.range rs.length))=(List.map (fun i=>D (i+1)) (List.range rs.length)):=rfl;rw [e];omega
theorem aeo {H:Type} {D:Nat->DataW H}:∀ {n i:Nat},i < n->Rows.uptoBulk (D i)<=Rows.uptoBulkAll ((List.range n).map D)
 | 0,i,h=>absurd h O
 | n+1,i,h=>by
  have key:∀ (l m:List (DataW H)),Rows.uptoBulkAll (l++m)=Rows.uptoBulkAll l+Rows.uptoBulkAll m:=by
   intro l m
   induction l with
   | nil=>simp [Rows.uptoBulkAll]
   | cons x l ih=>simp only [pR,Rows.uptoBulkAll,ih];omega
  rw [List.range_succ,ji,key]
  by_cases hi:i < n
  ·have:=aeo (D:=D) hi;omega
  have:i=n:=by omega
  subst this
  simp only [dO,qZ,Rows.uptoBulkAll];omega
section
variable {H:Type} {enc:TypeId × ah->H} {P:Program} {W:World} {base:Nat} {spare:Nat->Bool} {held:Bool}
theorem xH {ρ:Type} {dat:ρ->List Dat} {t e:TypeId} {sz:Nat} (hsz:0 < sz) {fuel:Nat} {cs:List ah} {x:DataW H × List MemPlace} (ht:P.underlying t=some (.slice e)) (hc:P.cellsOf e=sz) (h:DataW.trod enc P W base spare held fuel t cs=some x)
  (row:∀ n cs' D Pl,DataW.trod enc P W base spare held n e cs'=some (D,Pl)->Rows.uptoBulk D < Rows.uptoBulk x.1->∃ r:ρ,aX (sS W) (dat r) cs'∧bX (dat r)+1<=8*Rows.uptoBulk D) :
  ∃ (rs:List ρ) (v:ah),cs=[v]∧av (sS W) (.sl sz (rs.map dat)) v∧dM (rs.map dat)+8<=8*Rows.uptoBulk x.1:=by
 rcases open_slice ht h with ⟨rfl,rfl⟩|⟨a,len,cap,m,n,D,Pl,rfl,hb,hl,hm,hmm,rfl,hx⟩
 ·exact ⟨[],_,M,av.uM M Z,by simp [dM,Rows.uptoBulk]⟩
 obtain ⟨rs,hrl,hrs⟩:=ajl (p:=fun i (r:ρ)=>∃ cs',W.cells? base (a.add (i*sz)) sz=some cs'∧aX (sS W) (dat r) cs'∧bX (dat r)+1<=8*Rows.uptoBulk (D i)) len (fun i hi=>by
  have him:i < m:=by rw [hmm];split <;> omega
  obtain ⟨cs',h1,h2⟩:=hx i him;rw [hc] at h1;have hb1:=aeo (D:=D) hi;obtain ⟨r,hr1,hr2⟩:=row n cs' (D i) (Pl i) h2 (by simp only [Rows.uptoBulk];omega)
  exact ⟨r,cs',h1,hr1,hr2⟩)
 refine ⟨rs,_,M,?_,?_⟩
 ·simp only [av,bK]
  refine ⟨some a,cap,by rw [hrl],O,hm,fun hne=>?_⟩;obtain ⟨b,off,spot⟩:=a
  have hlen:0 < rs.length:=by cases rs with|nil=>simp at hne|cons _ _=>simp
  obtain ⟨cs0,h1,-,-⟩:=hrs 0 rs[0] (eB hlen);obtain ⟨-,hl0,hg0⟩:=World.cells?_some h1
  have hspot:spot=none:=by
   have h3:=hg0 0 hsz;rw [eB O] at h3
   simpa [Addr.add] using World.cell?_spot h3
  subst hspot;refine ⟨b,off,M,oC.mk fun k r hk=>?_⟩;rw [qD] at hk;obtain ⟨y,hy,rfl⟩:=oO.1 hk;obtain ⟨cs',h2,h3,-⟩:=hrs k y hy;obtain ⟨-,hl1,hg1⟩:=World.cells?_some h2;refine ⟨cs',hl1,fun j u hj=>auo ?_,h3⟩
  have hj2:j < sz:=by rw [<- hl1];exact (jZ.1 hj).1
  have:=hg1 j hj2;rw [add_add,Go.WideShapes.add_plain] at this;rw [show off+k*sz+j=off+(k*sz+j) by omega,this];exact hj
 have:=aep rs D (fun i r hr=>(hrs i r hr).choose_spec.2.2);rw [hrl] at this
 simp only [Rows.uptoBulk];omega
end
structure uQ (P:Program) (t:TypeId) (sz:Nat) (fs:List (TypeId × Nat × Nat)):Prop where
 und:P.underlying t=some (.struct (P.fieldsOf t))
 cells:P.cellsOf t=sz
 NM:(P.fieldsOf t).toList.map (fun f=>(f.type,f.offset,P.cellsOf f.type))=fs
theorem wJ {P:Program} {H:Type} {enc:TypeId × ah->H} {W:World} {base:Nat} {spare:Nat->Bool} {held:Bool} {t:TypeId} {sz fuel:Nat} {fs:List (TypeId × Nat × Nat)} {cs:List ah} {x:DataW H × List MemPlace} (hs:uQ P t sz fs) (h:DataW.trod enc P W base spare held fuel t cs=some x) :
  ∃ (xs:List (DataW H × List MemPlace)) (n:Nat),x.1=.agg (xs.map (·.1))∧cs.length=sz∧xs.length=fs.length∧∀ (i:Nat) (ti:TypeId) (off k:Nat),fs[i]?=some (ti,off,k)->DataW.trod enc P W base spare held n ti ((cs.drop off).take k)=xs[i]?:=by
 obtain ⟨xs,n,-,rfl,hl,hxl,hf⟩:=DataW.trod_struct hs.und h;refine ⟨xs,n,M,by rw [hl,hs.cells],by rw [hxl,<- hs.NM];simp,fun i ti off k hi=>?_⟩;rw [<- hs.NM,qD] at hi;obtain ⟨f,hf1,hf2⟩:=oO.1 hi
 simp only [iX] at hf2
 obtain ⟨rfl,rfl,rfl⟩:=hf2;exact hf i f (by simpa using hf1)
section
variable {H:Type} {enc:TypeId × ah->H} {W:World} {base:Nat} {spare:Nat->Bool} {held:Bool}
theorem aCz:uQ prog 187 2 [(3,0,1),(3,1,1)]:=⟨V,V,V⟩
theorem akp {n:Nat} {cs:List ah} {D:DataW H} {Pl:List MemPlace} (h:DataW.trod enc prog W base spare held n 187 cs=some (D,Pl)):∃ r:aN,aX (sS W) r.dat cs∧bX r.dat+1<=8*Rows.uptoBulk D:=by
 obtain ⟨xs,m,hx,hl,hxl,hf⟩:=wJ aCz h
 match cs,hl,xs,hxl with
 | [c0,c1],_,[y0,y1],_ =>
  have h0:=hf 0 _ _ _ M;have h1:=hf 1 _ _ _ M;obtain ⟨k0,e0,d0,-⟩:=DataW.trod_int underlying3 h0;obtain ⟨k1,e1,d1,-⟩:=DataW.trod_int underlying3 h1
  simp at e0 e1
  subst e0 e1
  simp only at hx
  refine ⟨⟨k0,k1⟩,?_,?_⟩
  ·simp [aX,aN.dat,av,Value.oneCell']
  rw [hx];simp [d0,d1,aN.dat,bX,nU,Rows.uptoBulk,Rows.uptoBulkAll]
theorem aCs:uQ prog 159 2 [(3,0,1),(3,1,1)]:=⟨V,V,V⟩
theorem aAL {n:Nat} {cs:List ah} {D:DataW H} {Pl:List MemPlace} (h:DataW.trod enc prog W base spare held n 159 cs=some (D,Pl)):∃ r:gT,aX (sS W) r.dat cs∧bX r.dat+1<=8*Rows.uptoBulk D:=by
 obtain ⟨xs,m,hx,hl,hxl,hf⟩:=wJ aCs h
 match cs,hl,xs,hxl with
 | [c0,c1],_,[y0,y1],_ =>
  have h0:=hf 0 _ _ _ M;have h1:=hf 1 _ _ _ M;obtain ⟨k0,e0,d0,-⟩:=DataW.trod_int underlying3 h0;obtain ⟨k1,e1,d1,-⟩:=DataW.trod_int underlying3 h1
  simp at e0 e1
  subst e0 e1
  simp only at hx
  refine ⟨⟨k0,k1⟩,?_,?_⟩
  ·simp [aX,gT.dat,av,Value.oneCell']
  rw [hx];simp [d0,d1,gT.dat,bX,nU,Rows.uptoBulk,Rows.uptoBulkAll]
theorem aCv:uQ prog 161 4 [(3,0,1),(3,1,1),(3,2,1),(4,3,1)]:=⟨V,V,V⟩
theorem aAO {n:Nat} {cs:List ah} {D:DataW H} {Pl:List MemPlace} (h:DataW.trod enc prog W base spare held n 161 cs=some (D,Pl)):∃ r:bW,aX (sS W) r.dat cs∧bX r.dat+1<=8*Rows.uptoBulk D:=by
 obtain ⟨xs,m,hx,hl,hxl,hf⟩:=wJ aCv h
 match cs,hl,xs,hxl with
 | [c0,c1,c2,c3],_,[y0,y1,y2,y3],_ =>
  have h0:=hf 0 _ _ _ M;have h1:=hf 1 _ _ _ M;have h2:=hf 2 _ _ _ M;have h3:=hf 3 _ _ _ M;obtain ⟨k0,e0,d0,-⟩:=DataW.trod_int underlying3 h0;obtain ⟨k1,e1,d1,-⟩:=DataW.trod_int underlying3 h1;obtain ⟨k2,e2,d2,-⟩:=DataW.trod_int underlying3 h2;obtain ⟨k3,e3,d3⟩:=DataW.trod_bool underlying4 h3
  simp at e0 e1 e2 e3
  subst e0 e1 e2 e3
  simp only at hx
  refine ⟨⟨k0,k1,k2,k3⟩,?_,?_⟩
  ·simp [aX,bW.dat,av,Value.oneCell']
  rw [hx];simp [d0,d1,d2,d3,bW.dat,bX,nU,Rows.uptoBulk,Rows.uptoBulkAll]
theorem aCy:uQ prog 27 4 [(3,0,1),(3,1,1),(24,2,1),(25,3,1)]:=⟨V,V,V⟩
theorem aCt:uQ prog 29 5 [(23,0,1),(27,1,4)]:=⟨V,V,V⟩
theorem aey:prog.cellsOf 187=2:=by kernel_rfl
theorem aoC:prog.cellsOf 159=2:=by kernel_rfl
theorem aoD:prog.cellsOf 161=4:=by kernel_rfl
theorem Tm {n:Nat} {cs:List ah} {x:DataW H × List MemPlace} (h:DataW.trod enc prog W base spare held n 29 cs=some x):∃ (r:dD) (p d l:ah),cs=[p,vi r.marks.ins,vi r.marks.move,d,l]∧jG (sS W) r p d l∧nH r+15<=8*Rows.uptoBulk x.1:=by
 obtain ⟨xs,m,hx,hl,hxl,hf⟩:=wJ aCt h
 match cs,hl,xs,hxl with
 | [c0,c1,c2,c3,c4],_,[y0,y1],_ =>
  have h0:=hf 0 _ _ _ M;have h1:=hf 1 _ _ _ M;obtain ⟨ps,pv,e0,rp,sp⟩:=xH (dat:=aN.dat) (sz:=2) O underlying23 aey h0 (fun n cs' D Pl hh _=>akp hh);obtain ⟨zs,m2,hz,hzl,hzx,OD⟩:=wJ aCy h1
  match zs,hzx with
  | [z0,z1,z2,z3],_ =>
   have g0:=OD 0 _ _ _ M;have g1:=OD 1 _ _ _ M;have g2:=OD 2 _ _ _ M;have g3:=OD 3 _ _ _ M;obtain ⟨k0,e1,d0,-⟩:=DataW.trod_int underlying3 g0;obtain ⟨k1,e2,d1,-⟩:=DataW.trod_int underlying3 g1;obtain ⟨ds,dv,e3,rd,sd⟩:=xH (dat:=gT.dat) (sz:=2) O underlying24 aoC g2 (fun n cs' D Pl hh _=>aAL hh);obtain ⟨ls,lv,e4,rl,sl⟩:=xH (dat:=bW.dat) (sz:=4) O underlying25 aoD g3 (fun n cs' D Pl hh _=>aAO hh)
   simp at e0 e1 e2 e3 e4
   subst e0 e1 e2 e3 e4;refine ⟨⟨ps,⟨k0,k1,ds,ls⟩⟩,_,_,_,M,⟨rp,rd,rl⟩,?_⟩;have hzh:=GJ ⟨ps,⟨k0,k1,ds,ls⟩⟩
   simp only at hzh
   rw [hx]
   simp only [dO,qZ,Rows.uptoBulk,Rows.uptoBulkAll,hz,d0,d1]
   omega
theorem aCu:uQ prog 68 11 [(3,0,1),(3,1,1),(3,2,1),(9,3,1),(29,4,5),(22,9,1),(66,10,1)]:=⟨V,V,V⟩
theorem aCA:uQ prog 74 6 [(29,0,5),(72,5,1)]:=⟨V,V,V⟩
theorem aCq:uQ prog 76 7 [(3,0,1),(29,1,5),(22,6,1)]:=⟨V,V,V⟩
theorem Wd:prog.cellsOf 68=11:=by kernel_rfl
theorem aoG:prog.cellsOf 74=6:=by kernel_rfl
theorem aoA:prog.cellsOf 76=7:=by kernel_rfl
theorem VZ {p:Prop} (h:p:=by
 simp only [dO,qZ,Rows.uptoBulk,Rows.uptoBulkAll]):p:=h
theorem ako:∀ (N:Nat) (n:Nat) (cs:List ah) (D:DataW H) (Pl:List MemPlace),DataW.trod enc prog W base spare held n 68 cs=some (D,Pl)->Rows.uptoBulk D < N->∃ r:ak,aX (sS W) r.dat cs∧bX r.dat+1<=8*Rows.uptoBulk D
 | 0,_,_,_,_,_,hN=>absurd hN O
 | N+1,n,cs,D,Pl,h,hN=>by
  have ih:=ako N;obtain ⟨xs,m,hx,hl,hxl,hf⟩:=wJ aCu h
  match cs,hl,xs,hxl with
  | [c0,c1,c2,c3,c4,c5,c6,c7,c8,c9,c10],_,[y0,y1,y2,y3,y4,y5,y6],_ =>
   have h0:=hf 0 _ _ _ M;have h1:=hf 1 _ _ _ M;have h2:=hf 2 _ _ _ M;have h3:=hf 3 _ _ _ M;have h4:=hf 4 _ _ _ M;have h5:=hf 5 _ _ _ M;have h6:=hf 6 _ _ _ M
   simp only at hx
   have hD:Rows.uptoBulk D=Rows.uptoBulk y0.1+(Rows.uptoBulk y1.1+(Rows.uptoBulk y2.1+(Rows.uptoBulk y3.1+(Rows.uptoBulk y4.1+(Rows.uptoBulk y5.1+(Rows.uptoBulk y6.1+0))))))+1:=by
    rw [hx];exact VZ
   obtain ⟨k0,e0,d0,-⟩:=DataW.trod_int underlying3 h0;obtain ⟨k1,e1,d1,-⟩:=DataW.trod_int underlying3 h1;obtain ⟨k2,e2,d2,-⟩:=DataW.trod_int underlying3 h2;obtain ⟨s,e3,d3,-⟩:=DataW.trod_string underlying9 h3;obtain ⟨hd,p,d,l,e4,rh,sh⟩:=Tm h4;obtain ⟨fl,fv,e5,rf,sf⟩:=xH (dat:=ak.dat) (sz:=11) O underlying22 Wd h5 (fun n cs' D' dK hh hlt=>ih n cs' D' dK hh O)
   obtain ⟨rs,rv,e6,rr,sr⟩:=xH (dat:=aO.dat) (sz:=6) O underlying66 aoG h6 (fun n cs' D' dK hh hlt=>by
    obtain ⟨xs,m,hx,hl,hxl,hf⟩:=wJ aCA hh
    match cs',hl,xs,hxl with
    | [a0,a1,a2,a3,a4,a5],_,[w0,w1],_ =>
     have g0:=hf 0 _ _ _ M;have g1:=hf 1 _ _ _ M
     simp only at hx
     have hD':Rows.uptoBulk D'=Rows.uptoBulk w0.1+(Rows.uptoBulk w1.1+0)+1:=by
      rw [hx];exact VZ
     obtain ⟨hd2,p2,d2',l2,q0,rh2,sh2⟩:=Tm g0
     obtain ⟨cl,cv,q1,rc,sc⟩:=xH (dat:=aQ.dat) (sz:=7) O underlying72 aoA g1 (fun n cs'' D'' aEx Yk hlt2=>by
      obtain ⟨xs,m,hx2,hl2,ayh,hf2⟩:=wJ aCq Yk
      match cs'',hl2,xs,ayh with
      | [b0,b1,b2,b3,b4,b5,b6],_,[v0,v1,v2],_ =>
       have u0:=hf2 0 _ _ _ M;have u1:=hf2 1 _ _ _ M;have u2:=hf2 2 _ _ _ M
       simp only at hx2
       have aEI:Rows.uptoBulk D''=Rows.uptoBulk v0.1+(Rows.uptoBulk v1.1+(Rows.uptoBulk v2.1+0))+1:=by
        rw [hx2];exact VZ
       obtain ⟨j0,t0,z0,-⟩:=DataW.trod_int underlying3 u0;obtain ⟨hd3,p3,d3',l3,t1,rh3,sh3⟩:=Tm u1;obtain ⟨Xl,fv3,t2,rf3,sf3⟩:=xH (dat:=ak.dat) (sz:=11) O underlying22 Wd u2 (fun n cs3 D3 Pl3 hh3 hlt3=>ih n cs3 D3 Pl3 hh3 O)
       simp at t0 t1 t2
       obtain ⟨rfl,rfl,rfl,rfl,rfl⟩:=t1;subst t0 t2;have hz:=zO (aQ.mk j0 hd3 Xl)
       simp only [aQ.head,aQ.flow] at hz
       have bz:Rows.uptoBulk v0.1=1:=by rw [z0];rfl
       exact ⟨aQ.mk j0 hd3 Xl,aX.SG (x:=aQ.mk j0 hd3 Xl) rh3 rf3,by simp only [bq] at hz;omega⟩)
     simp at q0 q1
     obtain ⟨rfl,rfl,rfl,rfl,rfl⟩:=q0;subst q1;have hz:=zP (aO.mk hd2 cl)
     simp only [aO.head,aO.cells] at hz
     exact ⟨aO.mk hd2 cl,aX.SH (x:=aO.mk hd2 cl) rh2 rc,by simp only [gH] at hz;omega⟩)
   simp at e0 e1 e2 e3 e4 e5 e6
   obtain ⟨rfl,rfl,rfl,rfl,rfl⟩:=e4;subst e0 e1 e2 e3 e5 e6;have hz:=uP (ak.mk k0 k1 k2 s hd fl rs)
   simp only [ak.text,ak.head,ak.flow,ak.rows] at hz
   have b0:Rows.uptoBulk y0.1=1:=by rw [d0];rfl
   have b1:Rows.uptoBulk y1.1=1:=by rw [d1];rfl
   have b2:Rows.uptoBulk y2.1=1:=by rw [d2];rfl
   have b3:Rows.uptoBulk y3.1=s.size+1:=by rw [d3];show s.data.toList.length+1=s.data.size+1;rw [pY]
   exact ⟨ak.mk k0 k1 k2 s hd fl rs,aX.mkItem (x:=ak.mk k0 k1 k2 s hd fl rs) rh rf rr,by simp only [bq,fQ] at hz;omega⟩
theorem aAN {n:Nat} {cs:List ah} {x:DataW H × List MemPlace} (h:DataW.trod enc prog W base spare held n 22 cs=some x):∃ (l:List ak) (v:ah),cs=[v]∧av (sS W) (.sl 11 (l.map ak.dat)) v∧bq l+8<=8*Rows.uptoBulk x.1 :=
 xH (dat:=ak.dat) (sz:=11) O underlying22 Wd h (fun n cs' D' dK hh _=>ako _ n cs' D' dK hh (Nat.lt_succ_self _))
end
end
section
open Go.ChangeShapes Go.RowKit Go.Deep
theorem ED {ρ:Type} {dat:ρ->List Dat}:∀ {l:List ρ} {x:ρ},x∈l->bX (dat x)+1<=dM (l.map dat)
 | y :: l,x,h=>by
  rw [dO,dM]
  rcases gu.1 h with rfl|h
  ·omega
  have:=ED (dat:=dat) h;omega
section
variable {H:Type} {enc:TypeId × ah->H} {W:World} {base:Nat} {spare:Nat->Bool} {held:Bool}
theorem aCD:uQ prog 192 6 [(3,0,1),(3,1,1),(9,2,1),(3,3,1),(3,4,1),(23,5,1)]:=⟨V,V,V⟩
theorem aoI:prog.cellsOf 192=6:=by kernel_rfl
theorem aAT {n:Nat} {cs:List ah} {D:DataW H} {Pl:List MemPlace} (h:DataW.trod enc prog W base spare held n 192 cs=some (D,Pl)):∃ r:cK,aX (sS W) r.dat cs∧bX r.dat+1<=8*Rows.uptoBulk D:=by
 obtain ⟨xs,m,hx,hl,hxl,hf⟩:=wJ aCD h
 match cs,hl,xs,hxl with
 | [c0,c1,c2,c3,c4,c5],_,[y0,y1,y2,y3,y4,y5],_ =>
  have h0:=hf 0 _ _ _ M;have h1:=hf 1 _ _ _ M;have h2:=hf 2 _ _ _ M;have h3:=hf 3 _ _ _ M;have h4:=hf 4 _ _ _ M;have h5:=hf 5 _ _ _ M
  simp only at hx
  have hD:Rows.uptoBulk D=Rows.uptoBulk y0.1+(Rows.uptoBulk y1.1+(Rows.uptoBulk y2.1+(Rows.uptoBulk y3.1+(Rows.uptoBulk y4.1+(Rows.uptoBulk y5.1+0)))))+1:=by rw [hx];simp only [dO,qZ,Rows.uptoBulk,Rows.uptoBulkAll]
  obtain ⟨k0,e0,d0,-⟩:=DataW.trod_int underlying3 h0;obtain ⟨k1,e1,d1,-⟩:=DataW.trod_int underlying3 h1;obtain ⟨k2,e2,d2,-⟩:=DataW.trod_string underlying9 h2;obtain ⟨k3,e3,d3,-⟩:=DataW.trod_int underlying3 h3;obtain ⟨k4,e4,d4,-⟩:=DataW.trod_int underlying3 h4;obtain ⟨k5,q5,e5,r5,d5⟩:=xH (dat:=aN.dat) (sz:=2) O underlying23 aey h5 (fun n cs' D Pl hh _=>akp hh)
  simp at e0 e1 e2 e3 e4 e5
  subst e0 e1 e2 e3 e4 e5
  have b0:Rows.uptoBulk y0.1=1:=by rw [d0];rfl
  have b1:Rows.uptoBulk y1.1=1:=by rw [d1];rfl
  have b2:Rows.uptoBulk y2.1=k2.size+1:=by rw [d2];show k2.data.toList.length+1=k2.data.size+1;rw [pY]
  have b3:Rows.uptoBulk y3.1=1:=by rw [d3];rfl
  have b4:Rows.uptoBulk y4.1=1:=by rw [d4];rfl
  refine ⟨⟨k0,k1,k2,k3,k4,k5⟩,?_,?_⟩
  ·exact ⟨_,_,M,(by simp [av,Value.oneCell']),⟨_,_,M,(by simp [av,Value.oneCell']),⟨_,_,M,(by simp [av,Value.oneCell']),⟨_,_,M,(by simp [av,Value.oneCell']),⟨_,_,M,(by simp [av,Value.oneCell']),⟨_,_,M,r5,M⟩⟩⟩⟩⟩⟩
  simp only [cK.dat,bX,nU];omega
theorem aCx:uQ prog 96 4 [(3,0,1),(3,1,1),(9,2,1),(3,3,1)]:=⟨V,V,V⟩
theorem aoF:prog.cellsOf 96=4:=by kernel_rfl
theorem aAP {n:Nat} {cs:List ah} {D:DataW H} {Pl:List MemPlace} (h:DataW.trod enc prog W base spare held n 96 cs=some (D,Pl)):∃ r:qB,aX (sS W) r.dat cs∧bX r.dat+1<=8*Rows.uptoBulk D:=by
 obtain ⟨xs,m,hx,hl,hxl,hf⟩:=wJ aCx h
 match cs,hl,xs,hxl with
 | [c0,c1,c2,c3],_,[y0,y1,y2,y3],_ =>
  have h0:=hf 0 _ _ _ M;have h1:=hf 1 _ _ _ M;have h2:=hf 2 _ _ _ M;have h3:=hf 3 _ _ _ M
  simp only at hx
  have hD:Rows.uptoBulk D=Rows.uptoBulk y0.1+(Rows.uptoBulk y1.1+(Rows.uptoBulk y2.1+(Rows.uptoBulk y3.1+0)))+1:=by rw [hx];simp only [dO,qZ,Rows.uptoBulk,Rows.uptoBulkAll]
  obtain ⟨k0,e0,d0,-⟩:=DataW.trod_int underlying3 h0;obtain ⟨k1,e1,d1,-⟩:=DataW.trod_int underlying3 h1;obtain ⟨k2,e2,d2,-⟩:=DataW.trod_string underlying9 h2;obtain ⟨k3,e3,d3,-⟩:=DataW.trod_int underlying3 h3
  simp at e0 e1 e2 e3
  subst e0 e1 e2 e3
  have b0:Rows.uptoBulk y0.1=1:=by rw [d0];rfl
  have b1:Rows.uptoBulk y1.1=1:=by rw [d1];rfl
  have b2:Rows.uptoBulk y2.1=k2.size+1:=by rw [d2];show k2.data.toList.length+1=k2.data.size+1;rw [pY]
  have b3:Rows.uptoBulk y3.1=1:=by rw [d3];rfl
  refine ⟨⟨k0,k1,k2,k3⟩,?_,?_⟩
  ·exact ⟨_,_,M,(by simp [av,Value.oneCell']),⟨_,_,M,(by simp [av,Value.oneCell']),⟨_,_,M,(by simp [av,Value.oneCell']),⟨_,_,M,(by simp [av,Value.oneCell']),M⟩⟩⟩⟩
  simp only [qB.dat,bX,nU];omega
theorem aCw:uQ prog 93 2 [(3,0,1),(91,1,1)]:=⟨V,V,V⟩
theorem aoE:prog.cellsOf 93=2:=by kernel_rfl
theorem aAQ {n:Nat} {cs:List ah} {D:DataW H} {Pl:List MemPlace} (h:DataW.trod enc prog W base spare held n 93 cs=some (D,Pl)):∃ r:fT,aX (sS W) r.dat cs∧bX r.dat+1<=8*Rows.uptoBulk D:=by
 obtain ⟨xs,m,hx,hl,hxl,hf⟩:=wJ aCw h
 match cs,hl,xs,hxl with
 | [c0,c1],_,[y0,y1],_ =>
  have h0:=hf 0 _ _ _ M;have h1:=hf 1 _ _ _ M
  simp only at hx
  have hD:Rows.uptoBulk D=Rows.uptoBulk y0.1+(Rows.uptoBulk y1.1+0)+1:=by rw [hx];simp only [dO,qZ,Rows.uptoBulk,Rows.uptoBulkAll]
  obtain ⟨k0,e0,d0,-⟩:=DataW.trod_int underlying3 h0;obtain ⟨k1,q1,e1,r1,d1⟩:=xH (dat:=qB.dat) (sz:=4) O underlying91 aoF h1 (fun n cs' D Pl hh _=>aAP hh)
  simp at e0 e1
  subst e0 e1
  have b0:Rows.uptoBulk y0.1=1:=by rw [d0];rfl
  refine ⟨⟨k0,k1⟩,?_,?_⟩
  ·exact ⟨_,_,M,(by simp [av,Value.oneCell']),⟨_,_,M,r1,M⟩⟩
  simp only [fT.dat,bX,nU];omega
theorem aCr:uQ prog 107 6 [(3,0,1),(3,1,1),(9,2,1),(3,3,1),(9,4,1),(4,5,1)]:=⟨V,V,V⟩
theorem aoB:prog.cellsOf 107=6:=by kernel_rfl
theorem aAK {n:Nat} {cs:List ah} {D:DataW H} {Pl:List MemPlace} (h:DataW.trod enc prog W base spare held n 107 cs=some (D,Pl)):∃ r:jq,aX (sS W) r.dat cs∧bX r.dat+1<=8*Rows.uptoBulk D:=by
 obtain ⟨xs,m,hx,hl,hxl,hf⟩:=wJ aCr h
 match cs,hl,xs,hxl with
 | [c0,c1,c2,c3,c4,c5],_,[y0,y1,y2,y3,y4,y5],_ =>
  have h0:=hf 0 _ _ _ M;have h1:=hf 1 _ _ _ M;have h2:=hf 2 _ _ _ M;have h3:=hf 3 _ _ _ M;have h4:=hf 4 _ _ _ M;have h5:=hf 5 _ _ _ M
  simp only at hx
  have hD:Rows.uptoBulk D=Rows.uptoBulk y0.1+(Rows.uptoBulk y1.1+(Rows.uptoBulk y2.1+(Rows.uptoBulk y3.1+(Rows.uptoBulk y4.1+(Rows.uptoBulk y5.1+0)))))+1:=by rw [hx];simp only [dO,qZ,Rows.uptoBulk,Rows.uptoBulkAll]
  obtain ⟨k0,e0,d0,-⟩:=DataW.trod_int underlying3 h0;obtain ⟨k1,e1,d1,-⟩:=DataW.trod_int underlying3 h1;obtain ⟨k2,e2,d2,-⟩:=DataW.trod_string underlying9 h2;obtain ⟨k3,e3,d3,-⟩:=DataW.trod_int underlying3 h3;obtain ⟨k4,e4,d4,-⟩:=DataW.trod_string underlying9 h4;obtain ⟨k5,e5,d5⟩:=DataW.trod_bool underlying4 h5
  simp at e0 e1 e2 e3 e4 e5
  subst e0 e1 e2 e3 e4 e5
  have b0:Rows.uptoBulk y0.1=1:=by rw [d0];rfl
  have b1:Rows.uptoBulk y1.1=1:=by rw [d1];rfl
  have b2:Rows.uptoBulk y2.1=k2.size+1:=by rw [d2];show k2.data.toList.length+1=k2.data.size+1;rw [pY]
  have b3:Rows.uptoBulk y3.1=1:=by rw [d3];rfl
  have b4:Rows.uptoBulk y4.1=k4.size+1:=by rw [d4];show k4.data.toList.length+1=k4.data.size+1;rw [pY]
  have b5:Rows.uptoBulk y5.1=1:=by rw [d5];rfl
  refine ⟨⟨k0,k1,k2,k3,k4,k5⟩,?_,?_⟩
  ·exact ⟨_,_,M,(by simp [av,Value.oneCell']),⟨_,_,M,(by simp [av,Value.oneCell']),⟨_,_,M,(by simp [av,Value.oneCell']),⟨_,_,M,(by simp [av,Value.oneCell']),⟨_,_,M,(by simp [av,Value.oneCell']),⟨_,_,M,(by simp [av,Value.oneCell']),M⟩⟩⟩⟩⟩⟩
  simp only [jq.dat,bX,nU];omega
theorem aCE:uQ prog 110 2 [(9,0,1),(9,1,1)]:=⟨V,V,V⟩
theorem aoJ:prog.cellsOf 110=2:=by kernel_rfl
theorem aAU {n:Nat} {cs:List ah} {D:DataW H} {Pl:List MemPlace} (h:DataW.trod enc prog W base spare held n 110 cs=some (D,Pl)):∃ r:nJ,aX (sS W) r.dat cs∧bX r.dat+1<=8*Rows.uptoBulk D:=by
 obtain ⟨xs,m,hx,hl,hxl,hf⟩:=wJ aCE h
 match cs,hl,xs,hxl with
 | [c0,c1],_,[y0,y1],_ =>
  have h0:=hf 0 _ _ _ M;have h1:=hf 1 _ _ _ M
  simp only at hx
  have hD:Rows.uptoBulk D=Rows.uptoBulk y0.1+(Rows.uptoBulk y1.1+0)+1:=by rw [hx];simp only [dO,qZ,Rows.uptoBulk,Rows.uptoBulkAll]
  obtain ⟨k0,e0,d0,-⟩:=DataW.trod_string underlying9 h0;obtain ⟨k1,e1,d1,-⟩:=DataW.trod_string underlying9 h1
  simp at e0 e1
  subst e0 e1
  have b0:Rows.uptoBulk y0.1=k0.size+1:=by rw [d0];show k0.data.toList.length+1=k0.data.size+1;rw [pY]
  have b1:Rows.uptoBulk y1.1=k1.size+1:=by rw [d1];show k1.data.toList.length+1=k1.data.size+1;rw [pY]
  refine ⟨⟨k0,k1⟩,?_,?_⟩
  ·exact ⟨_,_,M,(by simp [av,Value.oneCell']),⟨_,_,M,(by simp [av,Value.oneCell']),M⟩⟩
  simp only [nJ.dat,bX,nU];omega
theorem aCB:uQ prog 102 3 [(3,0,1),(9,1,1),(3,2,1)]:=⟨V,V,V⟩
theorem aoH:prog.cellsOf 102=3:=by kernel_rfl
theorem aAR {n:Nat} {cs:List ah} {D:DataW H} {Pl:List MemPlace} (h:DataW.trod enc prog W base spare held n 102 cs=some (D,Pl)):∃ r:cB,aX (sS W) r.dat cs∧bX r.dat+1<=8*Rows.uptoBulk D:=by
 obtain ⟨xs,m,hx,hl,hxl,hf⟩:=wJ aCB h
 match cs,hl,xs,hxl with
 | [c0,c1,c2],_,[y0,y1,y2],_ =>
  have h0:=hf 0 _ _ _ M;have h1:=hf 1 _ _ _ M;have h2:=hf 2 _ _ _ M
  simp only at hx
  have hD:Rows.uptoBulk D=Rows.uptoBulk y0.1+(Rows.uptoBulk y1.1+(Rows.uptoBulk y2.1+0))+1:=by rw [hx];simp only [dO,qZ,Rows.uptoBulk,Rows.uptoBulkAll]
  obtain ⟨k0,e0,d0,-⟩:=DataW.trod_int underlying3 h0;obtain ⟨k1,e1,d1,-⟩:=DataW.trod_string underlying9 h1;obtain ⟨k2,e2,d2,-⟩:=DataW.trod_int underlying3 h2
  simp at e0 e1 e2
  subst e0 e1 e2
  have b0:Rows.uptoBulk y0.1=1:=by rw [d0];rfl
  have b1:Rows.uptoBulk y1.1=k1.size+1:=by rw [d1];show k1.data.toList.length+1=k1.data.size+1;rw [pY]
  have b2:Rows.uptoBulk y2.1=1:=by rw [d2];rfl
  refine ⟨⟨k0,k1,k2⟩,?_,?_⟩
  ·exact ⟨_,_,M,(by simp [av,Value.oneCell']),⟨_,_,M,(by simp [av,Value.oneCell']),⟨_,_,M,(by simp [av,Value.oneCell']),M⟩⟩⟩
  simp only [cB.dat,bX,nU];omega
theorem aCC:uQ prog 36 4 [(31,0,1),(32,1,1),(33,2,1),(34,3,1)]:=⟨V,V,V⟩
structure UZ (s:Ch) (n:Nat):Prop where
 st:dM (s.styles.map cK.dat)<=n
 li:dM (s.lists.map fT.dat)<=n
 cm:dM (s.comments.map jq.dat)<=n
 va:dM (s.vars.map nJ.dat)<=n
theorem UZ.zn {s:Ch} {n:Nat} (h:UZ s n) (hn:n<=4294967296):U0 s∧s.styles.length<=4294967296:=by
 obtain ⟨h1,h2,h3,h4⟩:=h;have l1:=sG (s.styles.map cK.dat);have l2:=sG (s.lists.map fT.dat);have l3:=sG (s.comments.map jq.dat);have l4:=sG (s.vars.map nJ.dat);rw [bK] at l1 l2 l3 l4;refine ⟨⟨fun x hx=>?_,O,fun x hx y hy=>?_,O,fun x hx=>?_,O,fun x hx=>?_,fun x hx=>?_,fun x hx=>?_⟩,O⟩
 ·have:=ED (dat:=cK.dat) hx
  simp only [cK.dat,bX,nU] at this;omega
 ·have:=ED (dat:=fT.dat) hx
  simp only [fT.dat,bX,nU] at this
  have h5:=ED (dat:=qB.dat) hy
  simp only [qB.dat,bX,nU] at h5;omega
 ·have:=ED (dat:=jq.dat) hx
  simp only [jq.dat,bX,nU] at this;omega
 ·have:=ED (dat:=nJ.dat) hx
  simp only [nJ.dat,bX,nU] at this;omega
 ·have:=ED (dat:=cK.dat) hx;have h5:=sG (x.props.map aN.dat);rw [bK] at h5
  simp only [cK.dat,bX,nU] at this;omega
 have:=ED (dat:=fT.dat) hx;have h5:=sG (x.levels.map qB.dat);rw [bK] at h5
 simp only [fT.dat,bX,nU] at this;omega
theorem aAS {n:Nat} {cs:List ah} {x:DataW H × List MemPlace} (h:DataW.trod enc prog W base spare held n 36 cs=some x):∃ (s:Ch) (a b c d:ah),cs=[a,b,c,d]∧AO (sS W) s a b c d∧UZ s (8*Rows.uptoBulk x.1):=by
 obtain ⟨xs,m,hx,hl,hxl,hf⟩:=wJ aCC h
 match cs,hl,xs,hxl with
 | [c0,c1,c2,c3],_,[y0,y1,y2,y3],_ =>
  have h0:=hf 0 _ _ _ M;have h1:=hf 1 _ _ _ M;have h2:=hf 2 _ _ _ M;have h3:=hf 3 _ _ _ M;obtain ⟨k0,q0,e0,r0,d0⟩:=xH (dat:=cK.dat) (sz:=6) O underlying31 aoI h0 (fun n cs' D Pl hh _=>aAT hh);obtain ⟨k1,q1,e1,r1,d1⟩:=xH (dat:=fT.dat) (sz:=2) O underlying32 aoE h1 (fun n cs' D Pl hh _=>aAQ hh);obtain ⟨k2,q2,e2,r2,d2⟩:=xH (dat:=jq.dat) (sz:=6) O underlying33 aoB h2 (fun n cs' D Pl hh _=>aAK hh);obtain ⟨k3,q3,e3,r3,d3⟩:=xH (dat:=nJ.dat) (sz:=2) O underlying34 aoJ h3 (fun n cs' D Pl hh _=>aAU hh)
  simp at e0 e1 e2 e3
  subst e0 e1 e2 e3
  have hD:Rows.uptoBulk x.1=Rows.uptoBulk y0.1+(Rows.uptoBulk y1.1+(Rows.uptoBulk y2.1+(Rows.uptoBulk y3.1+0)))+1:=by rw [hx];simp only [dO,qZ,Rows.uptoBulk,Rows.uptoBulkAll]
  exact ⟨⟨k0,k1,k2,k3⟩,_,_,_,_,M,⟨r0,r1,r2,r3⟩,⟨by show dM (k0.map _)<=_;omega,by show dM (k1.map _)<=_;omega,by show dM (k2.map _)<=_;omega,by show dM (k3.map _)<=_;omega⟩⟩
theorem ale:uQ prog 38 11 [(22,0,1),(29,1,5),(30,6,1),(36,7,4)]:=⟨V,V,V⟩
theorem EB {G:GH} {sz:Nat} {rs:List (List Dat)} {v:ah} (h:av G (.sl sz rs) v):∃ x,v=dh x:=by
 obtain ⟨a,n,c,rfl⟩:=h.form;exact ⟨(a,n,c),M⟩
theorem aAM {n:Nat} {cs:List ah} {x:DataW H × List MemPlace} (h:DataW.trod enc prog W base spare held n 38 cs=some x) (hb:Rows.uptoBulk x.1<=1048576):∃ (D:kN) (d:gX),cs=D.cells∧pO (sS W) D d∧AA d∧bq d.flow<=8388608∧nH d.fin<=8388608:=by
 obtain ⟨xs,m,hx,hl,hxl,hf⟩:=wJ ale h
 match cs,hl,xs,hxl with
 | [c0,c1,c2,c3,c4,c5,c6,c7,c8,c9,c10],_,[y0,y1,y2,y3],_ =>
  have h0:=hf 0 _ _ _ M;have h1:=hf 1 _ _ _ M;have h2:=hf 2 _ _ _ M;have h3:=hf 3 _ _ _ M;obtain ⟨l,q0,e0,r0,d0⟩:=aAN h0;obtain ⟨hd,p,dd,ll,e1,r1,d1⟩:=Tm h1;obtain ⟨rv,q2,e2,r2,d2⟩:=xH (dat:=cB.dat) (sz:=3) O underlying30 aoH h2 (fun n cs' D Pl hh _=>aAR hh);obtain ⟨s,a,b,c,d,e3,r3,d3⟩:=aAS h3
  simp at e0 e1 e2 e3
  obtain ⟨rfl,rfl,rfl,rfl,rfl⟩:=e1;obtain ⟨rfl,rfl,rfl,rfl⟩:=e3;subst e0 e2
  have hD:Rows.uptoBulk x.1=Rows.uptoBulk y0.1+(Rows.uptoBulk y1.1+(Rows.uptoBulk y2.1+(Rows.uptoBulk y3.1+0)))+1:=by rw [hx];simp only [dO,qZ,Rows.uptoBulk,Rows.uptoBulkAll]
  obtain ⟨x0,rfl⟩:=EB r0;obtain ⟨x1,rfl⟩:=EB r1.props;obtain ⟨x2,rfl⟩:=EB r1.bD;obtain ⟨x3,rfl⟩:=EB r1.layers;obtain ⟨x4,rfl⟩:=EB r2;obtain ⟨x5,rfl⟩:=EB r3.st;obtain ⟨x6,rfl⟩:=EB r3.li;obtain ⟨x7,rfl⟩:=EB r3.cm;obtain ⟨x8,rfl⟩:=EB r3.va;obtain ⟨hz1,hz2⟩:=d3.zn O;have l2:=sG (rv.map cB.dat);rw [bK] at l2;refine ⟨⟨x0,x1,x2,x3,x4,x5,x6,x7,x8,hd.marks.ins,hd.marks.move⟩,⟨l,hd,rv,s⟩,M,⟨r0,r1,M,M,r2,r3⟩,⟨by show bq l<=_;omega,by show nH hd<=_;omega,by show rv.length<=_;omega,fun x hx=>?_,hz2,hz1⟩,by show bq l<=_;omega,by show nH hd<=_;omega⟩;have:=ED (dat:=cB.dat) hx
  simp only [cB.dat,bX,nU] at this
  omega
end
end
end Go.Proofs.YtdiflmikikiedaaGreat
