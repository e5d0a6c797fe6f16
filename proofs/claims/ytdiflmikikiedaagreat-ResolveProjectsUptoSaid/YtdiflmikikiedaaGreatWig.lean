/-
  What the claim stands on, part 7: Cp24 Pj24 Brd Brs Bri.
-/
import Derived.Test.YtdiflmikikiedaaGreatWif
import Derived.ProofKit
import Derived.Deep.Slices
import Derived.Laws.StructEq
namespace Go.Proofs.YtdiflmikikiedaaGreat
set_option linter.all false
open Go.Proofs.Tryz
open Go.RowKit
section
variable {acc rej dM eO fq iD:Int->Bool}
mutual
theorem aur (x1:∀ q,dM q=true->iD q=false) (x2:∀ q,eO q=true->fq q=false) (C:bC) (body note:Bool) (t:Int):∀ x:au,lM C body note t x->dV fq iD (mH dM eO x)=mH (fP dM fq) (fP eO iD) x
 | .mk k c i tx h f r,hx=>by
  have hf:=RL x1 x2 C false true t f;have hr:=agi x1 x2 C note (t+1) r;rw [lM] at hx;obtain ⟨-,-,h3,h4,h5⟩:=hx
  have one:∀ y:au,dV fq iD [y]=mH fq iD y:=fun y=>by rw [dV,dV,iF]
  have zero:dV fq iD []=[]:=by rw [dV]
  rw [mH,mH]
  by_cases hg:lG dM eO h
  ·rw [aD hg,aD (Vy hg),zero]
  obtain ⟨c1,c2⟩:=PS ((Cu _ _ _).1 h3) x1 x2 hg;rw [av hg]
  by_cases h6:k=6
  ·rw [aD h6,aD h6,one,mH,aD h6,hf (h4 h6),c2]
   simp only [c1]
  rw [av h6,av h6]
  by_cases h7:k=7
  ·rw [aD h7,aD h7];have e:=hr (h5 h7).2
   by_cases hn:(gH dM eO r).length=0
   ·have e2:gH (fP dM fq) (fP eO iD) r=[]:=by
     rw [<- e,List.eq_nil_of_length_eq_zero hn,gH]
    rw [aD hn,zero,e2]
    simp
   rw [av hn,one,mH,av h6,aD h7,e,c2]
   simp only [c1]
  rw [av h7,av h7,one,mH,av h6,av h7,c2]
  simp only [c1]
theorem aus (x1:∀ q,dM q=true->iD q=false) (x2:∀ q,eO q=true->fq q=false) (C:bC) (note:Bool) (t:Int):∀ x:aU,oV C note t x->gH fq iD (nY dM eO x)=nY (fP dM fq) (fP eO iD) x
 | .mk h cs,hx=>by
  have hc:=agh x1 x2 C note t cs;rw [oV] at hx
  have one:∀ y:aU,gH fq iD [y]=nY fq iD y:=fun y=>by rw [gH,gH,iF]
  have zero:gH fq iD []=[]:=by rw [gH]
  rw [nY,nY]
  by_cases hg:lG dM eO h
  ·rw [aD hg,aD (Vy hg),zero]
  obtain ⟨c1,c2⟩:=PS ((Cu _ _ _).1 (NP.1 hx.1).1) x1 x2 hg;have e:=hc hx.2;rw [av hg]
  by_cases hn:(gB dM eO cs).length=0
  ·have e2:gB (fP dM fq) (fP eO iD) cs=[]:=by
    rw [<- e,List.eq_nil_of_length_eq_zero hn,gB]
   rw [aD hn,zero,e2]
   simp
  rw [av hn,one,nY,e,c2]
  simp only [c1]
theorem auq (x1:∀ q,dM q=true->iD q=false) (x2:∀ q,eO q=true->fq q=false) (C:bC) (note:Bool) (t:Int):∀ x:aX,oU C note t x->gB fq iD (oH dM eO x)=oH (fP dM fq) (fP eO iD) x
 | .mk i h f,hx=>by
  have hf:=RL x1 x2 C false note t f;rw [oU] at hx
  have one:∀ y:aX,gB fq iD [y]=oH fq iD y:=fun y=>by rw [gB,gB,iF]
  have zero:gB fq iD []=[]:=by rw [gB]
  rw [oH,oH]
  by_cases hg:lG dM eO h
  ·rw [aD hg,aD (Vy hg),zero]
  obtain ⟨c1,c2⟩:=PS ((Cu _ _ _).1 hx.1) x1 x2 hg;rw [av hg,one,oH,hf hx.2,c2]
  simp only [c1]
theorem RL (x1:∀ q,dM q=true->iD q=false) (x2:∀ q,eO q=true->fq q=false) (C:bC) (body note:Bool) (t:Int):∀ l:List au,iN C body note t l->dV fq iD (dV dM eO l)=dV (fP dM fq) (fP eO iD) l
 | [],_=>by rw [dV,dV,dV]
 | x :: l,h=>by
  rw [iN] at h;rw [dV,dV,R5,aur x1 x2 C body note t x h.1,RL x1 x2 C body note t l h.2]
theorem agi (x1:∀ q,dM q=true->iD q=false) (x2:∀ q,eO q=true->fq q=false) (C:bC) (note:Bool) (t:Int):∀ l:List aU,jX C note t l->gH fq iD (gH dM eO l)=gH (fP dM fq) (fP eO iD) l
 | [],_=>by rw [gH,gH,gH]
 | x :: l,h=>by
  rw [jX] at h;rw [gH,gH,Ym,aus x1 x2 C note t x h.1,agi x1 x2 C note t l h.2]
theorem agh (x1:∀ q,dM q=true->iD q=false) (x2:∀ q,eO q=true->fq q=false) (C:bC) (note:Bool) (t:Int):∀ l:List aX,kL C note t l->gB fq iD (gB dM eO l)=gB (fP dM fq) (fP eO iD) l
 | [],_=>by rw [gB,gB,gB]
 | x :: l,h=>by
  rw [kL] at h;rw [gB,gB,Yk,auq x1 x2 C note t x h.1,agh x1 x2 C note t l h.2]
end
abbrev nB:Int->Bool:=fun _=>false
mutual
theorem auo (C:bC) (body note:Bool) (t:Int):∀ x:au,lM C body note t x->mH nB nB x=[x]
 | .mk k c i tx h f r,hx=>by
  have hf:=RJ C false true t f;have hr:=agf C note (t+1) r;rw [lM] at hx;obtain ⟨-,-,h3,h4,h5⟩:=hx;obtain ⟨c1,c2⟩:=PV ((Cu _ _ _).1 h3);rw [mH,av c2,c1]
  split
  ·rename_i h6;rw [hf (h4 h6)]
  split
  ·rename_i h7
   obtain ⟨a,b⟩:=h5 h7;rw [hr b,av a.1]
  rfl
theorem aup (C:bC) (note:Bool) (t:Int):∀ x:aU,oV C note t x->nY nB nB x=[x]
 | .mk h cs,hx=>by
  have hc:=agd C note t cs;rw [oV] at hx;obtain ⟨z1,z2,-⟩:=NP.1 hx.1;obtain ⟨c1,c2⟩:=PV ((Cu _ _ _).1 z1);rw [nY,av c2,c1,hc hx.2,av z2]
theorem aun (C:bC) (note:Bool) (t:Int):∀ x:aX,oU C note t x->oH nB nB x=[x]
 | .mk i h f,hx=>by
  have hf:=RJ C false note t f;rw [oU] at hx;obtain ⟨c1,c2⟩:=PV ((Cu _ _ _).1 hx.1);rw [oH,av c2,c1,hf hx.2]
theorem RJ (C:bC) (body note:Bool) (t:Int):∀ l:List au,iN C body note t l->dV nB nB l=l
 | [],_=>by rw [dV]
 | x :: l,h=>by
  rw [iN] at h;rw [dV,auo C body note t x h.1,RJ C body note t l h.2];rfl
theorem agf (C:bC) (note:Bool) (t:Int):∀ l:List aU,jX C note t l->gH nB nB l=l
 | [],_=>by rw [gH]
 | x :: l,h=>by
  rw [jX] at h;rw [gH,aup C note t x h.1,agf C note t l h.2];rfl
theorem agd (C:bC) (note:Bool) (t:Int):∀ l:List aX,kL C note t l->gB nB nB l=l
 | [],_=>by rw [gB]
 | x :: l,h=>by
  rw [kL] at h;rw [gB,aun C note t x h.1,agd C note t l h.2];rfl
end
def wF (acc rej:Int->Bool) (l:List au):List au:=kK (dV acc rej l)
theorem SI (l:List au):wF acc rej l=((dV acc rej l).map nI).foldl addN []:=by unfold wF;rw [Bn,KG]
theorem Ov (a b:List au):wF acc rej (a++b)=((dV acc rej b).map nI).foldl addN (wF acc rej a):=by
 rw [SI,SI,R5,lW,List.foldl_append]
theorem axN {a b:List au} (h:(dV acc rej a).map nI=(dV acc rej b).map nI):wF acc rej a=wF acc rej b:=by rw [SI,SI,h]
theorem add_assoc {X:List au} {z y:au} (hz:¬ ru z) (hy:¬ ru y) (hj:qb z y):addN (addN X z) y=addN X (mR z y):=by
 obtain ⟨j1,j2,j3⟩:=hj
 have hzy:¬ ru (mR z y):=by
  rintro (⟨h,-⟩|⟨-,h⟩)
  ·have:z.kind=7:=h
   omega
  have h2:(z.text++y.text).size=0:=h;rw [ByteArray.size_append] at h2;exact hz (.inr ⟨j2,by omega⟩)
 by_cases hx:∃ o w,X=o++[w]∧qb w z
 ·obtain ⟨o,w,rfl,k1,k2,k3⟩:=hx;rw [BQ hz ⟨k1,k2,k3⟩,BQ hy (show qb (mR w z) y from ⟨j1,k2,by show w.head=_;rw [k3,j3]⟩),BQ hzy (show qb w (mR z y) from ⟨j2,k2,k3⟩)]
  unfold mR
  simp only [au.kind,au.code,au.id,au.text,au.head,au.flow,au.rows,ByteArray.append_assoc]
 have hn:∀ o w,X=o++[w]->¬ qb w z:=fun o w e h=>hx ⟨o,w,e,h⟩;have hn2:∀ o w,X=o++[w]->¬ qb w (mR z y):=fun o w e h=>hx ⟨o,w,e,j2,h.2.1,h.2.2⟩;rw [Dl hz hn,BQ hy ⟨j1,j2,j3⟩,Dl hzy hn2]
theorem R7 {x:au} (h:x.kind=1):mH acc rej x=if lG acc rej x.head then [] else [.mk x.kind x.code x.id x.text (iH acc rej x.head) x.flow x.rows]:=by
 rw [R4,av (show ¬ x.kind=6 by omega),av (show ¬ x.kind=7 by omega)]
theorem axM {out:List au} {y:au} (hc:Eu out):wF acc rej (addN out y)=wF acc rej (out++[y]):=by
 have one:∀ y:au,dV acc rej [y]=mH acc rej y:=fun y=>by rw [dV,dV,iF]
 by_cases hd:ru y
 ·rw [Jh hd,Ov,one]
  rcases hd with ⟨h7,hr⟩|⟨h1,ht⟩
  ·rw [R4,av (show ¬ y.kind=6 by omega),aD h7,List.eq_nil_of_length_eq_zero hr,gH]
   by_cases hg:lG acc rej y.head
   ·rw [aD hg];rfl
   rw [av hg,aD (by rfl)];rfl
  rw [R7 h1]
  split
  ·rfl
  rw [fH,rV,List.foldl_cons,List.foldl_nil,Jh];rw [nI];exact .inr ⟨h1,ht⟩
 by_cases hj:∃ o z,out=o++[z]∧qb z y
 ·obtain ⟨o,z,rfl,hz⟩:=hj;have hdz:=hc.1 z (by simp);rw [BQ hd hz,Ov,ko,Ov,List.singleton_append,one,dV,one,R7 hz.2.1,R7 (show (mR z y).kind=1 from hz.2.1),R7 hz.1]
  show List.foldl addN _ (List.map nI (if lG acc rej z.head then [] else [.mk z.kind z.code z.id (z.text++y.text) (iH acc rej z.head) z.flow z.rows]))=_
  rw [<- hz.2.2]
  split
  ·rfl
  simp only [fH,rV,List.foldl_cons,List.foldl_nil,List.singleton_append]
  rw [add_assoc]
  ·rw [nI,nI,nI];rfl
  ·rw [nI];exact fun hq=>hq.elim (fun h=>by have h7:z.kind=7:=h.1;have:=hz.2.1;omega) fun h=>hdz (.inr h)
  ·rw [nI];exact fun hq=>hq.elim (fun h=>by have h7:y.kind=7:=h.1;have:=hz.1;omega) fun h=>hd (.inr h)
  rw [nI,nI];exact ⟨hz.1,hz.2.1,rfl⟩
 rw [Dl hd fun o z e h=>hj ⟨o,z,e,h⟩]
theorem ahJ:∀ (A out:List au),Eu out->wF acc rej (A.foldl addN out)=wF acc rej (out++A)
 | [],out,_=>by rw [List.foldl_nil,iF]
 | y :: A,out,h=>by
  rw [List.foldl_cons,ahJ A _ (aaZ h),Ov,axM h,<- Ov,ko];rfl
theorem Y7 {l:List au} (h:(dV acc rej (mU l)).map nI=(dV acc rej l).map nI):wF acc rej (kK l)=wF acc rej l:=by
 rw [Bn,ahJ _ _ abe,nQ];exact axN h
theorem afw (l:List aU):(lK l).length=l.length:=by rw [Fz,bQ]
theorem afq (l:List aX):(lJ l).length=l.length:=by rw [Iz,bQ]
mutual
theorem avb:∀ x:au,(mH acc rej (nI x)).map nI=(mH acc rej x).map nI
 | .mk k c i tx h f r=>by
  have hf:=Y7 (RX f);have hr:=agt r
  unfold wF at hf
  rw [Bn f,Bn (dV acc rej ((mU f).foldl addN [])),Bn (dV acc rej f)] at hf
  have e:(gH acc rej (lK r)).length=(gH acc rej r).length:=by
   have:=cO List.length hr
   rwa [afw,afw] at this
  have hff:=Vq (Rq f);have hrr:=XR r;rw [nI,mH,mH]
  split
  ·rfl
  split
  ·rw [fH,fH,nI,nI,hf,hrr]
  split
  ·rw [e]
   split
   ·rfl
   rw [fH,fH,nI,nI,hr,hff]
  rw [fH,fH,nI,nI,hff,hrr]
theorem avc:∀ x:aU,lK (nY acc rej (nR x))=lK (nY acc rej x)
 | .mk h cs=>by
  have hc:=ags cs
  have e:(gB acc rej (lJ cs)).length=(gB acc rej cs).length:=by
   have:=cO List.length hc
   rwa [afq,afq] at this
  rw [nR,nY,nY,e]
  split
  ·rfl
  split
  ·rfl
  simp only [lK,nR,hc]
theorem ava:∀ x:aX,lJ (oH acc rej (nC x))=lJ (oH acc rej x)
 | .mk i h f=>by
  have hf:=Y7 (RX f)
  unfold wF at hf
  rw [Bn f,Bn (dV acc rej ((mU f).foldl addN [])),Bn (dV acc rej f)] at hf;rw [nC,oH,oH]
  split
  ·rfl
  simp only [lJ,nC,hf]
theorem RX:∀ l:List au,(dV acc rej (mU l)).map nI=(dV acc rej l).map nI
 | []=>by rw [mU]
 | x :: l=>by
  have h1:=avb x;have h2:=RX l;rw [mU,dV,dV,lW,lW,h1,h2]
theorem agt:∀ l:List aU,lK (gH acc rej (lK l))=lK (gH acc rej l)
 | []=>by rw [lK]
 | x :: l=>by
  have h1:=avc x;have h2:=agt l
  have app:∀ a b:List aU,lK (a++b)=lK a++lK b:=fun a b=>by rw [Fz,Fz,Fz,lW]
  rw [lK,gH,gH,app,app,h1,h2]
theorem ags:∀ l:List aX,lJ (gB acc rej (lJ l))=lJ (gB acc rej l)
 | []=>by rw [lJ]
 | x :: l=>by
  have h1:=ava x;have h2:=ags l
  have app:∀ a b:List aX,lJ (a++b)=lJ a++lJ b:=fun a b=>by rw [Iz,Iz,Iz,lW]
  rw [lJ,gB,gB,app,app,h1,h2]
end
theorem ahK (l:List au):kK (dV acc rej (kK l))=kK (dV acc rej l):=Y7 (RX l)
theorem ate (d:gu):oP (iY acc rej (nD d))=⟨kK (dV acc rej d.flow),eZ acc rej d.fin,(nD d).revs,d.iq⟩:=by
 show (⟨kK (dV acc rej (kK d.flow)),_,_,_⟩:gu)=_
 rw [ahK];rfl
theorem Rp (d:gu):nD d=⟨kK d.flow,d.fin,d.revs.filter (fun r=>decide (r.id∈nN (oP d))),d.iq⟩:=by
 unfold nD;rw [aeY]
theorem avn {d:gu} (h:iK d=0):nD (iY acc rej (nD d))=nD (iY acc rej d):=by
 have hu:nN (oP (iY acc rej (nD d)))=nN (oP (iY acc rej d)):=by rw [ate];rfl
 have hk:∀ q∈nN (oP (iY acc rej d)),q∈(nD d).revs.map bV.id:=fun q hq=>by
  rw [<- hu] at hq;obtain ⟨x,hx,e⟩:=List.mem_map.1 (axC (XQ h) hq);exact List.mem_map.2 ⟨x,(List.mem_filter.1 hx).1,e⟩
 have hr:(nD d).revs.filter (fun r=>decide (r.id∈nN (oP (iY acc rej d))))=d.revs.filter fun r=>decide (r.id∈nN (oP (iY acc rej d))):=by
  rw [Rp d];dsimp only;rw [List.filter_filter];refine List.filter_congr fun r hr=>?_
  by_cases hq:r.id∈nN (oP (iY acc rej d))
  ·obtain ⟨x,hx,e⟩:=List.mem_map.1 (hk _ hq);rw [Rp d] at hx;have h2:=(List.mem_filter.1 hx).2;rw [e] at h2;rw [h2,Bool.and_true]
  rw [nk hq,LP]
 rw [Rp (iY acc rej (nD d)),Rp (iY acc rej d),hu]
 show (⟨kK (dV acc rej (kK d.flow)),eZ acc rej d.fin,(nD d).revs.filter _,d.iq⟩:gu)=⟨kK (dV acc rej d.flow),eZ acc rej d.fin,d.revs.filter _,d.iq⟩
 rw [ahK,hr]
theorem acS {d:gu} (h:iK d=0):¬ lG acc rej d.fin∧FX d.kG 3 d.fin:=by
 obtain ⟨-,⟨g2,g3⟩,-,-,-⟩:=(zI _).1 h;refine ⟨?_,(Cu _ _ _).1 g2⟩
 unfold uz at g3
 rw [sQ] at g3;rintro (⟨a,-⟩|⟨x,hx,-⟩)
 ·exact g3 (.inl (.inl a))
 exact aaL
theorem avg {d:gu} (h:iK d=0) (x1:∀ q,dM q=true->iD q=false) (x2:∀ q,eO q=true->fq q=false):iY fq iD (iY dM eO d)=iY (fP dM fq) (fP eO iD) d:=by
 obtain ⟨-,-,g4,-,-⟩:=(zI _).1 h;obtain ⟨f1,f2⟩:=acS (acc:=dM) (rej:=eO) h;obtain ⟨c1,c2⟩:=PS f2 x1 x2 f1;have e1:=RL x1 x2 d.kG true false 0 d.flow g4;have a1:eZ dM eO d.fin=iH dM eO d.fin:=av f1
 unfold iY
 dsimp only;rw [e1,a1]
 unfold eZ
 simp only [c1,c2]
theorem twice {d:gu} (h:iK d=0) (x1:∀ q,dM q=true->iD q=false) (x2:∀ q,eO q=true->fq q=false):nD (iY fq iD (nD (iY dM eO d)))=nD (iY (fP dM fq) (fP eO iD) d):=by
 rw [avn (NQ h),avg h x1 x2]
theorem avi {d:gu} (h:iK d=0):iY nB nB d=d:=by
 obtain ⟨-,-,g4,-,-⟩:=(zI _).1 h;obtain ⟨-,f2⟩:=acS (acc:=nB) (rej:=nB) h;obtain ⟨c1,c2⟩:=PV f2;have e1:=RJ d.kG true false 0 d.flow g4;have a1:eZ nB nB d.fin=d.fin:=(av c2).trans c1
 unfold iY
 rw [e1,a1]
end
theorem amT:aQ 26:=aR func26 rfl
theorem ajj {P:Program} {f:FuncId} {args:Array ah} {w0:World} {G:GH} {R:ah->GH->Prop} (hG:Hold G w0) (h:Calls P f args w0 (gF w0 G [] fun u G' L'=>L'=[]∧R u G')):Calls P f args w0 (bE w0 G R):=by
 intro cs;obtain ⟨e1,w',fr,⟨v,G',L',rfl,hch,rfl,hR⟩,h2,h3,h4⟩:=h cs;have hp0:Hp w0 (fun k=>k < w0.heap.size) G G ([]++[]) w0:=⟨rfl,rfl,rfl,eP _,fun _ h=>h,fun _ _=>rfl,hG,fun _ _ h=>h,fun _ _ h=>.inl h,fun _ h=>(by cases h),fun _ h=>(by cases h),fun _ h=>(by cases h),List.Pairwise.nil⟩;exact ⟨_,w',fr,(hp0.change hch).ret hR,h2,h3,h4⟩
theorem asM (G:GH) (w0:World) (hG:Hold G w0) (l:List Int) (u:ah) (hu:ak G (.sl 1 (l.map fun k=>[li k])) u) (hl:l.length<=4294967296) :
  Calls prog 26 #[u,.slice none 0 0] w0 (bE w0 G fun v G'=>∃ r:List Int,wB [] r∧ak G' (.sl 1 (r.map fun k=>[li k])) v) :=
 ajj hG (asN G w0 [] (xZ hG) l [] u none 0 hu (fun i hi=>absurd hi (Nat.not_lt_zero _)) hl (by decide))
theorem abx {l:List Int} (h1:l.Pairwise (· < ·)) (h2:∀ x∈l,1<=x∧x<=1000):iW (qY l) l.length=0:=by
 refine Jk fun k hk=>?_;have h3:=h2 _ (lC hk);rw [UJ hk,dL]
 have h4:∀ h0:0 < k,l.getD (k - 1) 0 < l[k]:=fun h0=>by
  rw [List.getD_eq_getElem?_getD,eD (by omega:k - 1 < l.length),Option.getD_some];exact List.pairwise_iff_getElem.1 h1 (k - 1) k (by omega) hk (by omega)
 rw [av fun h=>by have:=h4 h.1;omega,av fun h=>by have:=h4 h.1;omega]
theorem asQ {l:List Int} (h:l.Pairwise (· < ·)) (q:Int):lsB l q=decide (q∈l):=J7 (h.imp fun h=>Int.le_of_lt h) q
theorem Ur {A R aiU aiV:List Int} (hA:wB aiU A) (hR:wB aiV R) (hd:∀ x∈A,x∉R):Ap A R=0:=by
 refine ER fun x hx=>?_
 simp only [iy,List.not_mem_nil,or_false] at hx
 rcases hx with rfl|rfl|rfl
 ·exact abx hA.inc hA.rng
 ·exact abx hR.inc hR.rng
 have:A.findIdx? (lsB R)=none:=List.findIdx?_eq_none_iff.2 fun x hx=>by rw [asQ hR.inc,nk (hd x hx)]
 rw [this,tO (by decide)];rfl
theorem wz.up {n m:Nat} {d:gu} (h:wz n d) (hm:n<=m):wz m d:=⟨h.z,Nat.le_trans h.fl hm,Nat.le_trans h.hd hm⟩
theorem afO {f:Int->Bool}:fP f cT=cT:=funext fun q=>Bool.or_true _
theorem afN {g:Int->Bool}:fP (lsB []) g=g:=funext fun q=>by unfold fP;rw [show lsB [] q=false from Qq q,Bool.false_or]
theorem Me {p:Prop} (h:p:=by
 exact kH H (Pt rfl rfl fun _ H=>fin H iJ rfl)):p:=h
set_option maxHeartbeats 4000000 in
theorem auk (G:GH) (w0:World) (hG:Hold G w0) (D:jh) (d:gu) (hR:kX G D d) (hs:wz 134217728 d) (l:List Int) (v:ah) (hlv:ak G (.sl 1 (l.map fun k=>[li k])) v) (hl:l.length<=4294967296) :
  Calls prog 6 #[D.val,v] w0 (bE w0 G fun u G'=>u=.bool true):=by
 obtain ⟨aA,an,ac,rfl⟩:=hlv.form;have Fq:=hs.up (m:=536870912) (by decide);refine eN [(0,_),(1,_)] func6 rfl ntmps6 rfl rfl hG ?_;intro a H;refine dz (fun _ K1=>?_);refine eB (cs:=[_,_,_,_,_,_,_,_,_,_,_]) H wn rfl rfl rfl ?_;clear H;intro b2 a w hb2 H;refine kH H (aj K1 rfl (SQ fun _ K2=>SQ fun _ K3=>?_));clear H K1;intro a H;obtain ⟨Ga,hma,hb2',H⟩:=H.fO;have hgd:=fun j v hj=>nu hb2' 0 D.cells rfl j v hj;replace hR:=hR.mono hma;replace hlv:=hlv.mono hma;refine pV ?_;refine s_call UO H wn rfl (Xx _ _ H.ro) rfl ?_;clear H;rintro v12 BF a w rfl yQ H;replace hR:=hR.mono yQ;replace hlv:=hlv.mono yQ;replace hgd:=fun j v hj=>aF yQ (hgd j v hj);refine kH H (Rn rfl (Rm rfl (Sp 14 rfl ?_ ?_))) <;> clear H
 ·intro dU a H
  try have kU:=dT dU
  refine kH H (aJ dU rfl (aJ dU rfl (Pt dU rfl (Kn K3 (Ct rfl rfl (SR fun _ K4=>?_))))));clear H K3;intro a H;refine s_call UO H wn rfl (Xx _ _ H.ro) rfl ?_;clear H;rintro v20 FV a w rfl oC H;replace hR:=hR.mono oC;replace hlv:=hlv.mono oC;replace hgd:=fun j v hj=>aF oC (hgd j v hj);exact kH H (aj K4 rfl (LR results6 rfl fun H=>H.rt (by first|rfl|(simp_all;done))))
 intro dU a H
 try have kU:=dF dU
 refine aV gM (cs:=D.cells) H (wg H rfl rfl dU) rfl rfl (fun j v hj=>H.hp.aI (hgd j v hj)) rfl ?_;clear H;intro a H;refine jF Sn [_,_] H (wg H rfl rfl dU) rfl rfl rfl rfl ?_;clear H;intro a H;refine s_call alq H (wg H rfl rfl dU) rfl (awO _ _ H.ro D d hR hs.z [] [] _ _ ⟨ak.oQ rfl (by decide),ak.oQ rfl (by decide),by decide,by decide⟩) rfl ?_;clear H;rintro v17 zu a w ⟨b17,rfl,Wo⟩ sw H;replace hR:=hR.mono sw;replace hlv:=hlv.mono sw;replace hgd:=fun j v hj=>aF sw (hgd j v hj);refine kH H (YN dU rfl (Pf dU rfl (Kn K3 (Cd rfl ?_ ?_)))) <;> clear H K3
 ·intro h19 a H
  try have tJ:=dT h19
  refine dz (fun _ K5=>?_);refine s_call UO H wn rfl (Xx _ _ H.ro) rfl ?_;clear H;rintro v20 FV a w rfl oC H;replace hR:=hR.mono oC;replace hlv:=hlv.mono oC;replace hgd:=fun j v hj=>aF oC (hgd j v hj);exact kH H (aj K5 rfl (LR results6 rfl fun H=>H.rt (by first|rfl|(simp_all;done))))
 intro h19 a H
 try have tJ:=dF h19
 refine iG ?_;refine K2 _ _ ?_;clear K2;refine bR (fun _ K6=>?_)
 have hc:iK d=0:=by simp_all
 refine kP H (SC (Rm rfl ?_));clear H;intro a H;refine s_call amT H wn rfl (asM _ _ H.ro l _ hlv hl) rfl ?_;clear H;rintro v22 Ti a w ⟨A,hA,Ns⟩ DW H;have hAl:=hA.len;have e0:=Ur hA (wB.nil []) fun x _ h=>(by cases h);have e1:=Ur (wB.nil []) hA fun x h=>(by cases h);have e2:=Ur (wB.nil []) (wB.nil []) fun x h=>(by cases h);replace hR:=hR.mono DW;replace hgd:=fun j v hj=>aF DW (hgd j v hj);obtain ⟨A22,n22,c22,rfl⟩:=Ns.form;refine kH H (bG K6 rfl (SR fun _ K7=>?_));clear H K6;intro a H;refine aV gM (cs:=D.cells) H wn rfl rfl (fun j v hj=>H.hp.aI (hgd j v hj)) rfl ?_;clear H;intro a H;refine kH H (Rm rfl ?_);clear H;intro a H;refine s_call amG H wn rfl (aiD _ _ H.ro D d hR Fq hc A _ Ns (by omega)) rfl ?_;clear H;rintro v26 G26 a w ⟨E,rfl,hE⟩ WG H
 unfold FE at hE
 rw [aD e0] at hE;rw [e0] at H;replace hR:=hR.mono WG;replace Ns:=Ns.mono WG;replace hgd:=fun j v hj=>aF WG (hgd j v hj);refine kH H (Rm rfl ?_);clear H;intro a H;(iterate 2 refine mh H wn rfl rfl rfl ?_;clear H;intro a H);refine dP gM H wn rfl ?_;clear H;intro b6 a w hb6 H;refine bK gM 0 (vs:=[_,_,_,_,_,_,_,_,_,_,_]) H wn rfl ?_;clear H;intro w H;refine kH H (aj K7 rfl (SR fun _ K8=>?_));clear H K7;intro a H;refine aV gM (cs:=D.cells) H wn rfl rfl (fun j v hj=>H.hp.aI (hgd j v hj)) rfl ?_;clear H;intro a H;refine kH H (Rm rfl ?_);clear H;intro a H;refine s_call amL H wn rfl (auN _ _ H.ro D d hR Fq hc A _ Ns (by omega)) rfl ?_;clear H;rintro v32 G32 a w ⟨F,rfl,hF⟩ WH H
 unfold FE at hF
 rw [aD e1] at hF;rw [e1] at H;replace hR:=hR.mono WH;replace hE:=hE.mono WH;replace hgd:=fun j v hj=>aF WH (hgd j v hj);refine kH H (Rm rfl ?_);clear H;intro a H;(iterate 2 refine mh H wn rfl rfl rfl ?_;clear H;intro a H);refine dP gM H wn rfl ?_;clear H;intro b8 a w Cr H;refine bK gM 0 (vs:=[_,_,_,_,_,_,_,_,_,_,_]) H wn rfl ?_;clear H;intro w H;refine kH H (aj K8 rfl (SR fun _ K9=>?_));clear H K8;intro a H;refine aV gM (cs:=D.cells) H wn rfl rfl (fun j v hj=>H.hp.aI (hgd j v hj)) rfl ?_;clear H;intro a H;refine jF Sn [_,_] H wn rfl rfl rfl rfl ?_;clear H;intro a H;refine s_call U5 H wn rfl (Yi _ _ H.ro D d hR Fq hc [] [] _ _ (ak.oQ rfl (by decide)) (ak.oQ rfl (by decide)) (by decide) (by decide)) rfl ?_;clear H;rintro v38 LA a w ⟨K,rfl,hK⟩ Ba H
 unfold FE at hK
 rw [aD e2,show (lsB []:Int->Bool)=nB from funext fun q=>Qq q,avi hc] at hK;rw [e2] at H;replace hR:=hR.mono Ba;replace hE:=hE.mono Ba;replace hF:=hF.mono Ba;replace hgd:=fun j v hj=>aF Ba (hgd j v hj);refine kH H (Rm rfl ?_);clear H;intro a H;(iterate 2 refine mh H wn rfl rfl rfl ?_;clear H;intro a H);refine dP gM H wn rfl ?_;clear H;intro b10 a w apL H;refine bK gM 0 (vs:=[_,_,_,_,_,_,_,_,_,_,_]) H wn rfl ?_;clear H;intro w H;refine kH H (aj K9 rfl (SQ fun _ aS=>?_));clear H K9;intro a H;obtain ⟨G1,hm1,apM,H⟩:=H.fO;obtain ⟨G2,hm2,Ws,H⟩:=H.fO;obtain ⟨Gc,Kk,MV,H⟩:=H.fO;have hmc:∀ b o,LA b=some o->Gc b=some o:=fun b o h=>Kk b o (hm2 b o (hm1 b o h));have hge:=fun j v hj=>nu MV 0 E.cells rfl j v hj;have hgf:=fun j v hj=>aF Kk (nu Ws 0 F.cells rfl j v hj);have qI:=fun j v hj=>aF Kk (aF hm2 (nu apM 0 K.cells rfl j v hj));replace hR:=hR.mono hmc;replace hE:=hE.mono hmc;replace hF:=hF.mono hmc;replace hK:=hK.mono hmc;replace hgd:=fun j v hj=>aF hmc (hgd j v hj);have s1:=(ND (NR (acc:=lsB A) (rej:=lsB []) hs (by decide) (by decide))).up (m:=536870912) (by decide);have s2:=(ND (NR (acc:=lsB []) (rej:=lsB A) hs (by decide) (by decide))).up (m:=536870912) (by decide);have k1:=XQ (NQ (acc:=lsB A) (rej:=lsB []) hc);have k2:=XQ (NQ (acc:=lsB []) (rej:=lsB A) hc)
 have tw1:nD (iY cT cF (nD (iY (lsB A) (lsB []) d)))=nD (iY cT cF d):=by
  rw [twice hc (fun _ _=>rfl) fun q hq=>(by rw [show lsB [] q=false from Qq q] at hq;cases hq),afO,afN]
 have tw2:nD (iY cF cT (nD (iY (lsB []) (lsB A) d)))=nD (iY cF cT d):=by
  rw [twice hc (fun q hq=>(by rw [show lsB [] q=false from Qq q] at hq;cases hq)) (fun _ _=>rfl),afO,afN]
 have s3:=(ND (NR (acc:=cT) (rej:=cF) Fq (by decide) (by decide))).fl;have s4:=(ND (NR (acc:=cF) (rej:=cT) Fq (by decide) (by decide))).fl;have s5:=(ND Fq).fl;obtain ⟨p1,p2,p3,p4⟩:=afs hs.z hc
 have mQ:BM (fun (dh:Nat) (v:ah) (G:GH)=>match dh with|0=>v=vi 0|1=>v=.bool true|2=>v=.bool true|3=>v=vi 0|4=>v=.bool true|5=>v=.bool true|6=>v=.bool true|7=>v=vi 0|8=>v=.bool true|9=>v=.bool true|10=>v=.bool true|11=>v=.agg E.cells.toArray|12=>∃ M:jh,v=M.val∧kX G M (nD (iY cT cF d))|13=>v=.agg D.cells.toArray|14=>∃ M:jh,v=M.val∧kX G M (nD (iY cT cF d))|15=>v=.bool true|16=>v=.bool true|17=>v=.bool true|18=>v=.agg F.cells.toArray|19=>∃ M:jh,v=M.val∧kX G M (nD (iY cF cT d))|20=>v=.agg D.cells.toArray|21=>∃ M:jh,v=M.val∧kX G M (nD (iY cF cT d))|22=>v=.bool true|23=>v=.bool true|24=>v=.bool true|25=>v=.agg K.cells.toArray|26=>v=.agg D.cells.toArray|27=>∃ M:jh,v=M.val∧kX G M (nD d)|28=>v=.bool true|29=>v=.bool true|_=>True):=by intro dh v G G' hm h;(iterate 31 (rcases dh with _|dh;(first|exact h|exact let ⟨M,h1,h2⟩:=h;⟨M,h1,h2.mono hm⟩)));exact trivial
 refine Am (hmx) [[],[0],[0,1],[0,1,2],ra 0 4,ra 0 5,ra 0 6,ra 0 7,ra 0 8,ra 0 9,ra 0 10,ra 0 11,ra 0 12,ra 0 11,ra 0 14,ra 0 15,ra 0 16,ra 0 17,ra 0 18,ra 0 19,ra 0 18,ra 0 21,ra 0 22,ra 0 23,ra 0 24,ra 0 25,ra 0 25,(ra 0 25++[26]),ra 0 28,ra 0 29,ra 0 30] [30] (by kernel_rfl) (by kernel_rfl) _ mQ H ?_ ?_
 ·clear H;refine aC ?_ ?_ ?_ ?_ (aC ?_ ?_ ?_ ?_ (aC ?_ ?_ ?_ ?_ (aC ?_ ?_ ?_ ?_ (aC ?_ ?_ ?_ ?_ (aC ?_ ?_ ?_ ?_ (aC ?_ ?_ ?_ ?_ (bP ?_ (bP ?_ (bP (bU rfl) dH)))))))))
  ·refine dD [] rfl trivial (by kernel_rfl) mQ rfl rfl ?_;intro aT a w G1 hG HT H fin;exact Ak
  ·refine dD [(0,41,_)] rfl ⟨fun _ _ h=>h,ay⟩ (by kernel_rfl) mQ rfl rfl ?_;intro aT a w G1 hG HT H fin;exact kH H (Rc rfl fun _ H=>fin H iJ rfl)
  ·refine dD [(1,42,_)] rfl ⟨fun _ _ h=>h,ay⟩ (by kernel_rfl) mQ rfl rfl ?_;intro aT a w G1 hG HT H fin;exact Ak
  ·refine dD [(2,43,_)] rfl ⟨fun _ _ h=>h,ay⟩ (by kernel_rfl) mQ rfl rfl ?_;intro aT a w G1 hG HT H fin;refine FK H (wg H rfl rfl rfl) rfl rfl ?_;clear H;intro a H;exact dZ
  ·refine dD [(3,44,_),(2,43,_)] rfl ⟨fun _ _ h=>h,fun _ _ h=>h,ay⟩ (by kernel_rfl) mQ rfl rfl ?_;intro aT a w G1 hG HT H fin;refine FI H (wg H rfl rfl rfl) rfl rfl rfl rfl ?_;clear H;intro a H;exact dZ
  ·refine dD [(2,43,_),(4,45,_)] rfl ⟨fun _ _ h=>h,fun _ _ h=>h,ay⟩ (by kernel_rfl) mQ rfl rfl ?_;intro aT a w G1 hG HT H fin;exact Me
  ·refine dD [(5,46,_)] rfl ⟨fun _ _ h=>h,ay⟩ (by kernel_rfl) mQ rfl rfl ?_;intro aT a w G1 hG HT H fin;exact Ak
  ·refine dD [(6,47,_)] rfl ⟨fun _ _ h=>h,ay⟩ (by kernel_rfl) mQ rfl rfl ?_;intro aT a w G1 hG HT H fin;refine FK H (wg H rfl rfl rfl) rfl rfl ?_;clear H;intro a H;exact dZ
  ·refine dD [(7,48,_),(6,47,_)] rfl ⟨fun _ _ h=>h,fun _ _ h=>h,ay⟩ (by kernel_rfl) mQ rfl rfl ?_;intro aT a w G1 hG HT H fin;refine FI H (wg H rfl rfl rfl) rfl rfl rfl rfl ?_;clear H;intro a H;exact dZ
  ·refine dD [(6,47,_),(8,49,_)] rfl ⟨fun _ _ h=>h,fun _ _ h=>h,ay⟩ (by kernel_rfl) mQ rfl rfl ?_;intro aT a w G1 hG HT H fin;exact Me
  ·refine dD [(9,50,_)] rfl ⟨fun _ _ h=>h,ay⟩ (by kernel_rfl) mQ rfl rfl ?_;intro aT a w G1 hG HT H fin;exact Ak
  ·refine dD [(10,51,_)] rfl ⟨fun _ _ h=>h,ay⟩ (by kernel_rfl) mQ rfl rfl ?_;intro aT a w G1 hG HT H fin;refine aV gM (cs:=E.cells) H (wg H rfl rfl rfl) rfl rfl (fun j v hj=>H.hp.aI (aF hG (hge j v hj))) rfl ?_;clear H;intro a H;exact dZ
  ·refine dD [(11,52,_),(10,51,_)] rfl ⟨fun _ _ h=>h,fun _ _ h=>h,ay⟩ (by kernel_rfl) mQ rfl rfl ?_;intro aT a w G1 hG HT H fin;refine s_call UW H (wg H rfl rfl rfl) rfl (Yg _ _ H.ro E _ (hE.mono hG) s1 k1) rfl ?_;clear H;rintro v53 Tp a w ⟨N53,rfl,adt⟩ Hu H;rw [tw1] at adt;exact fin H Hu (⟨N53,rfl,adt⟩)
  ·refine dD [(10,51,_)] rfl ⟨fun _ _ h=>h,ay⟩ (by kernel_rfl) mQ rfl rfl ?_;intro aT a w G1 hG HT H fin;refine aV gM (cs:=D.cells) H (wg H rfl rfl rfl) rfl rfl (fun j v hj=>H.hp.aI (aF hG (hgd j v hj))) rfl ?_;clear H;intro a H;exact dZ
  ·refine dD [(13,54,_),(10,51,_)] rfl ⟨fun _ _ h=>h,fun _ _ h=>h,ay⟩ (by kernel_rfl) mQ rfl rfl ?_;intro aT a w G1 hG HT H fin;refine s_call UW H (wg H rfl rfl rfl) rfl (Yg _ _ H.ro D d (hR.mono hG) Fq hc) rfl ?_;clear H;rintro v55 Ja a w ⟨N55,rfl,apF⟩ MQ H;exact fin H MQ (⟨N55,rfl,apF⟩)
  ·intro aT a w G1 _ aP hc hG HT hv;have H:=HT;clear aP;obtain ⟨u53,Nr,yU⟩:=hv 12 53 (hc 12 (by decide)) rfl;(try dsimp only at yU);obtain ⟨M53,rfl,apA⟩:=yU;have H:=H.jC Nr;obtain ⟨u55,arP,aen⟩:=hv 14 55 (hc 14 (by decide)) rfl;(try dsimp only at aen);obtain ⟨M55,rfl,apB⟩:=aen;have H:=H.jC arP;have H:=H.aN (hv 10 51 (hc 10 (by decide)) rfl) rfl;have Hb:=H.full;have H:=Hb;clear hc;refine s_call UY H (wg H rfl rfl rfl) rfl (UL _ _ H.ro M53 M55 _ _ apA apB (by omega)) rfl ?_;clear H;rintro v56 G56 a w ⟨b56,rfl,adC⟩ apk H;obtain rfl:=adC.2 rfl;refine aB ⟨rfl,?_⟩;exact uT (by kernel_rfl) mQ rfl rfl HT Hb hG hv apk (rfl) H
  ·refine dD [(10,51,_),(15,56,_)] rfl ⟨fun _ _ h=>h,fun _ _ h=>h,ay⟩ (by kernel_rfl) mQ rfl rfl ?_;intro aT a w G1 hG HT H fin;exact Me
  ·refine dD [(16,57,_)] rfl ⟨fun _ _ h=>h,ay⟩ (by kernel_rfl) mQ rfl rfl ?_;intro aT a w G1 hG HT H fin;exact Ak
  ·refine dD [(17,58,_)] rfl ⟨fun _ _ h=>h,ay⟩ (by kernel_rfl) mQ rfl rfl ?_;intro aT a w G1 hG HT H fin;refine aV gM (cs:=F.cells) H (wg H rfl rfl rfl) rfl rfl (fun j v hj=>H.hp.aI (aF hG (hgf j v hj))) rfl ?_;clear H;intro a H;exact dZ
  ·refine dD [(18,59,_),(17,58,_)] rfl ⟨fun _ _ h=>h,fun _ _ h=>h,ay⟩ (by kernel_rfl) mQ rfl rfl ?_;intro aT a w G1 hG HT H fin;refine s_call UR H (wg H rfl rfl rfl) rfl (Yh _ _ H.ro F _ (hF.mono hG) s2 k2) rfl ?_;clear H;rintro v60 G60 a w ⟨N60,rfl,adu⟩ apl H;rw [tw2] at adu;exact fin H apl (⟨N60,rfl,adu⟩)
  ·refine dD [(17,58,_)] rfl ⟨fun _ _ h=>h,ay⟩ (by kernel_rfl) mQ rfl rfl ?_;intro aT a w G1 hG HT H fin;refine aV gM (cs:=D.cells) H (wg H rfl rfl rfl) rfl rfl (fun j v hj=>H.hp.aI (aF hG (hgd j v hj))) rfl ?_;clear H;intro a H;exact dZ
  ·refine dD [(20,61,_),(17,58,_)] rfl ⟨fun _ _ h=>h,fun _ _ h=>h,ay⟩ (by kernel_rfl) mQ rfl rfl ?_;intro aT a w G1 hG HT H fin;refine s_call UR H (wg H rfl rfl rfl) rfl (Yh _ _ H.ro D d (hR.mono hG) Fq hc) rfl ?_;clear H;rintro v62 ZA a w ⟨N62,rfl,apG⟩ apm H;exact fin H apm (⟨N62,rfl,apG⟩)
  ·intro aT a w G1 _ aP hc hG HT hv;have H:=HT;clear aP;obtain ⟨u60,arQ,aeo⟩:=hv 19 60 (hc 19 (by decide)) rfl;(try dsimp only at aeo);obtain ⟨M60,rfl,apC⟩:=aeo;have H:=H.jC arQ;obtain ⟨u62,arR,aep⟩:=hv 21 62 (hc 21 (by decide)) rfl;(try dsimp only at aep);obtain ⟨M62,rfl,apD⟩:=aep;have H:=H.jC arR;have H:=H.aN (hv 17 58 (hc 17 (by decide)) rfl) rfl;have Hb:=H.full;have H:=Hb;clear hc;refine s_call UY H (wg H rfl rfl rfl) rfl (UL _ _ H.ro M60 M62 _ _ apC apD (by omega)) rfl ?_;clear H;rintro v63 Ew a w ⟨b63,rfl,apY⟩ apn H;obtain rfl:=apY.2 rfl;refine aB ⟨rfl,?_⟩;exact uT (by kernel_rfl) mQ rfl rfl HT Hb hG hv apn (rfl) H
  ·refine dD [(17,58,_),(22,63,_)] rfl ⟨fun _ _ h=>h,fun _ _ h=>h,ay⟩ (by kernel_rfl) mQ rfl rfl ?_;intro aT a w G1 hG HT H fin;exact Me
  ·refine dD [(23,64,_)] rfl ⟨fun _ _ h=>h,ay⟩ (by kernel_rfl) mQ rfl rfl ?_;intro aT a w G1 hG HT H fin;exact Ak
  ·refine dD [(24,65,_)] rfl ⟨fun _ _ h=>h,ay⟩ (by kernel_rfl) mQ rfl rfl ?_;intro aT a w G1 hG HT H fin;refine aV gM (cs:=K.cells) H (wg H rfl rfl rfl) rfl rfl (fun j v hj=>H.hp.aI (aF hG (qI j v hj))) rfl ?_;clear H;intro a H;exact dZ
  ·refine dD [(24,65,_)] rfl ⟨fun _ _ h=>h,ay⟩ (by kernel_rfl) mQ rfl rfl ?_;intro aT a w G1 hG HT H fin;refine aV gM (cs:=D.cells) H (wg H rfl rfl rfl) rfl rfl (fun j v hj=>H.hp.aI (aF hG (hgd j v hj))) rfl ?_;clear H;intro a H;exact dZ
  ·refine dD [(26,67,_),(24,65,_)] rfl ⟨fun _ _ h=>h,fun _ _ h=>h,ay⟩ (by kernel_rfl) mQ rfl rfl ?_;intro aT a w G1 hG HT H fin;refine s_call ace H (wg H rfl rfl rfl) rfl (abL _ _ H.ro D d (hR.mono hG) hs.z p1 p2 p3 p4) rfl ?_;clear H;rintro v68 G68 a w ⟨N68,rfl,apH⟩ apo H;exact fin H apo (⟨N68,rfl,apH⟩)
  ·intro aT a w G1 _ aP hc hG HT hv;have H:=HT;clear aP;have H:=H.aN (hv 25 66 (hc 25 (by decide)) rfl) rfl;obtain ⟨u68,arS,aer⟩:=hv 27 68 (hc 27 (by decide)) rfl;(try dsimp only at aer);obtain ⟨M68,rfl,apE⟩:=aer;have H:=H.jC arS;have H:=H.aN (hv 24 65 (hc 24 (by decide)) rfl) rfl;have Hb:=H.full;have H:=Hb;clear hc;refine s_call UY H (wg H rfl rfl rfl) rfl (UL _ _ H.ro K M68 _ _ (hK.mono hG) apE (by omega)) rfl ?_;clear H;rintro v69 G69 a w ⟨b69,rfl,apZ⟩ apq H;obtain rfl:=apZ.2 rfl;refine aB ⟨rfl,?_⟩;exact uT (by kernel_rfl) mQ rfl rfl HT Hb hG hv apq (rfl) H
  refine dD [(24,65,_),(28,69,_)] rfl ⟨fun _ _ h=>h,fun _ _ h=>h,ay⟩ (by kernel_rfl) mQ rfl rfl ?_;intro aT a w G1 hG HT H fin;exact Me
 clear H;intro a w G J5 H hv;have H:=H.aN (hv 29 70 rfl rfl) rfl;clear hv;refine kH H (Ra rfl ?_);clear H;intro a H;refine aB ⟨rfl,?_⟩;refine aS _ _ ?_;clear aS;refine lr H results6 rfl ?_;exact H.rt (by first|rfl|(simp_all;done))
section
open Go.ChangeShapes Go.RowKit Go.Deep
abbrev rE (W:World):GH:=fun k=>W.heap[k]?
theorem aoO {W:World} {b o:Nat} {v:ah} (h:W.cell? ⟨b,o,none⟩=some v):aI (rE W) b o=some v:=by
 unfold World.cell? at h
 unfold aI rE
 split at h
 ·rename_i c e f hh
  simp only at hh
  rw [hh];simpa using h
 cases h
theorem afd {α:Type} {p:Nat->α->Prop}:∀ n:Nat,(∀ i,i < n->∃ x,p i x)->∃ l:List α,l.length=n∧∀ i x,l[i]?=some x->p i x
 | 0,_=>⟨[],rfl,fun i x h=>by simp at h⟩
 | n+1,h=>by
  obtain ⟨l,hl,hp⟩:=afd n (fun i hi=>h i (by omega));obtain ⟨x,hx⟩:=h n (by omega);refine ⟨l++[x],by simp [hl],fun i y hy=>?_⟩
  by_cases hi:i < l.length
  ·exact hp i y (by rwa [zD hi] at hy)
  rw [uM (by omega)] at hy
  have hin:i - l.length=0:=by
   have:=(jZ.1 hy).1
   simp at this;omega
  rw [hin] at hy
  simp only [BS,pR] at hy
  subst hy;rw [show i=n by omega];exact hx
theorem aiT {H:Type} (d:DataW H):1<=Rows.uptoBulk d:=by
 cases d <;> (try simp only [Rows.uptoBulk]) <;> (try omega)
 rename_i x;cases x <;> simp only [Rows.uptoBulk] <;> omega
theorem aaQ {H ρ:Type} {dat:ρ->List Dat}:∀ (rs:List ρ) (D:Nat->DataW H),(∀ i r,rs[i]?=some r->cZ (dat r)+1<=8*Rows.uptoBulk (D i))->fB (rs.map dat)<=8*Rows.uptoBulkAll ((List.range rs.length).map D)
 | [],D,_=>lu _
 | r :: rs,D,h=>by
  have h0:=h 0 r rfl;have hp:=aiT (D 0);have ih:=aaQ rs (fun i=>D (i+1)) (fun i r hr=>h (i+1) r (by simpa using hr));rw [lg,List.range_succ_eq_map]
  simp only [fH,List.map_map,fB,Rows.uptoBulkAll]
  have e:(List.map (D ∘ Nat.succ) (List.range rs.length))=(List.map (fun i=>D (i+1)) (List.range rs.length)):=rfl;rw [e];omega
theorem aaP {H:Type} {D:Nat->DataW H}:∀ {n i:Nat},i < n->Rows.uptoBulk (D i)<=Rows.uptoBulkAll ((List.range n).map D)
 | 0,i,h=>absurd h (by omega)
 | n+1,i,h=>by
  have key:∀ (l m:List (DataW H)),Rows.uptoBulkAll (l++m)=Rows.uptoBulkAll l+Rows.uptoBulkAll m:=by
   intro l m
   induction l with
   | nil=>simp [Rows.uptoBulkAll]
   | cons x l ih=>simp only [pG,Rows.uptoBulkAll,ih];omega
  rw [List.range_succ,lW,key]
  by_cases hi:i < n
  ·have:=aaP (D:=D) hi;omega
  have:i=n:=by omega
  subst this
  simp only [fH,rV,Rows.uptoBulkAll];omega
section
variable {H:Type} {enc:TypeId × ah->H} {P:Program} {W:World} {base:Nat} {spare:Nat->Bool} {held:Bool}
theorem wh {ρ:Type} {dat:ρ->List Dat} {t e:TypeId} {sz:Nat} (hsz:0 < sz) {fuel:Nat} {cs:List ah} {x:DataW H × List MemPlace} (ht:P.underlying t=some (.slice e)) (hc:P.cellsOf e=sz) (h:DataW.trod enc P W base spare held fuel t cs=some x)
  (row:∀ n cs' D Pl,DataW.trod enc P W base spare held n e cs'=some (D,Pl)->Rows.uptoBulk D < Rows.uptoBulk x.1->∃ r:ρ,bD (rE W) (dat r) cs'∧cZ (dat r)+1<=8*Rows.uptoBulk D) :
  ∃ (rs:List ρ) (v:ah),cs=[v]∧ak (rE W) (.sl sz (rs.map dat)) v∧fB (rs.map dat)+8<=8*Rows.uptoBulk x.1:=by
 rcases open_slice ht h with ⟨rfl,rfl⟩|⟨a,len,cap,m,n,D,Pl,rfl,hb,hl,hm,hmm,rfl,hx⟩
 ·exact ⟨[],_,rfl,ak.oQ rfl (by decide),by simp [fB,Rows.uptoBulk]⟩
 obtain ⟨rs,hrl,hrs⟩:=afd (p:=fun i (r:ρ)=>∃ cs',W.cells? base (a.add (i*sz)) sz=some cs'∧bD (rE W) (dat r) cs'∧cZ (dat r)+1<=8*Rows.uptoBulk (D i)) len (fun i hi=>by
  have him:i < m:=by rw [hmm];split <;> omega
  obtain ⟨cs',h1,h2⟩:=hx i him;rw [hc] at h1;have hb1:=aaP (D:=D) hi;obtain ⟨r,hr1,hr2⟩:=row n cs' (D i) (Pl i) h2 (by simp only [Rows.uptoBulk];omega)
  exact ⟨r,cs',h1,hr1,hr2⟩)
 refine ⟨rs,_,rfl,?_,?_⟩
 ·simp only [ak,bQ]
  refine ⟨some a,cap,by rw [hrl],by omega,hm,fun hne=>?_⟩;obtain ⟨b,off,spot⟩:=a
  have hlen:0 < rs.length:=by cases rs with|nil=>simp at hne|cons _ _=>simp
  obtain ⟨cs0,h1,-,-⟩:=hrs 0 rs[0] (eD hlen);obtain ⟨-,hl0,hg0⟩:=World.cells?_some h1
  have hspot:spot=none:=by
   have h3:=hg0 0 hsz;rw [eD (by omega)] at h3
   simpa [Addr.add] using World.cell?_spot h3
  subst hspot;refine ⟨b,off,rfl,ou.mk fun k r hk=>?_⟩;rw [tT] at hk;obtain ⟨y,hy,rfl⟩:=qU.1 hk;obtain ⟨cs',h2,h3,-⟩:=hrs k y hy;obtain ⟨-,hl1,hg1⟩:=World.cells?_some h2;refine ⟨cs',hl1,fun j u hj=>aoO ?_,h3⟩
  have hj2:j < sz:=by rw [<- hl1];exact (jZ.1 hj).1
  have:=hg1 j hj2;rw [add_add,Go.WideShapes.add_plain] at this;rw [show off+k*sz+j=off+(k*sz+j) by omega,this];exact hj
 have:=aaQ rs D (fun i r hr=>(hrs i r hr).choose_spec.2.2);rw [hrl] at this
 simp only [Rows.uptoBulk];omega
end
structure uH (P:Program) (t:TypeId) (sz:Nat) (fs:List (TypeId × Nat × Nat)):Prop where
 und:P.underlying t=some (.struct (P.fieldsOf t))
 cells:P.cellsOf t=sz
 ES:(P.fieldsOf t).toList.map (fun f=>(f.type,f.offset,P.cellsOf f.type))=fs
theorem wm {P:Program} {H:Type} {enc:TypeId × ah->H} {W:World} {base:Nat} {spare:Nat->Bool} {held:Bool} {t:TypeId} {sz fuel:Nat} {fs:List (TypeId × Nat × Nat)} {cs:List ah} {x:DataW H × List MemPlace} (hs:uH P t sz fs) (h:DataW.trod enc P W base spare held fuel t cs=some x) :
  ∃ (xs:List (DataW H × List MemPlace)) (n:Nat),x.1=.agg (xs.map (·.1))∧cs.length=sz∧xs.length=fs.length∧∀ (i:Nat) (ti:TypeId) (off k:Nat),fs[i]?=some (ti,off,k)->DataW.trod enc P W base spare held n ti ((cs.drop off).take k)=xs[i]?:=by
 obtain ⟨xs,n,-,rfl,hl,hxl,hf⟩:=DataW.trod_struct hs.und h;refine ⟨xs,n,rfl,by rw [hl,hs.cells],by rw [hxl,<- hs.ES];simp,fun i ti off k hi=>?_⟩;rw [<- hs.ES,tT] at hi;obtain ⟨f,hf1,hf2⟩:=qU.1 hi
 simp only [iU] at hf2
 obtain ⟨rfl,rfl,rfl⟩:=hf2;exact hf i f (by simpa using hf1)
section
variable {H:Type} {enc:TypeId × ah->H} {W:World} {base:Nat} {spare:Nat->Bool} {held:Bool}
theorem awE:uH prog 187 2 [(3,0,1),(3,1,1)]:=⟨by kernel_rfl,by kernel_rfl,by kernel_rfl⟩
theorem agk {n:Nat} {cs:List ah} {D:DataW H} {Pl:List MemPlace} (h:DataW.trod enc prog W base spare held n 187 cs=some (D,Pl)):∃ r:aL,bD (rE W) r.dat cs∧cZ r.dat+1<=8*Rows.uptoBulk D:=by
 obtain ⟨xs,m,hx,hl,hxl,hf⟩:=wm awE h
 match cs,hl,xs,hxl with
 | [c0,c1],_,[y0,y1],_ =>
  have h0:=hf 0 _ _ _ rfl;have h1:=hf 1 _ _ _ rfl;obtain ⟨k0,e0,d0,-⟩:=DataW.trod_int underlying3 h0;obtain ⟨k1,e1,d1,-⟩:=DataW.trod_int underlying3 h1
  simp at e0 e1
  subst e0 e1
  simp only at hx
  refine ⟨⟨k0,k1⟩,?_,?_⟩
  ·simp [bD,aL.dat,ak,Value.oneCell']
  rw [hx];simp [d0,d1,aL.dat,cZ,ni,Rows.uptoBulk,Rows.uptoBulkAll]
theorem awv:uH prog 159 2 [(3,0,1),(3,1,1)]:=⟨by kernel_rfl,by kernel_rfl,by kernel_rfl⟩
theorem auu {n:Nat} {cs:List ah} {D:DataW H} {Pl:List MemPlace} (h:DataW.trod enc prog W base spare held n 159 cs=some (D,Pl)):∃ r:gJ,bD (rE W) r.dat cs∧cZ r.dat+1<=8*Rows.uptoBulk D:=by
 obtain ⟨xs,m,hx,hl,hxl,hf⟩:=wm awv h
 match cs,hl,xs,hxl with
 | [c0,c1],_,[y0,y1],_ =>
  have h0:=hf 0 _ _ _ rfl;have h1:=hf 1 _ _ _ rfl;obtain ⟨k0,e0,d0,-⟩:=DataW.trod_int underlying3 h0;obtain ⟨k1,e1,d1,-⟩:=DataW.trod_int underlying3 h1
  simp at e0 e1
  subst e0 e1
  simp only at hx
  refine ⟨⟨k0,k1⟩,?_,?_⟩
  ·simp [bD,gJ.dat,ak,Value.oneCell']
  rw [hx];simp [d0,d1,gJ.dat,cZ,ni,Rows.uptoBulk,Rows.uptoBulkAll]
theorem awy:uH prog 161 4 [(3,0,1),(3,1,1),(3,2,1),(4,3,1)]:=⟨by kernel_rfl,by kernel_rfl,by kernel_rfl⟩
theorem auz {n:Nat} {cs:List ah} {D:DataW H} {Pl:List MemPlace} (h:DataW.trod enc prog W base spare held n 161 cs=some (D,Pl)):∃ r:bZ,bD (rE W) r.dat cs∧cZ r.dat+1<=8*Rows.uptoBulk D:=by
 obtain ⟨xs,m,hx,hl,hxl,hf⟩:=wm awy h
 match cs,hl,xs,hxl with
 | [c0,c1,c2,c3],_,[y0,y1,y2,y3],_ =>
  have h0:=hf 0 _ _ _ rfl;have h1:=hf 1 _ _ _ rfl;have h2:=hf 2 _ _ _ rfl;have h3:=hf 3 _ _ _ rfl;obtain ⟨k0,e0,d0,-⟩:=DataW.trod_int underlying3 h0;obtain ⟨k1,e1,d1,-⟩:=DataW.trod_int underlying3 h1;obtain ⟨k2,e2,d2,-⟩:=DataW.trod_int underlying3 h2;obtain ⟨k3,e3,d3⟩:=DataW.trod_bool underlying4 h3
  simp at e0 e1 e2 e3
  subst e0 e1 e2 e3
  simp only at hx
  refine ⟨⟨k0,k1,k2,k3⟩,?_,?_⟩
  ·simp [bD,bZ.dat,ak,Value.oneCell']
  rw [hx];simp [d0,d1,d2,d3,bZ.dat,cZ,ni,Rows.uptoBulk,Rows.uptoBulkAll]
theorem awD:uH prog 27 4 [(3,0,1),(3,1,1),(24,2,1),(25,3,1)]:=⟨by kernel_rfl,by kernel_rfl,by kernel_rfl⟩
theorem aww:uH prog 29 5 [(23,0,1),(27,1,4)]:=⟨by kernel_rfl,by kernel_rfl,by kernel_rfl⟩
theorem aaY:prog.cellsOf 187=2:=by kernel_rfl
theorem ajp:prog.cellsOf 159=2:=by kernel_rfl
theorem ajr:prog.cellsOf 161=4:=by kernel_rfl
theorem RN {n:Nat} {cs:List ah} {x:DataW H × List MemPlace} (h:DataW.trod enc prog W base spare held n 29 cs=some x):∃ (r:dN) (p d l:ah),cs=[p,vi r.marks.ins,vi r.marks.move,d,l]∧jq (rE W) r p d l∧mW r+15<=8*Rows.uptoBulk x.1:=by
 obtain ⟨xs,m,hx,hl,hxl,hf⟩:=wm aww h
 match cs,hl,xs,hxl with
 | [c0,c1,c2,c3,c4],_,[y0,y1],_ =>
  have h0:=hf 0 _ _ _ rfl;have h1:=hf 1 _ _ _ rfl;obtain ⟨ps,pv,e0,rp,sp⟩:=wh (dat:=aL.dat) (sz:=2) (by omega) underlying23 aaY h0 (fun n cs' D Pl hh _=>agk hh);obtain ⟨zs,m2,hz,hzl,hzx,Nu⟩:=wm awD h1
  match zs,hzx with
  | [z0,z1,z2,z3],_ =>
   have g0:=Nu 0 _ _ _ rfl;have g1:=Nu 1 _ _ _ rfl;have g2:=Nu 2 _ _ _ rfl;have g3:=Nu 3 _ _ _ rfl;obtain ⟨k0,e1,d0,-⟩:=DataW.trod_int underlying3 g0;obtain ⟨k1,e2,d1,-⟩:=DataW.trod_int underlying3 g1;obtain ⟨ds,dv,e3,rd,sd⟩:=wh (dat:=gJ.dat) (sz:=2) (by omega) underlying24 ajp g2 (fun n cs' D Pl hh _=>auu hh);obtain ⟨ls,lv,e4,rl,sl⟩:=wh (dat:=bZ.dat) (sz:=4) (by omega) underlying25 ajr g3 (fun n cs' D Pl hh _=>auz hh)
   simp at e0 e1 e2 e3 e4
   subst e0 e1 e2 e3 e4;refine ⟨⟨ps,⟨k0,k1,ds,ls⟩⟩,_,_,_,rfl,⟨rp,rd,rl⟩,?_⟩;have hzh:=FR ⟨ps,⟨k0,k1,ds,ls⟩⟩
   simp only at hzh
   rw [hx]
   simp only [fH,rV,Rows.uptoBulk,Rows.uptoBulkAll,hz,d0,d1]
   omega
theorem awx:uH prog 68 11 [(3,0,1),(3,1,1),(3,2,1),(9,3,1),(29,4,5),(22,9,1),(66,10,1)]:=⟨by kernel_rfl,by kernel_rfl,by kernel_rfl⟩
theorem awF:uH prog 74 6 [(29,0,5),(72,5,1)]:=⟨by kernel_rfl,by kernel_rfl,by kernel_rfl⟩
theorem awt:uH prog 76 7 [(3,0,1),(29,1,5),(22,6,1)]:=⟨by kernel_rfl,by kernel_rfl,by kernel_rfl⟩
theorem Uo:prog.cellsOf 68=11:=by kernel_rfl
theorem aju:prog.cellsOf 74=6:=by kernel_rfl
theorem ajn:prog.cellsOf 76=7:=by kernel_rfl
theorem agj:∀ (N:Nat) (n:Nat) (cs:List ah) (D:DataW H) (Pl:List MemPlace),DataW.trod enc prog W base spare held n 68 cs=some (D,Pl)->Rows.uptoBulk D < N->∃ r:au,bD (rE W) r.dat cs∧cZ r.dat+1<=8*Rows.uptoBulk D
 | 0,_,_,_,_,_,hN=>absurd hN (by omega)
 | N+1,n,cs,D,Pl,h,hN=>by
  have ih:=agj N;obtain ⟨xs,m,hx,hl,hxl,hf⟩:=wm awx h
  match cs,hl,xs,hxl with
  | [c0,c1,c2,c3,c4,c5,c6,c7,c8,c9,c10],_,[y0,y1,y2,y3,y4,y5,y6],_ =>
   have h0:=hf 0 _ _ _ rfl;have h1:=hf 1 _ _ _ rfl;have h2:=hf 2 _ _ _ rfl;have h3:=hf 3 _ _ _ rfl;have h4:=hf 4 _ _ _ rfl;have h5:=hf 5 _ _ _ rfl;have h6:=hf 6 _ _ _ rfl
   simp only at hx
   have hD:Rows.uptoBulk D=Rows.uptoBulk y0.1+(Rows.uptoBulk y1.1+(Rows.uptoBulk y2.1+(Rows.uptoBulk y3.1+(Rows.uptoBulk y4.1+(Rows.uptoBulk y5.1+(Rows.uptoBulk y6.1+0))))))+1:=by
    rw [hx];simp only [fH,rV,Rows.uptoBulk,Rows.uptoBulkAll]
   obtain ⟨k0,e0,d0,-⟩:=DataW.trod_int underlying3 h0;obtain ⟨k1,e1,d1,-⟩:=DataW.trod_int underlying3 h1;obtain ⟨k2,e2,d2,-⟩:=DataW.trod_int underlying3 h2;obtain ⟨s,e3,d3,-⟩:=DataW.trod_string underlying9 h3;obtain ⟨hd,p,d,l,e4,rh,sh⟩:=RN h4;obtain ⟨fl,fv,e5,rf,sf⟩:=wh (dat:=au.dat) (sz:=11) (by omega) underlying22 Uo h5 (fun n cs' D' eH hh hlt=>ih n cs' D' eH hh (by omega))
   obtain ⟨rs,rv,e6,rr,sr⟩:=wh (dat:=aU.dat) (sz:=6) (by omega) underlying66 aju h6 (fun n cs' D' eH hh hlt=>by
    obtain ⟨xs,m,hx,hl,hxl,hf⟩:=wm awF hh
    match cs',hl,xs,hxl with
    | [a0,a1,a2,a3,a4,a5],_,[w0,w1],_ =>
     have g0:=hf 0 _ _ _ rfl;have g1:=hf 1 _ _ _ rfl
     simp only at hx
     have hD':Rows.uptoBulk D'=Rows.uptoBulk w0.1+(Rows.uptoBulk w1.1+0)+1:=by
      rw [hx];simp only [fH,rV,Rows.uptoBulk,Rows.uptoBulkAll]
     obtain ⟨hd2,p2,d2',l2,q0,rh2,sh2⟩:=RN g0
     obtain ⟨cl,cv,q1,rc,sc⟩:=wh (dat:=aX.dat) (sz:=7) (by omega) underlying72 ajn g1 (fun n cs'' D'' ayo HZ hlt2=>by
      obtain ⟨xs,m,hx2,hl2,arU,hf2⟩:=wm awt HZ
      match cs'',hl2,xs,arU with
      | [b0,b1,b2,b3,b4,b5,b6],_,[v0,v1,v2],_ =>
       have u0:=hf2 0 _ _ _ rfl;have u1:=hf2 1 _ _ _ rfl;have u2:=hf2 2 _ _ _ rfl
       simp only at hx2
       have ayu:Rows.uptoBulk D''=Rows.uptoBulk v0.1+(Rows.uptoBulk v1.1+(Rows.uptoBulk v2.1+0))+1:=by
        rw [hx2];simp only [fH,rV,Rows.uptoBulk,Rows.uptoBulkAll]
       obtain ⟨j0,t0,z0,-⟩:=DataW.trod_int underlying3 u0;obtain ⟨hd3,p3,d3',l3,t1,rh3,sh3⟩:=RN u1;obtain ⟨Vr,fv3,t2,rf3,sf3⟩:=wh (dat:=au.dat) (sz:=11) (by omega) underlying22 Uo u2 (fun n cs3 D3 Pl3 hh3 hlt3=>ih n cs3 D3 Pl3 hh3 (by omega))
       simp at t0 t1 t2
       obtain ⟨rfl,rfl,rfl,rfl,rfl⟩:=t1;subst t0 t2;have hz:=Er (aX.mk j0 hd3 Vr)
       simp only [aX.head,aX.flow] at hz
       have bz:Rows.uptoBulk v0.1=1:=by rw [z0];rfl
       exact ⟨aX.mk j0 hd3 Vr,bD.Q9 (x:=aX.mk j0 hd3 Vr) rh3 rf3,by simp only [dx] at hz;omega⟩)
     simp at q0 q1
     obtain ⟨rfl,rfl,rfl,rfl,rfl⟩:=q0;subst q1;have hz:=Es (aU.mk hd2 cl)
     simp only [aU.head,aU.cells] at hz
     exact ⟨aU.mk hd2 cl,bD.Rb (x:=aU.mk hd2 cl) rh2 rc,by simp only [jk] at hz;omega⟩)
   simp at e0 e1 e2 e3 e4 e5 e6
   obtain ⟨rfl,rfl,rfl,rfl,rfl⟩:=e4;subst e0 e1 e2 e3 e5 e6;have hz:=Ac (au.mk k0 k1 k2 s hd fl rs)
   simp only [au.text,au.head,au.flow,au.rows] at hz
   have b0:Rows.uptoBulk y0.1=1:=by rw [d0];rfl
   have b1:Rows.uptoBulk y1.1=1:=by rw [d1];rfl
   have b2:Rows.uptoBulk y2.1=1:=by rw [d2];rfl
   have b3:Rows.uptoBulk y3.1=s.size+1:=by rw [d3];show s.data.toList.length+1=s.data.size+1;rw [vE]
   exact ⟨au.mk k0 k1 k2 s hd fl rs,bD.mkItem (x:=au.mk k0 k1 k2 s hd fl rs) rh rf rr,by simp only [dx,iO] at hz;omega⟩
theorem auy {n:Nat} {cs:List ah} {x:DataW H × List MemPlace} (h:DataW.trod enc prog W base spare held n 22 cs=some x):∃ (l:List au) (v:ah),cs=[v]∧ak (rE W) (.sl 11 (l.map au.dat)) v∧dx l+8<=8*Rows.uptoBulk x.1 :=
 wh (dat:=au.dat) (sz:=11) (by omega) underlying22 Uo h (fun n cs' D' eH hh _=>agj _ n cs' D' eH hh (Nat.lt_succ_self _))
end
end
section
open Go.ChangeShapes Go.RowKit Go.Deep
theorem Em {ρ:Type} {dat:ρ->List Dat}:∀ {l:List ρ} {x:ρ},x∈l->cZ (dat x)+1<=fB (l.map dat)
 | y :: l,x,h=>by
  rw [fH,fB]
  rcases iy.1 h with rfl|h
  ·omega
  have:=Em (dat:=dat) h;omega
section
variable {H:Type} {enc:TypeId × ah->H} {W:World} {base:Nat} {spare:Nat->Bool} {held:Bool}
theorem awI:uH prog 192 6 [(3,0,1),(3,1,1),(9,2,1),(3,3,1),(3,4,1),(23,5,1)]:=⟨by kernel_rfl,by kernel_rfl,by kernel_rfl⟩
theorem ajw:prog.cellsOf 192=6:=by kernel_rfl
theorem auF {n:Nat} {cs:List ah} {D:DataW H} {Pl:List MemPlace} (h:DataW.trod enc prog W base spare held n 192 cs=some (D,Pl)):∃ r:bY,bD (rE W) r.dat cs∧cZ r.dat+1<=8*Rows.uptoBulk D:=by
 obtain ⟨xs,m,hx,hl,hxl,hf⟩:=wm awI h
 match cs,hl,xs,hxl with
 | [c0,c1,c2,c3,c4,c5],_,[y0,y1,y2,y3,y4,y5],_ =>
  have h0:=hf 0 _ _ _ rfl;have h1:=hf 1 _ _ _ rfl;have h2:=hf 2 _ _ _ rfl;have h3:=hf 3 _ _ _ rfl;have h4:=hf 4 _ _ _ rfl;have h5:=hf 5 _ _ _ rfl
  simp only at hx
  have hD:Rows.uptoBulk D=Rows.uptoBulk y0.1+(Rows.uptoBulk y1.1+(Rows.uptoBulk y2.1+(Rows.uptoBulk y3.1+(Rows.uptoBulk y4.1+(Rows.uptoBulk y5.1+0)))))+1:=by rw [hx];simp only [fH,rV,Rows.uptoBulk,Rows.uptoBulkAll]
  obtain ⟨k0,e0,d0,-⟩:=DataW.trod_int underlying3 h0;obtain ⟨k1,e1,d1,-⟩:=DataW.trod_int underlying3 h1;obtain ⟨k2,e2,d2,-⟩:=DataW.trod_string underlying9 h2;obtain ⟨k3,e3,d3,-⟩:=DataW.trod_int underlying3 h3;obtain ⟨k4,e4,d4,-⟩:=DataW.trod_int underlying3 h4;obtain ⟨k5,q5,e5,r5,d5⟩:=wh (dat:=aL.dat) (sz:=2) (by omega) underlying23 aaY h5 (fun n cs' D Pl hh _=>agk hh)
  simp at e0 e1 e2 e3 e4 e5
  subst e0 e1 e2 e3 e4 e5
  have b0:Rows.uptoBulk y0.1=1:=by rw [d0];rfl
  have b1:Rows.uptoBulk y1.1=1:=by rw [d1];rfl
  have b2:Rows.uptoBulk y2.1=k2.size+1:=by rw [d2];show k2.data.toList.length+1=k2.data.size+1;rw [vE]
  have b3:Rows.uptoBulk y3.1=1:=by rw [d3];rfl
  have b4:Rows.uptoBulk y4.1=1:=by rw [d4];rfl
  refine ⟨⟨k0,k1,k2,k3,k4,k5⟩,?_,?_⟩
  ·exact ⟨_,_,rfl,(by simp [ak,Value.oneCell']),⟨_,_,rfl,(by simp [ak,Value.oneCell']),⟨_,_,rfl,(by simp [ak,Value.oneCell']),⟨_,_,rfl,(by simp [ak,Value.oneCell']),⟨_,_,rfl,(by simp [ak,Value.oneCell']),⟨_,_,rfl,r5,rfl⟩⟩⟩⟩⟩⟩
  simp only [bY.dat,cZ,ni];omega
theorem awC:uH prog 96 4 [(3,0,1),(3,1,1),(9,2,1),(3,3,1)]:=⟨by kernel_rfl,by kernel_rfl,by kernel_rfl⟩
theorem ajt:prog.cellsOf 96=4:=by kernel_rfl
theorem auA {n:Nat} {cs:List ah} {D:DataW H} {Pl:List MemPlace} (h:DataW.trod enc prog W base spare held n 96 cs=some (D,Pl)):∃ r:jR,bD (rE W) r.dat cs∧cZ r.dat+1<=8*Rows.uptoBulk D:=by
 obtain ⟨xs,m,hx,hl,hxl,hf⟩:=wm awC h
 match cs,hl,xs,hxl with
 | [c0,c1,c2,c3],_,[y0,y1,y2,y3],_ =>
  have h0:=hf 0 _ _ _ rfl;have h1:=hf 1 _ _ _ rfl;have h2:=hf 2 _ _ _ rfl;have h3:=hf 3 _ _ _ rfl
  simp only at hx
  have hD:Rows.uptoBulk D=Rows.uptoBulk y0.1+(Rows.uptoBulk y1.1+(Rows.uptoBulk y2.1+(Rows.uptoBulk y3.1+0)))+1:=by rw [hx];simp only [fH,rV,Rows.uptoBulk,Rows.uptoBulkAll]
  obtain ⟨k0,e0,d0,-⟩:=DataW.trod_int underlying3 h0;obtain ⟨k1,e1,d1,-⟩:=DataW.trod_int underlying3 h1;obtain ⟨k2,e2,d2,-⟩:=DataW.trod_string underlying9 h2;obtain ⟨k3,e3,d3,-⟩:=DataW.trod_int underlying3 h3
  simp at e0 e1 e2 e3
  subst e0 e1 e2 e3
  have b0:Rows.uptoBulk y0.1=1:=by rw [d0];rfl
  have b1:Rows.uptoBulk y1.1=1:=by rw [d1];rfl
  have b2:Rows.uptoBulk y2.1=k2.size+1:=by rw [d2];show k2.data.toList.length+1=k2.data.size+1;rw [vE]
  have b3:Rows.uptoBulk y3.1=1:=by rw [d3];rfl
  refine ⟨⟨k0,k1,k2,k3⟩,?_,?_⟩
  ·exact ⟨_,_,rfl,(by simp [ak,Value.oneCell']),⟨_,_,rfl,(by simp [ak,Value.oneCell']),⟨_,_,rfl,(by simp [ak,Value.oneCell']),⟨_,_,rfl,(by simp [ak,Value.oneCell']),rfl⟩⟩⟩⟩
  simp only [jR.dat,cZ,ni];omega
theorem awz:uH prog 93 2 [(3,0,1),(91,1,1)]:=⟨by kernel_rfl,by kernel_rfl,by kernel_rfl⟩
theorem ajs:prog.cellsOf 93=2:=by kernel_rfl
theorem auB {n:Nat} {cs:List ah} {D:DataW H} {Pl:List MemPlace} (h:DataW.trod enc prog W base spare held n 93 cs=some (D,Pl)):∃ r:fD,bD (rE W) r.dat cs∧cZ r.dat+1<=8*Rows.uptoBulk D:=by
 obtain ⟨xs,m,hx,hl,hxl,hf⟩:=wm awz h
 match cs,hl,xs,hxl with
 | [c0,c1],_,[y0,y1],_ =>
  have h0:=hf 0 _ _ _ rfl;have h1:=hf 1 _ _ _ rfl
  simp only at hx
  have hD:Rows.uptoBulk D=Rows.uptoBulk y0.1+(Rows.uptoBulk y1.1+0)+1:=by rw [hx];simp only [fH,rV,Rows.uptoBulk,Rows.uptoBulkAll]
  obtain ⟨k0,e0,d0,-⟩:=DataW.trod_int underlying3 h0;obtain ⟨k1,q1,e1,r1,d1⟩:=wh (dat:=jR.dat) (sz:=4) (by omega) underlying91 ajt h1 (fun n cs' D Pl hh _=>auA hh)
  simp at e0 e1
  subst e0 e1
  have b0:Rows.uptoBulk y0.1=1:=by rw [d0];rfl
  refine ⟨⟨k0,k1⟩,?_,?_⟩
  ·exact ⟨_,_,rfl,(by simp [ak,Value.oneCell']),⟨_,_,rfl,r1,rfl⟩⟩
  simp only [fD.dat,cZ,ni];omega
theorem awu:uH prog 107 6 [(3,0,1),(3,1,1),(9,2,1),(3,3,1),(9,4,1),(4,5,1)]:=⟨by kernel_rfl,by kernel_rfl,by kernel_rfl⟩
theorem ajo:prog.cellsOf 107=6:=by kernel_rfl
theorem aut {n:Nat} {cs:List ah} {D:DataW H} {Pl:List MemPlace} (h:DataW.trod enc prog W base spare held n 107 cs=some (D,Pl)):∃ r:gI,bD (rE W) r.dat cs∧cZ r.dat+1<=8*Rows.uptoBulk D:=by
 obtain ⟨xs,m,hx,hl,hxl,hf⟩:=wm awu h
 match cs,hl,xs,hxl with
 | [c0,c1,c2,c3,c4,c5],_,[y0,y1,y2,y3,y4,y5],_ =>
  have h0:=hf 0 _ _ _ rfl;have h1:=hf 1 _ _ _ rfl;have h2:=hf 2 _ _ _ rfl;have h3:=hf 3 _ _ _ rfl;have h4:=hf 4 _ _ _ rfl;have h5:=hf 5 _ _ _ rfl
  simp only at hx
  have hD:Rows.uptoBulk D=Rows.uptoBulk y0.1+(Rows.uptoBulk y1.1+(Rows.uptoBulk y2.1+(Rows.uptoBulk y3.1+(Rows.uptoBulk y4.1+(Rows.uptoBulk y5.1+0)))))+1:=by rw [hx];simp only [fH,rV,Rows.uptoBulk,Rows.uptoBulkAll]
  obtain ⟨k0,e0,d0,-⟩:=DataW.trod_int underlying3 h0;obtain ⟨k1,e1,d1,-⟩:=DataW.trod_int underlying3 h1;obtain ⟨k2,e2,d2,-⟩:=DataW.trod_string underlying9 h2;obtain ⟨k3,e3,d3,-⟩:=DataW.trod_int underlying3 h3;obtain ⟨k4,e4,d4,-⟩:=DataW.trod_string underlying9 h4;obtain ⟨k5,e5,d5⟩:=DataW.trod_bool underlying4 h5
  simp at e0 e1 e2 e3 e4 e5
  subst e0 e1 e2 e3 e4 e5
  have b0:Rows.uptoBulk y0.1=1:=by rw [d0];rfl
  have b1:Rows.uptoBulk y1.1=1:=by rw [d1];rfl
  have b2:Rows.uptoBulk y2.1=k2.size+1:=by rw [d2];show k2.data.toList.length+1=k2.data.size+1;rw [vE]
  have b3:Rows.uptoBulk y3.1=1:=by rw [d3];rfl
  have b4:Rows.uptoBulk y4.1=k4.size+1:=by rw [d4];show k4.data.toList.length+1=k4.data.size+1;rw [vE]
  have b5:Rows.uptoBulk y5.1=1:=by rw [d5];rfl
  refine ⟨⟨k0,k1,k2,k3,k4,k5⟩,?_,?_⟩
  ·exact ⟨_,_,rfl,(by simp [ak,Value.oneCell']),⟨_,_,rfl,(by simp [ak,Value.oneCell']),⟨_,_,rfl,(by simp [ak,Value.oneCell']),⟨_,_,rfl,(by simp [ak,Value.oneCell']),⟨_,_,rfl,(by simp [ak,Value.oneCell']),⟨_,_,rfl,(by simp [ak,Value.oneCell']),rfl⟩⟩⟩⟩⟩⟩
  simp only [gI.dat,cZ,ni];omega
theorem awJ:uH prog 110 2 [(9,0,1),(9,1,1)]:=⟨by kernel_rfl,by kernel_rfl,by kernel_rfl⟩
theorem ajy:prog.cellsOf 110=2:=by kernel_rfl
theorem auG {n:Nat} {cs:List ah} {D:DataW H} {Pl:List MemPlace} (h:DataW.trod enc prog W base spare held n 110 cs=some (D,Pl)):∃ r:jl,bD (rE W) r.dat cs∧cZ r.dat+1<=8*Rows.uptoBulk D:=by
 obtain ⟨xs,m,hx,hl,hxl,hf⟩:=wm awJ h
 match cs,hl,xs,hxl with
 | [c0,c1],_,[y0,y1],_ =>
  have h0:=hf 0 _ _ _ rfl;have h1:=hf 1 _ _ _ rfl
  simp only at hx
  have hD:Rows.uptoBulk D=Rows.uptoBulk y0.1+(Rows.uptoBulk y1.1+0)+1:=by rw [hx];simp only [fH,rV,Rows.uptoBulk,Rows.uptoBulkAll]
  obtain ⟨k0,e0,d0,-⟩:=DataW.trod_string underlying9 h0;obtain ⟨k1,e1,d1,-⟩:=DataW.trod_string underlying9 h1
  simp at e0 e1
  subst e0 e1
  have b0:Rows.uptoBulk y0.1=k0.size+1:=by rw [d0];show k0.data.toList.length+1=k0.data.size+1;rw [vE]
  have b1:Rows.uptoBulk y1.1=k1.size+1:=by rw [d1];show k1.data.toList.length+1=k1.data.size+1;rw [vE]
  refine ⟨⟨k0,k1⟩,?_,?_⟩
  ·exact ⟨_,_,rfl,(by simp [ak,Value.oneCell']),⟨_,_,rfl,(by simp [ak,Value.oneCell']),rfl⟩⟩
  simp only [jl.dat,cZ,ni];omega
theorem awG:uH prog 102 3 [(3,0,1),(9,1,1),(3,2,1)]:=⟨by kernel_rfl,by kernel_rfl,by kernel_rfl⟩
theorem ajv:prog.cellsOf 102=3:=by kernel_rfl
theorem auD {n:Nat} {cs:List ah} {D:DataW H} {Pl:List MemPlace} (h:DataW.trod enc prog W base spare held n 102 cs=some (D,Pl)):∃ r:bV,bD (rE W) r.dat cs∧cZ r.dat+1<=8*Rows.uptoBulk D:=by
 obtain ⟨xs,m,hx,hl,hxl,hf⟩:=wm awG h
 match cs,hl,xs,hxl with
 | [c0,c1,c2],_,[y0,y1,y2],_ =>
  have h0:=hf 0 _ _ _ rfl;have h1:=hf 1 _ _ _ rfl;have h2:=hf 2 _ _ _ rfl
  simp only at hx
  have hD:Rows.uptoBulk D=Rows.uptoBulk y0.1+(Rows.uptoBulk y1.1+(Rows.uptoBulk y2.1+0))+1:=by rw [hx];simp only [fH,rV,Rows.uptoBulk,Rows.uptoBulkAll]
  obtain ⟨k0,e0,d0,-⟩:=DataW.trod_int underlying3 h0;obtain ⟨k1,e1,d1,-⟩:=DataW.trod_string underlying9 h1;obtain ⟨k2,e2,d2,-⟩:=DataW.trod_int underlying3 h2
  simp at e0 e1 e2
  subst e0 e1 e2
  have b0:Rows.uptoBulk y0.1=1:=by rw [d0];rfl
  have b1:Rows.uptoBulk y1.1=k1.size+1:=by rw [d1];show k1.data.toList.length+1=k1.data.size+1;rw [vE]
  have b2:Rows.uptoBulk y2.1=1:=by rw [d2];rfl
  refine ⟨⟨k0,k1,k2⟩,?_,?_⟩
  ·exact ⟨_,_,rfl,(by simp [ak,Value.oneCell']),⟨_,_,rfl,(by simp [ak,Value.oneCell']),⟨_,_,rfl,(by simp [ak,Value.oneCell']),rfl⟩⟩⟩
  simp only [bV.dat,cZ,ni];omega
theorem awH:uH prog 36 4 [(31,0,1),(32,1,1),(33,2,1),(34,3,1)]:=⟨by kernel_rfl,by kernel_rfl,by kernel_rfl⟩
structure TK (s:BP) (n:Nat):Prop where
 st:fB (s.styles.map bY.dat)<=n
 li:fB (s.lists.map fD.dat)<=n
 cm:fB (s.comments.map gI.dat)<=n
 va:fB (s.vars.map jl.dat)<=n
theorem TK.zn {s:BP} {n:Nat} (h:TK s n) (hn:n<=4294967296):TL s∧s.styles.length<=4294967296:=by
 obtain ⟨h1,h2,h3,h4⟩:=h;have l1:=qL (s.styles.map bY.dat);have l2:=qL (s.lists.map fD.dat);have l3:=qL (s.comments.map gI.dat);have l4:=qL (s.vars.map jl.dat);rw [bQ] at l1 l2 l3 l4;refine ⟨⟨fun x hx=>?_,by omega,fun x hx y hy=>?_,by omega,fun x hx=>?_,by omega,fun x hx=>?_,fun x hx=>?_,fun x hx=>?_⟩,by omega⟩
 ·have:=Em (dat:=bY.dat) hx
  simp only [bY.dat,cZ,ni] at this;omega
 ·have:=Em (dat:=fD.dat) hx
  simp only [fD.dat,cZ,ni] at this
  have h5:=Em (dat:=jR.dat) hy
  simp only [jR.dat,cZ,ni] at h5;omega
 ·have:=Em (dat:=gI.dat) hx
  simp only [gI.dat,cZ,ni] at this;omega
 ·have:=Em (dat:=jl.dat) hx
  simp only [jl.dat,cZ,ni] at this;omega
 ·have:=Em (dat:=bY.dat) hx;have h5:=qL (x.props.map aL.dat);rw [bQ] at h5
  simp only [bY.dat,cZ,ni] at this;omega
 have:=Em (dat:=fD.dat) hx;have h5:=qL (x.levels.map jR.dat);rw [bQ] at h5
 simp only [fD.dat,cZ,ni] at this;omega
theorem auE {n:Nat} {cs:List ah} {x:DataW H × List MemPlace} (h:DataW.trod enc prog W base spare held n 36 cs=some x):∃ (s:BP) (a b c d:ah),cs=[a,b,c,d]∧Ai (rE W) s a b c d∧TK s (8*Rows.uptoBulk x.1):=by
 obtain ⟨xs,m,hx,hl,hxl,hf⟩:=wm awH h
 match cs,hl,xs,hxl with
 | [c0,c1,c2,c3],_,[y0,y1,y2,y3],_ =>
  have h0:=hf 0 _ _ _ rfl;have h1:=hf 1 _ _ _ rfl;have h2:=hf 2 _ _ _ rfl;have h3:=hf 3 _ _ _ rfl;obtain ⟨k0,q0,e0,r0,d0⟩:=wh (dat:=bY.dat) (sz:=6) (by omega) underlying31 ajw h0 (fun n cs' D Pl hh _=>auF hh);obtain ⟨k1,q1,e1,r1,d1⟩:=wh (dat:=fD.dat) (sz:=2) (by omega) underlying32 ajs h1 (fun n cs' D Pl hh _=>auB hh);obtain ⟨k2,q2,e2,r2,d2⟩:=wh (dat:=gI.dat) (sz:=6) (by omega) underlying33 ajo h2 (fun n cs' D Pl hh _=>aut hh);obtain ⟨k3,q3,e3,r3,d3⟩:=wh (dat:=jl.dat) (sz:=2) (by omega) underlying34 ajy h3 (fun n cs' D Pl hh _=>auG hh)
  simp at e0 e1 e2 e3
  subst e0 e1 e2 e3
  have hD:Rows.uptoBulk x.1=Rows.uptoBulk y0.1+(Rows.uptoBulk y1.1+(Rows.uptoBulk y2.1+(Rows.uptoBulk y3.1+0)))+1:=by rw [hx];simp only [fH,rV,Rows.uptoBulk,Rows.uptoBulkAll]
  exact ⟨⟨k0,k1,k2,k3⟩,_,_,_,_,rfl,⟨r0,r1,r2,r3⟩,⟨by show fB (k0.map _)<=_;omega,by show fB (k1.map _)<=_;omega,by show fB (k2.map _)<=_;omega,by show fB (k3.map _)<=_;omega⟩⟩
theorem agT:uH prog 38 11 [(22,0,1),(29,1,5),(30,6,1),(36,7,4)]:=⟨by kernel_rfl,by kernel_rfl,by kernel_rfl⟩
theorem Ej {G:GH} {sz:Nat} {rs:List (List Dat)} {v:ah} (h:ak G (.sl sz rs) v):∃ x,v=aW x:=by
 obtain ⟨a,n,c,rfl⟩:=h.form;exact ⟨(a,n,c),rfl⟩
theorem auv {n:Nat} {cs:List ah} {x:DataW H × List MemPlace} (h:DataW.trod enc prog W base spare held n 38 cs=some x) (hb:Rows.uptoBulk x.1<=1048576):∃ (D:jh) (d:gu),cs=D.cells∧kX (rE W) D d∧Af d∧dx d.flow<=8388608∧mW d.fin<=8388608:=by
 obtain ⟨xs,m,hx,hl,hxl,hf⟩:=wm agT h
 match cs,hl,xs,hxl with
 | [c0,c1,c2,c3,c4,c5,c6,c7,c8,c9,c10],_,[y0,y1,y2,y3],_ =>
  have h0:=hf 0 _ _ _ rfl;have h1:=hf 1 _ _ _ rfl;have h2:=hf 2 _ _ _ rfl;have h3:=hf 3 _ _ _ rfl;obtain ⟨l,q0,e0,r0,d0⟩:=auy h0;obtain ⟨hd,p,dd,ll,e1,r1,d1⟩:=RN h1;obtain ⟨rv,q2,e2,r2,d2⟩:=wh (dat:=bV.dat) (sz:=3) (by omega) underlying30 ajv h2 (fun n cs' D Pl hh _=>auD hh);obtain ⟨s,a,b,c,d,e3,r3,d3⟩:=auE h3
  simp at e0 e1 e2 e3
  obtain ⟨rfl,rfl,rfl,rfl,rfl⟩:=e1;obtain ⟨rfl,rfl,rfl,rfl⟩:=e3;subst e0 e2
  have hD:Rows.uptoBulk x.1=Rows.uptoBulk y0.1+(Rows.uptoBulk y1.1+(Rows.uptoBulk y2.1+(Rows.uptoBulk y3.1+0)))+1:=by rw [hx];simp only [fH,rV,Rows.uptoBulk,Rows.uptoBulkAll]
  obtain ⟨x0,rfl⟩:=Ej r0;obtain ⟨x1,rfl⟩:=Ej r1.props;obtain ⟨x2,rfl⟩:=Ej r1.bJ;obtain ⟨x3,rfl⟩:=Ej r1.layers;obtain ⟨x4,rfl⟩:=Ej r2;obtain ⟨x5,rfl⟩:=Ej r3.st;obtain ⟨x6,rfl⟩:=Ej r3.li;obtain ⟨x7,rfl⟩:=Ej r3.cm;obtain ⟨x8,rfl⟩:=Ej r3.va;obtain ⟨hz1,hz2⟩:=d3.zn (by omega);have l2:=qL (rv.map bV.dat);rw [bQ] at l2;refine ⟨⟨x0,x1,x2,x3,x4,x5,x6,x7,x8,hd.marks.ins,hd.marks.move⟩,⟨l,hd,rv,s⟩,rfl,⟨r0,r1,rfl,rfl,r2,r3⟩,⟨by show dx l<=_;omega,by show mW hd<=_;omega,by show rv.length<=_;omega,fun x hx=>?_,hz2,hz1⟩,by show dx l<=_;omega,by show mW hd<=_;omega⟩;have:=Em (dat:=bV.dat) hx
  simp only [bV.dat,cZ,ni] at this
  omega
end
end
section
open Go.ChangeShapes Go.RowKit Go.Deep
section
variable {H:Type} {enc:TypeId × ah->H} {W:World} {base:Nat} {spare:Nat->Bool} {held:Bool}
theorem ajq:prog.cellsOf 3=1:=by kernel_rfl
theorem auw {n:Nat} {cs:List ah} {x:DataW H × List MemPlace} (h:DataW.trod enc prog W base spare held n 41 cs=some x) :
  ∃ (l:List Int) (v:ah),cs=[v]∧ak (rE W) (.sl 1 (l.map fun k=>[li k])) v∧fB (l.map fun k=>[li k])+8<=8*Rows.uptoBulk x.1 :=
 wh (dat:=fun k:Int=>[li k]) (sz:=1) (by omega) underlying41 ajq h (fun n cs' D Pl hh _=>by
  obtain ⟨k,e,d,-⟩:=DataW.trod_int underlying3 hh
  have b:Rows.uptoBulk (D,Pl).1=1:=by rw [d];rfl
  dsimp only at b
  exact ⟨k,by rw [e];exact ⟨_,_,rfl,(by simp [ak,Value.oneCell']),rfl⟩,by rw [b];simp [cZ,ni]⟩)
end
end
end Go.Proofs.YtdiflmikikiedaaGreat
