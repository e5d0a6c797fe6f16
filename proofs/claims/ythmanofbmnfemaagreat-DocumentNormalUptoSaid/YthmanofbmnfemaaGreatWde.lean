/-
  What the claim stands on, part 5: Np13 Nq13 Ni13 Blw Tbs Brd Ins Uq13 Lf13 Fz13 Bi13 Dlr Ccl Dnn Gco Cst Dcl Nm Mn Lay Srt Ms Ids Usd Nml Mst.
-/
import Derived.Test.YthmanofbmnfemaaGreatWdd
import Derived.ProofKit
import Derived.Deep.Slices
import Derived.Laws.StructEq
import Derived.Shelf.SlIterI.Nil
import Derived.Shelf.SortM.Plain
import Derived.Shelf.SortM.SortNone
namespace Go.Proofs.YthmanofbmnfemaaGreat
open Go.Proofs.Tryz
set_option maxRecDepth 20000
set_option maxHeartbeats 4000000
section
open Go.RowKit
theorem Zc {Q:av→Prop} (hj:∀ z y,Q z→Q y→qH z y→Q (oI z y)) {out:List av} {y:av} (hy:Q y) (ho:∀ z∈out,Q z):∀ z∈addN out y,Q z:=by
 by_cases hd:uD y
 ·rw [Oj hd];exact ho
 by_cases h:∃ o z,out=o++[z]∧qH z y
 ·obtain ⟨o,z,rfl,hz⟩:=h;rw [Lm hd hz];intro x hx
  rcases ng.1 hx with h|h
  ·exact ho x (List.mem_append_left _ h)
  rw [qO.1 h];exact hj z y (ho z (by simp)) hy hz
 rw [BM hd fun o z e hz=>h ⟨o,z,e,hz⟩];intro x hx
 rcases ng.1 hx with h|h
 ·exact ho x h
 rw [qO.1 h];exact hy
theorem UC {Q:av→Prop} (hj:∀ z y,Q z→Q y→qH z y→Q (oI z y)):∀ (A out:List av),(∀ y∈A,Q y)→(∀ z∈out,Q z)→∀ z∈A.foldl addN out,Q z
 | [],_,_,ho=>ho
 | y :: A,out,hA,ho=>UC hj A (addN out y) (fun x hx=>hA x (jT _ hx)) (Zc hj (hA y gP) ho)
theorem fold_add {γ:Type} {F:List av→γ} {op:γ→γ→γ} {Q:av→Prop} (hF:∀ a b,F (a++b)=op (F a) (F b)) (hj:∀ z y,Q z→Q y→qH z y→Q (oI z y)) (hd:∀ y,Q y→¬ uD y)
  (hg:∀ o z y,Q z→Q y→qH z y→F (o++[oI z y])=op (F (o++[z])) (F [y])):∀ (A out:List av),(∀ y∈A,Q y)→(∀ z∈out,Q z)→F (A.foldl addN out)=F (out++A)
 | [],out,_,_=>by rw [lD];rfl
 | y :: A,out,hA,ho=>by
  have hy:=hA y gP;rw [List.foldl_cons,fold_add hF hj hd hg A (addN out y) (fun x hx=>hA x (jT _ hx)) (Zc hj hy ho),show out++y :: A=(out++[y])++A by simp,hF,hF (out++[y])]
  congr 1
  by_cases h:∃ o z,out=o++[z]∧qH z y
  ·obtain ⟨o,z,rfl,hz⟩:=h;rw [Lm (hd y hy) hz,hg o z y (ho z (by simp)) hy hz,← hF]
  rw [BM (hd y hy) fun o z e hz=>h ⟨o,z,e,hz⟩]
theorem UD {x:av} (h:gN x=0) (hk:x.kind=1):x.code=0∧x.id=0∧mX x.text=true∧mh x.text=false∧x.flow=[]∧x.rows=[]:=by
 have h0:=GY h
 unfold gN at h
 have hc:uy x=false:=by simp [uy,hk]
 have hn:sN x=false:=by simp [sN,hk]
 split at h
 ·cases h
 split at h
 ·cases h
 rename_i h2
 split at h
 ·cases h
 split at h
 ·cases h
 rename_i h4
 rw [hk] at h4
 simp only [qU,hc,hn,Bool.not_false,tY,Bool.or_eq_true,not_or,Bool.not_eq_true,oP,fD] at h2
 refine ⟨h2.1.1.1.1,h2.1.1.1.2,h0.1,?_,h0.2.2.2 (by omega),h0.2.2.1 (by omega)⟩
 cases he:mh x.text
 ·rfl
 rw [he] at h4;simp at h4
theorem aal (s:ByteArray):mh s=decide (s.size=0):=by
 unfold mh
 rw [ByteArray.toList_eq,ByteArray.toList_eq,lq,lN,beq_iff_eq]
 constructor
 ·intro h;have:=aB List.length h
  simpa using this
 intro h;exact List.eq_nil_of_length_eq_zero (by rw [wJ];exact h)
theorem amK {z y:av} (hz:gN z=0) (hy:gN y=0) (kz:z.kind=1) (ky:y.kind=1):gN (oI z y)=0:=by
 obtain ⟨a1,a2,a3,a4,a5,a6⟩:=UD hz kz;obtain ⟨b1,b2,b3,b4,b5,b6⟩:=UD hy ky;have hv:=aga a3 b3
 have he:mh (z.text++y.text)=false:=by
  rw [aal,oP] at a4 ⊢;rw [ByteArray.size_append];omega
 unfold gN oI codeOk qU wo uY uy sN
 simp only [av.kind,av.code,av.id,av.text,av.flow,av.rows] at *
 simp [kz,a1,a2,a5,a6,hv,he,wo,uy,sN,uY,av.kind,av.code]
theorem amL {k c i:Int} {tx:ByteArray} {h:cu} {f f':List av} {r r':List aS} (hx:gN (.mk k c i tx h f r)=0) (hf:k≠6→f=[]→f'=[]) (hr:r'.length=r.length):gN (.mk k c i tx h f' r')=0:=by
 have h0:=(GY hx).2.2.2
 have e:qU (.mk k c i tx h f' r')=qU (.mk k c i tx h f r):=by
  have hfl:k≠6→f'.length=f.length:=fun h6=>by rw [hf h6 (h0 h6),show f=[] from h0 h6]
  rw [lq]
  simp only [qU,Bool.or_eq_true,nk,lN]
  have c1:uy (.mk k c i tx h f' r')=uy (.mk k c i tx h f r):=rfl;have c2:sN (.mk k c i tx h f' r')=sN (.mk k c i tx h f r):=rfl;have c3:uY (.mk k c i tx h f' r')=uY (.mk k c i tx h f r):=rfl;rw [c1,c2,c3]
  show (((((_∧c≠0)∨(_∧i≠0))∨(_∧(!mh tx)=true))∨(k≠6∧0 < (f'.length:Int)))∨(k≠7∧0 < (r'.length:Int)))↔(((((_∧c≠0)∨(_∧i≠0))∨(_∧(!mh tx)=true))∨(k≠6∧0 < (f.length:Int)))∨(k≠7∧0 < (r.length:Int)))
  rw [hr]
  by_cases h6:k=6
  ·simp [h6]
  rw [hfl h6]
 have e2:codeOk (.mk k c i tx h f' r')=codeOk (.mk k c i tx h f r):=rfl;have e3:wo (.mk k c i tx h f' r')=wo (.mk k c i tx h f r):=rfl
 unfold gN at hx ⊢
 rw [e,e2,e3];exact hx
theorem QZ {C:bL} {body note:Bool} {t:Int} (x:av):pI C body note t x↔gN x=0∧Rb body note t x.kind x.id∧eH C x.kind x.head=0∧(x.kind=6→kD C false true t x.flow)∧(x.kind=7→(x.rows.length≠0∧x.rows.length≤256)∧qJ C note (t+1) x.rows):=by
 cases x;rw [pI];rfl
theorem WQ {C:bL} {body note:Bool} {t:Int} (z y:av) (hz:pI C body note t z) (hy:pI C body note t y) (hj:qH z y):pI C body note t (oI z y):=by
 rw [QZ] at *;refine ⟨amK hz.1 hy.1 hj.2.1 hj.1,hz.2.1,hz.2.2.1,hz.2.2.2.1,hz.2.2.2.2⟩
theorem aev {C:bL} {body note:Bool} {t:Int} (y:av) (hy:pI C body note t y):¬ uD y:=by
 rw [QZ] at hy;rintro (⟨h1,h2⟩|⟨h1,h2⟩)
 ·exact (hy.2.2.2.2 h1).1.1 h2
 have:=(UD hy.1 h1).2.2.2.1;rw [aal] at this
 simp [h2] at this
theorem WS {C:bL} {body note:Bool} {t:Int} {A:List av} (h:kD C body note t A):kD C body note t (A.foldl addN []):=Ki.2 (UC WQ A [] (Ki.1 h) (fun _ h=>by cases h))
mutual
theorem arR (C:bL) (body note:Bool) (t:Int):∀ x:av,pI C body note t x→pI C body note t (nI x)
 | .mk k c i tx h f r,hx=>by
  have hf:=IB C false true t f;have hr:=aey C note (t+1) r;rw [pI] at hx;rw [nI,pI];exact ⟨amL hx.1 (fun _ e=>by rw [e];rfl) (by rw [QW,bE]),hx.2.1,hx.2.2.1,fun e=>WS (hf (hx.2.2.2.1 e)),fun e=>⟨by rw [QW,bE];exact (hx.2.2.2.2 e).1,hr (hx.2.2.2.2 e).2⟩⟩
theorem arS (C:bL) (note:Bool) (t:Int):∀ x:aS,vX C note t x→vX C note t (nR x)
 | .mk h cs,hx=>by
  have hc:=aex C note t cs;rw [vX] at hx;rw [nR,vX];exact ⟨by rw [WJ,bE];exact hx.1,hc hx.2⟩
theorem arQ (C:bL) (note:Bool) (t:Int):∀ x:aR,vV C note t x→vV C note t (nC x)
 | .mk i h f,hx=>by
  have hf:=IB C false note t f;rw [vV] at hx;rw [nC,vV];exact ⟨hx.1,WS (hf hx.2)⟩
theorem IB (C:bL) (body note:Bool) (t:Int):∀ l:List av,kD C body note t l→kD C body note t (nW l)
 | [],_=>by rw [nW,kD];trivial
 | x :: l,h=>by
  rw [kD] at h;rw [nW,kD];exact ⟨arR C body note t x h.1,IB C body note t l h.2⟩
theorem aey (C:bL) (note:Bool) (t:Int):∀ l:List aS,qJ C note t l→qJ C note t (qb l)
 | [],_=>by rw [qb,qJ];trivial
 | x :: l,h=>by
  rw [qJ] at h;rw [qb,qJ];exact ⟨arS C note t x h.1,aey C note t l h.2⟩
theorem aex (C:bL) (note:Bool) (t:Int):∀ l:List aR,rF C note t l→rF C note t (pY l)
 | [],_=>by rw [pY,rF];trivial
 | x :: l,h=>by
  rw [rF] at h;rw [pY,rF];exact ⟨arQ C note t x h.1,aex C note t l h.2⟩
end
theorem Nl (l:List av):jC l=(nW l).foldl addN []:=by simp [jC,uP,Nj]
theorem aez {C:bL} {body note:Bool} {t:Int} {l:List av} (h:kD C body note t l):kD C body note t (jC l):=by rw [Nl];exact WS (IB C body note t l h)
end
section
open Go.RowKit
theorem QA:∀ a b:List av,fO (a++b)=fO a++fO b
 | [],b=>by rw [fO];rfl
 | x :: a,b=>by rw [kr,fO,fO,QA a b,fT]
theorem RZ:∀ a b:List av,mG (a++b)=mG a+mG b
 | [],b=>by rw [mG,gX];rfl
 | x :: a,b=>by rw [kr,mG,mG,RZ a b,Nat.add_assoc]
theorem Wj {x:av} (h:x.kind=1):vQ x=[]:=by
 cases x;dsimp only [av.kind] at h;subst h;simp [vQ]
theorem Ya {x:av} (h:x.kind=1):uI x=qP x.text:=by
 cases x;dsimp only [av.kind] at h;subst h;simp [uI,av.text]
theorem Wo {C:bL} {body note:Bool} {t:Int} {A:List av} (h:kD C body note t A):fO (A.foldl addN [])=fO A :=
 (fold_add (F:=fO) QA (WQ (C:=C) (body:=body) (note:=note) (t:=t)) aev (fun o z y _ _ hj=>by
  rw [QA,QA];simp only [fO];rw [Wj hj.2.1,Wj hj.1,Wj (x:=oI z y) hj.2.1];simp) A [] (Ki.1 h) (fun _ h=>by cases h))
theorem Yb {C:bL} {body note:Bool} {t:Int} {A:List av} (h:kD C body note t A):mG (A.foldl addN [])=mG A :=
 (fold_add (F:=mG) RZ (WQ (C:=C) (body:=body) (note:=note) (t:=t)) aev (fun o z y hz hy hj=>by
  rw [QZ] at hz hy
  rw [RZ,RZ];simp only [mG];rw [Ya hj.2.1,Ya hj.1,Ya (x:=oI z y) hj.2.1,show (oI z y).text=z.text++y.text from rfl,aiD (GY hz.1).1 (GY hy.1).1];omega) A [] (Ki.1 h) (fun _ h=>by cases h))
mutual
theorem aqs (C:bL) (body note:Bool) (t:Int):∀ x:av,pI C body note t x→vQ (nI x)=vQ x∧uI (nI x)=uI x
 | .mk k c i tx h f r,hx=>by
  have hf:=QG C false true t f;have hr:=adA C note (t+1) r;rw [pI] at hx;rw [nI,vQ,vQ,uI,uI]
  by_cases h6:k=6
  ·subst h6;have ho:=hx.2.2.2.1 rfl;have hn:=IB C false true t f ho
   simp only [if_true,ah (show ¬ (6:Int)=7 by decide)]
   rw [Wo hn,Yb hn,(hf ho).1,(hf ho).2];exact ⟨rfl,rfl⟩
  by_cases h7:k=7
  ·subst h7;have ho:=(hx.2.2.2.2 rfl).2
   simp only [if_true,ah (show ¬ (7:Int)=6 by decide)]
   rw [(hr ho).1,(hr ho).2];exact ⟨rfl,rfl⟩
  simp only [ah h6,ah h7]
  exact ⟨aY,aY⟩
theorem aqt (C:bL) (note:Bool) (t:Int):∀ x:aS,vX C note t x→yD (nR x)=yD x∧uR (nR x)=uR x
 | .mk h cs,hx=>by
  have hc:=adz C note t cs;rw [vX] at hx;rw [nR,yD,yD,uR,uR];exact hc hx.2
theorem aqr (C:bL) (note:Bool) (t:Int):∀ x:aR,vV C note t x→yC (nC x)=yC x∧uC (nC x)=uC x
 | .mk i h f,hx=>by
  have hf:=QG C false note t f;rw [vV] at hx;have hn:=IB C false note t f hx.2;rw [nC,yC,yC,uC,uC,Wo hn,Yb hn,(hf hx.2).1,(hf hx.2).2];exact ⟨rfl,rfl⟩
theorem QG (C:bL) (body note:Bool) (t:Int):∀ l:List av,kD C body note t l→fO (nW l)=fO l∧mG (nW l)=mG l
 | [],_=>by rw [nW];exact ⟨rfl,rfl⟩
 | x :: l,h=>by
  rw [kD] at h;have h1:=aqs C body note t x h.1;have h2:=QG C body note t l h.2;rw [nW,fO,fO,mG,mG,h1.1,h1.2,h2.1,h2.2];exact ⟨rfl,rfl⟩
theorem adA (C:bL) (note:Bool) (t:Int):∀ l:List aS,qJ C note t l→rD (qb l)=rD l∧zC (qb l)=zC l
 | [],_=>by rw [qb];exact ⟨rfl,rfl⟩
 | x :: l,h=>by
  rw [qJ] at h;have h1:=aqt C note t x h.1;have h2:=adA C note t l h.2;rw [qb,rD,rD,zC,zC,h1.1,h1.2,h2.1,h2.2];exact ⟨rfl,rfl⟩
theorem adz (C:bL) (note:Bool) (t:Int):∀ l:List aR,rF C note t l→sM (pY l)=sM l∧Ah (pY l)=Ah l
 | [],_=>by rw [pY];exact ⟨rfl,rfl⟩
 | x :: l,h=>by
  rw [rF] at h;have h1:=aqr C note t x h.1;have h2:=adz C note t l h.2;rw [pY,sM,sM,Ah,Ah,h1.1,h1.2,h2.1,h2.2];exact ⟨rfl,rfl⟩
end
theorem apY {C:bL} {body note:Bool} {t:Int} {l:List av} (h:kD C body note t l):fO (jC l)=fO l∧mG (jC l)=mG l:=by
 have hn:=IB C body note t l h;rw [Nl,Wo hn,Yb hn];exact QG C body note t l h
theorem auQ (z y:av):bM (oI z y).dat≤bM z.dat+bM y.dat:=by
 rw [av.qQ,av.qQ,av.qQ]
 simp only [oI,av.kind,av.code,av.id,av.text,av.head,av.flow,av.rows,bM,nP,ByteArray.size_append]
 omega
theorem Sl (a b:List av):aX (a++b)=aX a+aX b:=by rw [aX,lg,NH]
theorem Yr (y:av):aX [y]=1+bM y.dat:=by simp [aX,dY]
theorem avO (out:List av) (y:av):aX (addN out y)≤aX out+aX [y]:=by
 rcases Zd out y with e|e|⟨o,z,rfl,-,-,e⟩ <;> rw [e]
 ·omega
 ·rw [Sl];exact bX _
 have:=auQ z y;rw [Sl,Sl,Yr,Yr,Yr];omega
theorem Sm:∀ (A out:List av),aX (A.foldl addN out)≤aX out+aX A
 | [],out=>Nat.le_add_right _ _
 | y :: A,out=>by
  have h1:=Sm A (addN out y);have h2:=avO out y;have h3:=Sl [y] A;rw [List.singleton_append] at h3;rw [List.foldl_cons,h3];omega
mutual
theorem avQ:∀ x:av,bM (nI x).dat≤bM x.dat
 | .mk k c i tx h f r=>by
  have hf:=Sn f;have hr:=agC r;have hd:=Sm (nW f) [];have h0:aX []=0:=rfl
  have NI:∀ (a b:List Dat),bM (a++b)=bM a+bM b:=fun a b=>by
   induction a with
   | nil=>simp [bM]
   | cons x a ih=>simp only [kr,bM,ih];omega
  rw [nI,av.qQ,av.qQ]
  simp only [av.kind,av.code,av.id,av.text,av.head,av.flow,av.rows,bM,nP,NI]
  unfold aX at *
  unfold eD at hr
  omega
theorem avR:∀ x:aS,bM (nR x).dat≤bM x.dat
 | .mk h cs=>by
  have hc:=agB cs
  have NI:∀ (a b:List Dat),bM (a++b)=bM a+bM b:=fun a b=>by
   induction a with
   | nil=>simp [bM]
   | cons x a ih=>simp only [kr,bM,ih];omega
  rw [nR,aS.qQ,aS.qQ]
  simp only [aS.head,aS.cells,bM,nP,NI]
  unfold gH at hc
  omega
theorem avP:∀ x:aR,bM (nC x).dat≤bM x.dat
 | .mk i h f=>by
  have hf:=Sn f;have hd:=Sm (nW f) [];have h0:aX []=0:=rfl
  have NI:∀ (a b:List Dat),bM (a++b)=bM a+bM b:=fun a b=>by
   induction a with
   | nil=>simp [bM]
   | cons x a ih=>simp only [kr,bM,ih];omega
  rw [nC,aR.qQ,aR.qQ]
  simp only [aR.id,aR.head,aR.flow,bM,nP,NI]
  unfold aX at *
  omega
theorem Sn:∀ l:List av,aX (nW l)≤aX l
 | []=>by rw [nW];exact bX _
 | x :: l=>by
  have h1:=avQ x;have h2:=Sn l;rw [nW]
  simp only [aX,dR,dY] at *
  omega
theorem agC:∀ l:List aS,eD (qb l)≤eD l
 | []=>by rw [qb];exact bX _
 | x :: l=>by
  have h1:=avR x;have h2:=agC l;rw [qb]
  simp only [eD,dR,dY] at *
  omega
theorem agB:∀ l:List aR,gH (pY l)≤gH l
 | []=>by rw [pY];exact bX _
 | x :: l=>by
  have h1:=avP x;have h2:=agB l;rw [pY]
  simp only [gH,dR,dY] at *
  omega
end
theorem agD (l:List av):aX (jC l)≤aX l:=by
 have h1:=Sm (nW l) [];have h2:=Sn l;have h0:aX []=0:=rfl;rw [Nl];omega
end
section
open Go.RowKit
def I8 (A:List av):Prop:=(∀ y∈A,¬ uD y)∧∀ o z y p,A=o++z :: y :: p→¬ qH z y
theorem afk {A o p:List av} {x z y:av} (h:A++[x]=o++z :: y :: p):(p=[]∧A=o++[z]∧x=y)∨∃ p',p=p'++[x]∧A=o++z :: y :: p':=by
 rcases List.eq_nil_or_concat p with rfl|⟨p',w,rfl⟩
 ·have e:A++[x]=(o++[z])++[y]:=by rw [h];simp
  obtain ⟨e1,e2⟩:=List.append_inj' e rfl;exact .inl ⟨rfl,e1,by simpa using e2⟩
 have e:A++[x]=(o++z :: y :: p')++[w]:=by rw [h];simp
 obtain ⟨e1,e2⟩:=List.append_inj' e rfl
 have:x=w:=by simpa using e2
 exact .inr ⟨p',by rw [this,List.concat_eq_append],e1⟩
theorem ahR {out:List av} {y:av} (h:I8 out):I8 (addN out y):=by
 by_cases hd:uD y
 ·rw [Oj hd];exact h
 by_cases hj:∃ o z,out=o++[z]∧qH z y
 ·obtain ⟨o,z,rfl,hz⟩:=hj;rw [Lm hd hz];refine ⟨fun x hx=>?_,fun o' z' y' p e=>?_⟩
  ·rcases ng.1 hx with hx|hx
   ·exact h.1 x (List.mem_append_left _ hx)
   rw [qO.1 hx];rintro (⟨h1,-⟩|⟨-,h2⟩)
   ·have:(oI z y).kind=1:=hz.2.1
    omega
   refine hd (.inr ⟨hz.1,?_⟩);rw [show (oI z y).text=z.text++y.text from rfl,ByteArray.size_append] at h2;omega
  rcases afk e with ⟨rfl,e1,e2⟩|⟨p',rfl,e1⟩
  ·subst e2;refine fun hq=>h.2 o' z' z [] (by rw [e1];simp) ⟨hz.2.1,hq.2.1,hq.2.2⟩
  exact h.2 o' z' y' (p'++[z]) (by rw [e1];simp)
 have hn:∀ o z,out=o++[z]→¬ qH z y:=fun o z e hz=>hj ⟨o,z,e,hz⟩;rw [BM hd hn];refine ⟨fun x hx=>?_,fun o' z' y' p e=>?_⟩
 ·rcases ng.1 hx with hx|hx
  ·exact h.1 x hx
  rw [qO.1 hx];exact hd
 rcases afk e with ⟨rfl,e1,rfl⟩|⟨p',rfl,e1⟩
 ·exact hn _ _ e1
 exact h.2 o' z' y' p' e1
theorem ZH:∀ (A out:List av),I8 out→I8 (A.foldl addN out)
 | [],_,h=>h
 | y :: A,out,h=>ZH A (addN out y) (ahR h)
theorem ahS:I8 []:=⟨fun _ h=>(by cases h),fun o z y p e=>by simp at e⟩
theorem ZI:∀ (A B:List av),I8 (A++B)→B.foldl addN A=A++B
 | A,[],_=>by simp
 | A,y :: B,h=>by
  have e:A++y :: B=(A++[y])++B:=by simp
  rw [List.foldl_cons,BM (h.1 y (by simp)) fun o z e hz=>h.2 o z y B (by rw [e];simp) hz,ZI (A++[y]) B (by rw [← e];exact h),e]
theorem amF {z y:av} (hz:nI z=z) (_:nI y=y) (_:qH z y):nI (oI z y)=oI z y:=by
 obtain ⟨k,c,i,tx,h,f,r⟩:=z;rw [nI] at hz
 injection hz with _ _ _ _ _ e1 e2
 show nI (.mk k c i (tx++y.text) h f r)=.mk k c i (tx++y.text) h f r
 rw [nI,e1,e2]
theorem Ux {A:List av} (h:∀ x∈A,nI x=x):(nW (A.foldl addN [])).foldl addN []=A.foldl addN []:=by
 have h1:=UC (Q:=fun x=>nI x=x) (fun z y hz hy hj=>amF hz hy hj) A [] h (fun _ h=>by cases h)
 have h2:nW (A.foldl addN [])=A.foldl addN []:=by
  rw [Nj];exact (List.map_congr_left h1).trans (List.map_id' _)
 rw [h2];have h3:=ZI [] (A.foldl addN []) (by rw [jv];exact ZH A [] ahS)
 rwa [jv] at h3
mutual
theorem arq:∀ x:av,nI (nI x)=nI x
 | .mk k c i tx h f r=>by
  have hf:=QV f;have hr:=aef r;rw [nI,nI,Ux hf,hr]
theorem ars:∀ x:aS,nR (nR x)=nR x
 | .mk h cs=>by
  have hc:=aeb cs;rw [nR,nR,hc]
theorem arl:∀ x:aR,nC (nC x)=nC x
 | .mk i h f=>by
  have hf:=QV f;rw [nC,nC,Ux hf]
theorem QV:∀ l:List av,∀ x∈nW l,nI x=x
 | [],x,hx=>by rw [nW] at hx;cases hx
 | y :: l,x,hx=>by
  have h1:=arq y;have h2:=QV l;rw [nW] at hx
  rcases kZ.1 hx with rfl|hx
  ·exact h1
  exact h2 x hx
theorem aef:∀ l:List aS,qb (qb l)=qb l
 | []=>by rw [qb,qb]
 | y :: l=>by rw [qb,qb,ars y,aef l]
theorem aeb:∀ l:List aR,pY (pY l)=pY l
 | []=>by rw [pY,pY]
 | y :: l=>by rw [pY,pY,arl y,aeb l]
end
theorem aes (l:List av):jC (jC l)=jC l:=by
 rw [Nl (jC l),Nl l];exact Ux (QV l)
end
section
open Go.RowKit
instance RS:Ty prog 50 6 64 [.int .i64 0,.slice none 0 0,.int .i64 0,.int .i64 0,.bool false,.int .i64 0] true:=⟨by kernel_rfl,by kernel_rfl⟩
theorem R6:prog.underlying 45=some (.slice 50):=by kernel_rfl
instance:kR prog 45 (.slice 50):=⟨R6⟩
instance:dL prog 50 1 1:=⟨by kernel_rfl⟩
instance:dL prog 50 0 0:=⟨by kernel_rfl⟩
instance:dL prog 50 4 5:=⟨by kernel_rfl⟩
theorem XM:sV prog 50 [(0,1),(1,1),(2,2),(4,1),(5,1)] [.int .i64 0,.slice none 0 0,.int .i64 0,.int .i64 0,.bool false,.int .i64 0]:=⟨by kernel_rfl,by kernel_rfl⟩
theorem Ub:∀ args w,(callFunc 48 args).run prog w=.ok (.enter 48 args) w:=enters func48 rfl (by kernel_rfl)
instance:dL prog 50 3 4:=⟨by kernel_rfl⟩
structure jL where
 id:Int
 items:List av
 flow:Int
 at_:Int
 note:Bool
 depth:Int
def jL.dat (p:jL):List Dat:=[li p.id,.sl 11 (p.items.map av.dat),li p.flow,li p.at_,.lf (.bool p.note),li p.depth]
abbrev jL.cells (p:jL) (v:ak):List ak:=[vi p.id,v,vi p.flow,vi p.at_,.bool p.note,vi p.depth]
theorem jL.rep {G:GH} {p:jL} {v:ak} (h:ay G (.sl 11 (p.items.map av.dat)) v):aZ G p.dat (p.cells v) :=
 ⟨_,_,rfl,⟨rfl,rfl⟩,_,_,rfl,h,_,_,rfl,⟨rfl,rfl⟩,_,_,rfl,⟨rfl,rfl⟩,_,_,rfl,⟨rfl,rfl⟩,_,_,rfl,⟨rfl,rfl⟩,rfl⟩
theorem jL.of {G:GH} {p:jL} {cs:List ak} (h:aZ G p.dat cs):∃ v,cs=p.cells v∧ay G (.sl 11 (p.items.map av.dat)) v:=by
 simp only [jL.dat,aZ] at h
 obtain ⟨_,_,rfl,⟨rfl,-⟩,v,_,rfl,hv,_,_,rfl,⟨rfl,-⟩,_,_,rfl,⟨rfl,-⟩,_,_,rfl,⟨rfl,-⟩,_,_,rfl,⟨rfl,-⟩,rfl⟩:=h;exact ⟨v,rfl,hv⟩
mutual
def Di (f:Int) (at_:Nat) (note:Bool) (t:Int):av→List jL
 | .mk k _ i _ _ fl r=>if k=6 then ⟨i,fl,f,at_,true,t⟩ :: qw i true t 0 fl else if k=7 then rY f at_ note (t+1) r else []
/-- The flows that are contained in a flow, with where they stand. -/
def qw (f:Int) (note:Bool) (t:Int):Nat→List av→List jL
 | _,[]=>[]
 | at_,x :: l=>Di f at_ note t x++qw f note t (at_+n1 x) l
def rY (f:Int) (at_:Nat) (note:Bool) (t:Int):List aS→List jL
 | []=>[]
 | x :: l=>Dj f at_ note t x++rY f at_ note t l
def Dj (f:Int) (at_:Nat) (note:Bool) (t:Int):aS→List jL
 | .mk _ cs=>vC f at_ note t cs
def vC (f:Int) (at_:Nat) (note:Bool) (t:Int):List aR→List jL
 | []=>[]
 | x :: l=>EK f at_ note t x++vC f at_ note t l
def EK (f:Int) (at_:Nat) (note:Bool) (t:Int):aR→List jL
 | .mk i _ fl=>⟨i,fl,f,at_,note,t⟩ :: qw i note t 0 fl
end
theorem Ov (f:Int) (at_:Nat) (note:Bool) (t:Int) (x:av):Di f at_ note t x=if x.kind=6 then ⟨x.id,x.flow,f,at_,true,t⟩ :: qw x.id true t 0 x.flow else if x.kind=7 then rY f at_ note (t+1) x.rows else []:=by cases x;rw [Di];rfl
theorem ahi (f:Int) (at_:Nat) (note:Bool) (t:Int) (x:aS):Dj f at_ note t x=vC f at_ note t x.cells:=by cases x;rw [Dj];rfl
theorem Zj (f:Int) (at_:Nat) (note:Bool) (t:Int) (x:aR):EK f at_ note t x=⟨x.id,x.flow,f,at_,note,t⟩ :: qw x.id note t 0 x.flow:=by cases x;rw [EK];rfl
mutual
theorem ahg (f:Int) (at_:Nat) (note:Bool) (t:Int):∀ x:av,(Di f at_ note t x).length < bM x.dat
 | .mk k c i tx h fl r=>by
  have h4:=pU (.mk k c i tx h fl r);have hf:=Jg i true t 0 fl;have hr:=Zl f at_ note (t+1) r;dsimp only [av.text,av.head,av.flow,av.rows] at h4;rw [Di]
  split
  ·rw [jS];omega
  split <;> first|omega|(simp only [List.length_nil];omega)
theorem Jg (f:Int) (note:Bool) (t:Int):∀ (at_:Nat) (l:List av),(qw f note t at_ l).length≤aX l
 | _,[]=>by simp [qw]
 | at_,x :: l=>by
  have h1:=ahg f at_ note t x;have h2:=Jg f note t (at_+n1 x) l;rw [qw,jc]
  simp only [aX,dR,dY] at *;omega
theorem ahj (f:Int) (at_:Nat) (note:Bool) (t:Int):∀ x:aS,(Dj f at_ note t x).length≤bM x.dat
 | .mk h cs=>by
  have h4:=tO (.mk h cs);have hc:=Zk f at_ note t cs;dsimp only [aS.head,aS.cells] at h4;rw [Dj];omega
theorem Zl (f:Int) (at_:Nat) (note:Bool) (t:Int):∀ l:List aS,(rY f at_ note t l).length≤eD l
 | []=>by simp [rY]
 | x :: l=>by
  have h1:=ahj f at_ note t x;have h2:=Zl f at_ note t l;rw [rY,jc]
  simp only [eD,dR,dY] at *;omega
theorem ahf (f:Int) (at_:Nat) (note:Bool) (t:Int):∀ x:aR,(EK f at_ note t x).length≤bM x.dat
 | .mk i h fl=>by
  have h4:=uZ (.mk i h fl);have hf:=Jg i note t 0 fl;dsimp only [aR.head,aR.flow] at h4;rw [EK,jS];omega
theorem Zk (f:Int) (at_:Nat) (note:Bool) (t:Int):∀ l:List aR,(vC f at_ note t l).length≤gH l
 | []=>by simp [vC]
 | x :: l=>by
  have h1:=ahf f at_ note t x;have h2:=Zk f at_ note t l;rw [vC,jc]
  simp only [gH,dR,dY] at *;omega
end
def yS (p:jL):List jL:=p :: qw p.id p.note p.depth 0 p.items
def Sr (m:Nat):Prop:=∀ (G:GH) (w0:World),Hold G w0→∀ (p:jL) (v:ak),ay G (.sl 11 (p.items.map av.dat)) v→aX p.items < m→0≤p.depth→p.depth+aX p.items≤4294967296 →
 Calls prog 48 #[.agg (p.cells v).toArray] w0 (bB w0 G fun u G'=>ay G' (.sl 6 ((yS p).map jL.dat)) u)
structure ED (g:GH) (v:ak) (R:List jL) (xs:List ak) (Lo:OL):Prop where
 row:cB 50 6 v R.length xs Lo
 cat:bV g 6 (R.map jL.dat) xs
theorem ED.mono {g g':GH} {v:ak} {R:List jL} {xs:List ak} {Lo:OL} (h:ED g v R xs Lo) (hm:∀ b o,g b=some o→g' b=some o):ED g' v R xs Lo:=⟨h.row,h.cat.mono hm⟩
theorem row_one {e b:Nat} {xs:List ak} (h:xs.length=6):cB e 6 (.slice (some ⟨b,0,none⟩) 1 1) 1 xs [(b,.cells xs.toArray e (0,0))]:=⟨by rw [h],.inr ⟨b,1,xs.toArray,rfl,rfl,bX _,(by decide),by simp [h],by simp [← h]⟩⟩
theorem arj (x:av):n1 x+aX x.flow+eD x.rows < bM x.dat:=by
 have h1:=pU x;have h2:=GQ x.text
 unfold n1 fK;split <;> (try split) <;> omega
theorem ahl {m:Nat} (ih:Sr m) (hm:m≤4294967296):Sr (m+1):=by
 intro G w0 hG p v hu hz hd0 hdz;obtain ⟨pid,l,pf,pa,nX,pd⟩:=p;dsimp only at hu hz hd0 hdz;obtain ⟨A,c,rfl,hc1,hc2,hg⟩:=hu.slice;rw [bE] at *;have hll:=BG l;have hml:maxLen=9223372036854775807:=rfl;obtain ⟨p,hp⟩:∃ p:jL,p=⟨pid,l,pf,pa,nX,pd⟩:=⟨_,rfl⟩;have hbn:=Jg pid nX pd 0 l;refine eN [(0,_)] func48 rfl ntmps48 rfl rfl hG ?_;refine aj 1 ?_;intro a H;refine dN (cs:=[_,_,_,_,_,_]) H wn rfl rfl rfl ?_;clear H;intro b1 a w hb1 H;refine aH 2 H ?_;clear H;intro a H;obtain ⟨Ga,hma,hb1',H⟩:=H.dS
 have q0:aC Ga b1 0=some (vi pid):=by unfold aC;rw [hb1'];rfl
 have q1:aC Ga b1 1=some (.slice A l.length c):=by unfold aC;rw [hb1'];rfl
 have q3:aC Ga b1 4=some (.bool nX):=by unfold aC;rw [hb1'];rfl
 have q4:aC Ga b1 5=some (vi pd):=by unfold aC;rw [hb1'];rfl
 have lI:∀ (j:Nat) (v:ak),[vi pid,.slice A l.length c,vi pf,vi pa,.bool nX,vi pd][j]?=some v→aC Ga b1 (0+j)=some v:=fun j v hj=>by
  unfold aC;rw [hb1',gX];simpa using hj
 replace hu:=hu.mono hma;refine tq ?_;refine aT RS (cs:=[vi pid,.slice A l.length c,vi pf,vi pa,.bool nX,vi pd]) H wn rfl rfl (fun j v hj=>H.hp.aC (lI j v hj)) rfl ?_;clear H;intro a H;refine iy R6 RS [_,_,_,_,_,_] [_,_,_,_,_,_] H wn rfl rfl rfl rfl rfl (by intro i q h;match i,h with|0,h=>exact h|n+1,h=>simp at h) rfl rfl ?_;clear H;intro b14 a w U9 H;refine aH 2 H ?_;clear H;have hr0:ED Ga (.slice (some ⟨b14,0,none⟩) 1 1) [p] [vi pid,.slice A l.length c,vi pf,vi pa,.bool nX,vi pd] [(b14,.cells [vi pid,.slice A l.length c,vi pf,vi pa,.bool nX,vi pd].toArray 50 (0,0))]:=⟨row_one rfl,by simpa using (bV.nil (G:=Ga) (sz:=6)).snoc (by rw [hp];exact jL.rep (p:=⟨pid,l,pf,pa,nX,pd⟩) hu) rfl⟩;refine aj 8 ?_;intro a H;refine dD (ι:=Nat × Nat × List jL × ak × List ak × OL × GH) (Tc:=[(1,_)]) (Lc:=[]) (fun gh=>[(3,gh.2.2.2.1),(4,vi gh.2.1),(5,vi gh.1)]) (fun gh=>[]++gh.2.2.2.2.2.1) (fun gh=>gh.2.2.2.2.2.2) (fun gh=>gh.1≤l.length∧ED gh.2.2.2.2.2.2 gh.2.2.2.1 gh.2.2.1 gh.2.2.2.2.1 gh.2.2.2.2.2.1∧gh.2.2.1++qw pid nX pd gh.2.1 (l.drop gh.1)=p :: qw pid nX pd 0 l∧(∀ b o,Ga b=some o→gh.2.2.2.2.2.2 b=some o)∧gh.2.1+aX (l.drop gh.1)≤4294967296) (fun gh=>l.length - gh.1) ((0,0,[p],.slice (some ⟨b14,0,none⟩) 1 1,[vi pid,.slice A l.length c,vi pf,vi pa,.bool nX,vi pd],[(b14,.cells [vi pid,.slice A l.length c,vi pf,vi pa,.bool nX,vi pd].toArray 50 (0,0))],Ga)) sB ?_ ?_
 ·exact ⟨eG _,hr0,rfl,fun _ _ h=>h,by dsimp only;rw [GI];omega⟩
 clear H;rintro ⟨k,at_,R,v3,xs,Lo,g⟩ a w hI H;dsimp only at hI H;obtain ⟨hk,hr1,hX,hgm,hat⟩:=hI;obtain ⟨v3A,v3c,rfl,-,-⟩:=hr1.row.shape
 have hRl:R.length≤aX l+1:=by
  have:=aB List.length hX;rw [jc,jS] at this;omega
 have q1g:=aD hgm q1;dsimp only [lca,aQ] at H;refine cK 8 H ?_ ?_ <;> clear H
 ·intro uQ
  have hk2:k < l.length:=by omega
  obtain ⟨b,o,pA,pn,pc,dA,dn,dc,yA,yn,yc,fA,fn,fc,rA,rn,rc,rfl,hrow,hhd,hfl,hrw⟩:=AA hk2 hg;replace hrow:=fun j u hj=>aD hgm (aD hma (hrow j u hj));replace hfl:=(hfl.mono hma).mono hgm;replace hrw:=(hrw.mono hma).mono hgm;have hrn:=hrw.len;rw [bE] at hrn;subst hrn;have hzs:=Yo hk2;have hzi:=pU l[k];have Ik:=I5 (iq hk2);have hna:=arj l[k];have hpart:=hu.part k (k+1) (by omega) (by rw [bE];omega);rw [jy hk2,qw] at hX
  have he1:((l.map av.dat).drop k).take 1=[l[k]].map av.dat:=by rw [jy (by simpa using hk2)];simp
  obtain ⟨x,hx⟩:∃ x,x=l[k]:=⟨_,rfl⟩;rw [← hx] at hX hrow hhd hfl hrw hzs hzi Ik hna he1;have q0g:=aD hgm q0;have q4g:=aD hgm q4;have hrl:=BH x.rows;have hb6:=Jg x.id true pd 0 x.flow
  have hc3:¬ c=k:=by omega
  refine aj 8 ?_;intro a H;refine aT dU (cs:=[vi x.kind,vi x.code,vi x.id,.string x.text,.slice pA pn pc,vi x.head.marks.ins,vi x.head.marks.move,.slice dA dn dc,.slice yA yn yc,.slice fA fn fc,.slice rA x.rows.length rc]) H wn rfl rfl (fun j v hj=>H.hp.aC (hrow j v hj)) rfl ?_;clear H;intro a H;refine dx dU H wn rfl ?_;clear H;intro b6 a w hb6 H;refine bq dU 0 (vs:=[_,_,_,_,_,_,_,_,_,_,_]) _ H wn rfl rfl rfl rfl rfl rfl rfl rfl ?_;clear H;intro w H;dsimp only [List.set,setRow] at H;refine aH 5 H ?_;clear H;intro a H;refine jZ ND [_,_] H wn rfl rfl rfl rfl ?_;clear H;intro a H;refine dx kX H wn rfl ?_;clear H;intro b7 a w qD H;refine bq kX 0 (vs:=[_,_]) _ H wn rfl rfl rfl rfl rfl rfl rfl rfl ?_;clear H;intro w H;dsimp only [List.set,setRow] at H;refine aI ?_;refine dW ?_;refine oQ (ι:=List jL × ak × List ak × OL × GH) (Tc:=[(1,_),(4,_),(5,_),(6,_),(7,_)]) (Lc:=[(_,_),(_,_)]) (fun gh=>[(3,gh.2.1)]) (fun gh=>[]++gh.2.2.2.1) (fun gh=>gh.2.2.2.2) (fun gh=>ED gh.2.2.2.2 gh.2.1 gh.1 gh.2.2.1 gh.2.2.2.1∧gh.1=R++(if x.kind=6 then yS ⟨x.id,x.flow,pid,at_,true,pd⟩ else [])∧gh.1.length≤R.length+aX x.flow+1∧(∀ b o,g b=some o→gh.2.2.2.2 b=some o)) sB ?_ ?_
  ·refine cK 5 H ?_ ?_ <;> clear H
   ·intro p33
    refine aj 6 ?_;intro a H;refine aT kX (cs:=[_,_]) H wn rfl rfl (H.hp.cO 0 rfl rfl) rfl ?_;clear H;refine aj 2 ?_;intro a H;refine jZ XM [_,_,_,_,_,_] H wn rfl rfl rfl rfl ?_;clear H;intro a H;refine s_call Ub H wn rfl (ih _ _ H.ro ⟨x.id,x.flow,pid,at_,true,pd⟩ _ hfl (by dsimp only;omega) hd0 (by dsimp only;omega)) rfl ?_;clear H;rintro v43 Am a w VR nK H;obtain ⟨NU,n43,Oz,rfl⟩:=VR.form
    obtain rfl:n43=(yS ⟨x.id,x.flow,pid,at_,true,pd⟩).length:=by simpa using VR.len
    have hbl:(yS ⟨x.id,x.flow,pid,at_,true,pd⟩).length≤aX x.flow+1:=by unfold yS;rw [jS];dsimp only;omega
    refine XA (Li:=[_,_]) (Lo:=Lo) R6 RS rfl rfl H wn rfl rfl hr1.row VR (by omega) (by omega) rfl ?_;clear H;intro v44 agL news a w apx aon H;refine aH 1 H ?_;clear H;intro a H;refine aI ?_;refine ⟨(R++yS ⟨x.id,x.flow,pid,at_,true,pd⟩,v44,xs++news,agL,Am),sB,?_⟩;(try dsimp only);exact ⟨⟨by rw [jc];exact apx,by rw [lg];exact (hr1.cat.mono nK).append aon⟩,by rw [au p33],by rw [jc];omega,nK⟩
   intro p33
   intro a H;refine iE ?_;refine ⟨(R,_,xs,Lo,g),sB,?_⟩;(try dsimp only);exact ⟨hr1,by rw [ah p33,lD],by omega,fun _ _ h=>h⟩
  clear H;rintro ⟨R2,v5,xs2,KT,g2⟩ a w hI H;dsimp only at hI H;obtain ⟨hr2,hR2,awe,hg2⟩:=hI;obtain ⟨v5A,v5c,rfl,-,-⟩:=hr2.row.shape;dsimp only [lca,aQ] at H;refine dG 5 H ?_;clear H;intro a H;refine dD (ι:=Nat × List jL × ak × List ak × OL × GH) (Tc:=[(1,_),(4,_),(5,_),(6,_),(7,_)]) (Lc:=[(_,_),(_,_)]) (fun gh=>[(3,gh.2.2.1),(8,vi gh.1)]) (fun gh=>[]++gh.2.2.2.2.1) (fun gh=>gh.2.2.2.2.2) (fun gh=>gh.1≤x.rows.length∧ED gh.2.2.2.2.2 gh.2.2.1 gh.2.1 gh.2.2.2.1 gh.2.2.2.2.1∧(x.kind=7→gh.2.1++rY pid at_ nX (pd+1) (x.rows.drop gh.1)=R2++rY pid at_ nX (pd+1) x.rows)∧(x.kind≠7→gh.2.1=R2)∧(∀ b o,g2 b=some o→gh.2.2.2.2.2 b=some o)∧gh.2.1.length+eD (x.rows.drop gh.1)≤R2.length+eD x.rows) (fun gh=>x.rows.length - gh.1) ((0,R2,_,xs2,KT,g2)) sB ?_ ?_
  ·exact ⟨eG _,hr2,fun _=>rfl,fun _=>rfl,fun _ _ h=>h,by dsimp only;rw [GI];omega⟩
  clear H;rintro ⟨rk,R3,v6,IY,Gm,g3⟩ a w hI H;dsimp only at hI H;obtain ⟨MZ,hr3,U7,PX,hg3,awf⟩:=hI;obtain ⟨v6A,v6c,rfl,-,-⟩:=hr3.row.shape;dsimp only [lca,aQ] at H;refine wT 6 48 H ?_ ?_ <;> clear H
  ·intro p48
   refine goB 7 ?_ ?_
   ·intro p54
    have hk3:rk < x.rows.length:=by omega
    have Qf:x.kind=7:=by first|assumption|omega
    obtain ⟨b2,o2,qA,qn,qc,eA,en,ec,zA,zn,zc,cA,cn,cc,rfl,hrow2,yB,hcl⟩:=Eh hk3 ((hrw.mono hg2).mono hg3).at_;have hcn:=hcl.len;rw [bE] at hcn;subst hcn;have hcs:=BD x.rows[rk].cells;have Wh:=Yq hk3;have Wi:=tO x.rows[rk];have hsz2:=I6 hk3;obtain ⟨y,hy⟩:∃ y,y=x.rows[rk]:=⟨_,rfl⟩;rw [← hy] at hrow2 yB hcl hcs Wh Wi hsz2;refine aj 7 ?_;intro a H;refine dD (ι:=Nat × List jL × ak × List ak × OL × GH) (Tc:=[(1,_),(4,_),(5,_),(6,_),(7,_),(8,_)]) (Lc:=[(_,_),(_,_)]) (fun gh=>[(3,gh.2.2.1),(9,vi gh.1)]) (fun gh=>[]++gh.2.2.2.2.1) (fun gh=>gh.2.2.2.2.2) (fun gh=>gh.1≤y.cells.length∧ED gh.2.2.2.2.2 gh.2.2.1 gh.2.1 gh.2.2.2.1 gh.2.2.2.2.1∧gh.2.1++(vC pid at_ nX (pd+1) (y.cells.drop gh.1)++rY pid at_ nX (pd+1) (x.rows.drop (rk+1)))=R3++(vC pid at_ nX (pd+1) y.cells++rY pid at_ nX (pd+1) (x.rows.drop (rk+1)))∧(∀ b o,g3 b=some o→gh.2.2.2.2.2 b=some o)∧gh.2.1.length+gH (y.cells.drop gh.1)+eD (x.rows.drop (rk+1))≤R2.length+eD x.rows) (fun gh=>y.cells.length - gh.1) ((0,R3,_,IY,Gm,g3)) sB ?_ ?_
    ·exact ⟨eG _,hr3,rfl,fun _ _ h=>h,by dsimp only;rw [GI];omega⟩
    clear H;rintro ⟨ck,R4,v7,IZ,KU,g4⟩ a w hI H;dsimp only at hI H;obtain ⟨hck,hr4,hx4,hg4,abC⟩:=hI;obtain ⟨v7A,v7c,rfl,-,-⟩:=hr4.row.shape;have r5:aC g4 b2 (o2+rk*6+5)=some (.slice cA y.cells.length cc):=aD hg4 (hrow2 5 _ rfl);have q3h:=aD hg4 (aD hg3 (aD hg2 (aD hgm q3)));have q4h:=aD hg4 (aD hg3 (aD hg2 q4g));dsimp only [lca,aQ] at H;refine cK 12 H ?_ ?_ <;> clear H
    ·intro p65
     have hk4:ck < y.cells.length:=by omega
     obtain ⟨b3,o3,sA,sn,sc,tA,tn,tc,uA,un,uc,gA,gn,gc,rfl,hrow3,hch,hcf⟩:=BR hk4 (hcl.mono hg4).at_;have hzc:=agw hk4;have hzz:=uZ y.cells[ck];have J3:=KD hk4;rw [jy hk4,vC,Zj,fT] at hx4;obtain ⟨z,hzy⟩:∃ z,z=y.cells[ck]:=⟨_,rfl⟩;rw [← hzy] at hx4 hrow3 hch hcf hzc hzz J3;have qD:=Jg z.id nX (pd+1) 0 z.flow;refine aj 12 ?_;intro a H;refine aT iI (cs:=[vi z.id,.slice sA sn sc,vi z.head.marks.ins,vi z.head.marks.move,.slice tA tn tc,.slice uA un uc,.slice gA gn gc]) H wn rfl rfl (fun j v hj=>H.hp.aC (hrow3 j v hj)) rfl ?_;clear H;intro a H;refine dx iI H wn rfl ?_;clear H;intro b10 a w E9 H;refine bq iI 0 (vs:=[_,_,_,_,_,_,_]) _ H wn rfl rfl rfl rfl rfl rfl rfl rfl ?_;clear H;intro w H;dsimp only [List.set,setRow] at H;refine aH 7 H ?_;clear H;intro a H;refine aT kX (cs:=[_,_]) H wn rfl rfl (H.hp.cO 1 rfl rfl) rfl ?_;clear H;refine aj 5 ?_;intro a H;refine jZ XM [_,_,_,_,_,_] H wn rfl rfl rfl rfl ?_;clear H;intro a H;refine s_call Ub H wn rfl (ih _ _ H.ro ⟨z.id,z.flow,pid,at_,nX,pd+1⟩ _ hcf (by dsimp only;omega) (by dsimp only;omega) (by dsimp only;omega)) rfl ?_;clear H;rintro v89 YU a w VU acp H;obtain ⟨A89,n89,c89,rfl⟩:=VU.form
     obtain rfl:n89=(yS ⟨z.id,z.flow,pid,at_,nX,pd+1⟩).length:=by simpa using VU.len
     have hbl:(yS ⟨z.id,z.flow,pid,at_,nX,pd+1⟩).length≤aX z.flow+1:=by unfold yS;rw [jS];dsimp only;omega
     refine XA (Li:=[_,_,_]) (Lo:=KU) R6 RS rfl rfl H wn rfl rfl hr4.row VU (by omega) (by omega) rfl ?_;clear H;intro v90 agQ news a w apz aoo H;refine aH 6 H ?_;clear H;intro a H;refine aI ?_;refine bR ((ck+1,R4++yS ⟨z.id,z.flow,pid,at_,nX,pd+1⟩,v90,IZ++news,agQ,YU)) (by exact (H.bY (Pl:=[_,_,_]) (bT:=[_,_]) [1,2] (by decide) rfl).sub ⟨rfl,rfl,rfl,rfl,rfl,rfl,rfl,rfl,aY⟩) ?_ ?_
     ·(try dsimp only);exact ⟨by omega,⟨by rw [jc];exact apz,by rw [lg];exact (hr4.cat.mono acp).append aoo⟩,by rw [← hx4,fT];rfl,fun b o h=>acp b o (hg4 b o h),by rw [jc];omega⟩
     first|omega|(dsimp only;omega)
    intro p65
    have abJ:y.cells.drop ck=[]:=eX (by omega);refine aj 5 ?_;intro a H;refine aI ?_;refine bR ((rk+1,R4,_,IZ,KU,g4)) sB ?_ ?_
    ·(try dsimp only);exact ⟨by omega,hr4,fun h7=>by rw [← U7 h7,jy hk3,rY,ahi,← hy,← hx4,abJ,vC,jv],fun h7=>absurd Qf h7,fun b o h=>hg4 b o (hg3 b o h),by rw [abJ] at abC;simp only [gH,vB,dY] at abC;omega⟩
    first|omega|(dsimp only;omega)
   intro p54
   refine aj 1 ?_;have q1h:=aD hg3 (aD hg2 q1g);refine aj 6 ?_;intro a H;refine aff rR dU k (k+1) H wn rfl rfl rfl rfl (by omega) (by omega) (by omega) rfl ?_;clear H;intro a H;rw [ah hc3,BP,add_lit,Dh] at H;refine s_call OW H wn rfl (QI _ _ H.ro [x] _ (by have h:=hpart;rw [ah hc3,BP,add_lit,Dh,he1] at h;exact ((h.mono hgm).mono hg2).mono hg3) (by show 1+bM x.dat+0≤_;omega)) rfl ?_;clear H;rintro v98 YV a w ⟨rfl,amV⟩ JQ H;rw [adH] at H;refine aH 1 H ?_;clear H;intro a H;(iterate 2 refine qK H wn rfl rfl rfl ?_;clear H;intro a H);refine aH 13 H ?_;clear H;intro a H;refine aI ?_;refine bR ((k+1,at_+n1 x,R3,_,IY,Gm,_)) (by exact (H.bY (Pl:=[_,_]) (bT:=[]) [] (by decide) rfl).sub ⟨rfl,rfl,rfl,rfl,aY⟩) ?_ ?_
   ·try dsimp only
    exact ⟨by omega,hr3.mono JQ,by
    rw [← hX]
    by_cases h6:x.kind=6
    ·rw [PX (by omega),hR2,au h6,Ov,au h6,fT];rfl
    rw [ah h6,lD] at hR2;rw [Ov,ah h6]
    by_cases h7:x.kind=7
    ·have e:=U7 h7;rw [eX (by first|omega|(exfalso;simp_all;done)),rY,lD] at e;rw [au h7,e,hR2,fT]
    rw [ah h7,jv,PX h7,hR2],fun b o h=>JQ b o (hg3 b o (hg2 b o (hgm b o h))),by push_cast;omega⟩
   first|omega|(dsimp only;omega)
  intro p48
  refine aj 9 ?_;have q1h:=aD hg3 (aD hg2 q1g);refine aj 6 ?_;intro a H;refine aff rR dU k (k+1) H wn rfl rfl rfl rfl (by omega) (by omega) (by omega) rfl ?_;clear H;intro a H;rw [ah hc3,BP,add_lit,Dh] at H;refine s_call OW H wn rfl (QI _ _ H.ro [x] _ (by have h:=hpart;rw [ah hc3,BP,add_lit,Dh,he1] at h;exact ((h.mono hgm).mono hg2).mono hg3) (by show 1+bM x.dat+0≤_;omega)) rfl ?_;clear H;rintro v98 YV a w ⟨rfl,amV⟩ JQ H;rw [adH] at H;refine aH 1 H ?_;clear H;intro a H;(iterate 2 refine qK H wn rfl rfl rfl ?_;clear H;intro a H);refine aH 13 H ?_;clear H;intro a H;refine aI ?_;refine bR ((k+1,at_+n1 x,R3,_,IY,Gm,_)) (by exact (H.bY (Pl:=[_,_]) (bT:=[]) [] (by decide) rfl).sub ⟨rfl,rfl,rfl,rfl,aY⟩) ?_ ?_
  ·try dsimp only
   exact ⟨by omega,hr3.mono JQ,by
   rw [← hX]
   by_cases h6:x.kind=6
   ·rw [PX (by omega),hR2,au h6,Ov,au h6,fT];rfl
   rw [ah h6,lD] at hR2;rw [Ov,ah h6]
   by_cases h7:x.kind=7
   ·have e:=U7 h7;rw [eX (by first|omega|(exfalso;simp_all;done)),rY,lD] at e;rw [au h7,e,hR2,fT]
   rw [ah h7,jv,PX h7,hR2],fun b o h=>JQ b o (hg3 b o (hg2 b o (hgm b o h))),by push_cast;omega⟩
  first|omega|(dsimp only;omega)
 intro uQ
 refine aj 5 ?_;intro a H;refine lr H results48 rfl ?_;rw [eX (by omega),qw,lD] at hX;obtain ⟨Gr,hmr,hrep,H⟩:=St.vI (Li:=[]) H hr1.row (rows:=R.map jL.dat) (by simp) hr1.cat;exact H.rt (by show ay Gr (.sl 6 ((⟨pid,l,pf,pa,nX,pd⟩ :: qw pid nX pd 0 l).map jL.dat)) _;rw [← hp,← hX];exact hrep)
theorem Zo:∀ m:Nat,m≤4294967297→Sr m
 | 0,_=>fun _ _ _ _ _ _ h=>absurd h (by omega)
 | m+1,hm=>ahl (Zo m (by omega)) (by omega)
theorem abl (G:GH) (w0:World) (hG:Hold G w0) (D:gM) (l:List av) (hv:ay G (.sl 11 (l.map av.dat)) (aM D.f)) (hz:aX l≤4294967295) :
  Calls prog 13 #[D.val] w0 (bB w0 G fun u G'=>ay G' (.sl 6 ((yS ⟨0,l,-1,0,false,0⟩).map jL.dat)) u):=by
 refine eN [(0,_)] func13 rfl ntmps13 rfl rfl hG ?_;refine aj 1 ?_;intro a H;refine dN (cs:=[_,_,_,_,_,_,_,_,_,_,_]) H wn rfl rfl rfl ?_;clear H;intro b1 a w hb1 H;refine aH 5 H ?_;clear H;intro a H;refine jZ ND [_,_] H wn rfl rfl rfl rfl ?_;clear H;intro a H;refine jZ XM [_,_,_,_,_,_] H wn rfl rfl rfl rfl ?_;clear H;intro a H;refine s_call Ub H wn rfl (Zo 4294967297 (by omega) _ _ H.ro ⟨0,l,-1,0,false,0⟩ _ hv (by dsimp only;omega) (Int.le_refl _) (by dsimp only;omega)) rfl ?_;clear H;rintro v7 G7 a w VT vO H;refine gK 2 H ?_;exact VT
end
section
open Go.RowKit
end
section
open Go.ChangeShapes Go.RowKit Go.Deep
abbrev qZ (W:World):GH:=fun k=>W.heap[k]?
theorem amP {W:World} {b o:Nat} {v:ak} (h:W.cell? ⟨b,o,none⟩=some v):aC (qZ W) b o=some v:=by
 unfold World.cell? at h
 unfold aC qZ
 split at h
 ·rename_i c e f hh
  simp only at hh
  rw [hh];simpa using h
 cases h
theorem adK {α:Type} {p:Nat→α→Prop}:∀ n:Nat,(∀ i,i < n→∃ x,p i x)→∃ l:List α,l.length=n∧∀ i x,l[i]?=some x→p i x
 | 0,_=>⟨[],rfl,fun i x h=>by simp at h⟩
 | n+1,h=>by
  obtain ⟨l,hl,hp⟩:=adK n (fun i hi=>h i (by omega));obtain ⟨x,hx⟩:=h n (by omega);refine ⟨l++[x],by simp [hl],fun i y hy=>?_⟩
  by_cases hi:i < l.length
  ·exact hp i y (by rwa [yQ hi] at hy)
  rw [tZ (by omega)] at hy
  have hin:i - l.length=0:=by
   have:=(jr.1 hy).1
   simp at this;omega
  rw [hin] at hy
  simp only [BN,nQ] at hy
  subst hy;rw [show i=n by omega];exact hx
theorem ahq {H:Type} (d:DataW H):1≤Rows.uptoBulk d:=by
 cases d <;> (try simp only [Rows.uptoBulk]) <;> (try omega)
 rename_i x;cases x <;> simp only [Rows.uptoBulk] <;> omega
theorem Zq {H ρ:Type} {dat:ρ→List Dat}:∀ (rs:List ρ) (D:Nat→DataW H),(∀ i r,rs[i]?=some r→bM (dat r)+1≤8*Rows.uptoBulk (D i))→dY (rs.map dat)≤8*Rows.uptoBulkAll ((List.range rs.length).map D)
 | [],D,_=>eG _
 | r :: rs,D,h=>by
  have h0:=h 0 r rfl;have hp:=ahq (D 0);have ih:=Zq rs (fun i=>D (i+1)) (fun i r hr=>h (i+1) r (by simpa using hr));rw [jS,List.range_succ_eq_map]
  simp only [dR,List.map_map,dY,Rows.uptoBulkAll]
  have e:(List.map (D ∘ Nat.succ) (List.range rs.length))=(List.map (fun i=>D (i+1)) (List.range rs.length)):=rfl;rw [e];omega
theorem Zp {H:Type} {D:Nat→DataW H}:∀ {n i:Nat},i < n→Rows.uptoBulk (D i)≤Rows.uptoBulkAll ((List.range n).map D)
 | 0,i,h=>absurd h (by omega)
 | n+1,i,h=>by
  have key:∀ (l m:List (DataW H)),Rows.uptoBulkAll (l++m)=Rows.uptoBulkAll l+Rows.uptoBulkAll m:=by
   intro l m
   induction l with
   | nil=>simp [Rows.uptoBulkAll]
   | cons x l ih=>simp only [kr,Rows.uptoBulkAll,ih];omega
  rw [List.range_succ,lg,key]
  by_cases hi:i < n
  ·have:=Zp (D:=D) hi;omega
  have:i=n:=by omega
  subst this
  simp only [dR,vB,Rows.uptoBulkAll];omega
section
variable {H:Type} {enc:TypeId × ak→H} {P:Program} {W:World} {base:Nat} {spare:Nat→Bool} {held:Bool}
theorem xC {ρ:Type} {dat:ρ→List Dat} {t e:TypeId} {sz:Nat} (hsz:0 < sz) {fuel:Nat} {cs:List ak} {x:DataW H × List MemPlace} (ht:P.underlying t=some (.slice e)) (hc:P.cellsOf e=sz) (h:DataW.trod enc P W base spare held fuel t cs=some x)
  (row:∀ n cs' D Pl,DataW.trod enc P W base spare held n e cs'=some (D,Pl)→Rows.uptoBulk D < Rows.uptoBulk x.1→∃ r:ρ,aZ (qZ W) (dat r) cs'∧bM (dat r)+1≤8*Rows.uptoBulk D) :
  ∃ (rs:List ρ) (v:ak),cs=[v]∧ay (qZ W) (.sl sz (rs.map dat)) v∧dY (rs.map dat)+8≤8*Rows.uptoBulk x.1:=by
 rcases open_slice ht h with ⟨rfl,rfl⟩|⟨a,len,cap,m,n,D,Pl,rfl,hb,hl,hm,hmm,rfl,hx⟩
 ·exact ⟨[],_,rfl,ay.jB rfl (by decide),by simp [dY,Rows.uptoBulk]⟩
 obtain ⟨rs,hrl,hrs⟩:=adK (p:=fun i (r:ρ)=>∃ cs',W.cells? base (a.add (i*sz)) sz=some cs'∧aZ (qZ W) (dat r) cs'∧bM (dat r)+1≤8*Rows.uptoBulk (D i)) len (fun i hi=>by
  have him:i < m:=by rw [hmm];split <;> omega
  obtain ⟨cs',h1,h2⟩:=hx i him;rw [hc] at h1;have hb1:=Zp (D:=D) hi;obtain ⟨r,hr1,hr2⟩:=row n cs' (D i) (Pl i) h2 (by simp only [Rows.uptoBulk];omega)
  exact ⟨r,cs',h1,hr1,hr2⟩)
 refine ⟨rs,_,rfl,?_,?_⟩
 ·simp only [ay,bE]
  refine ⟨some a,cap,by rw [hrl],by omega,hm,fun hne=>?_⟩;obtain ⟨b,off,spot⟩:=a
  have hlen:0 < rs.length:=by cases rs with|nil=>simp at hne|cons _ _=>simp
  obtain ⟨cs0,h1,-,-⟩:=hrs 0 rs[0] (dV hlen);obtain ⟨-,hl0,hg0⟩:=World.cells?_some h1
  have hspot:spot=none:=by
   have h3:=hg0 0 hsz;rw [dV (by omega)] at h3
   simpa [Addr.add] using World.cell?_spot h3
  subst hspot;refine ⟨b,off,rfl,mY.mk fun k r hk=>?_⟩;rw [om] at hk;obtain ⟨y,hy,rfl⟩:=oO.1 hk;obtain ⟨cs',h2,h3,-⟩:=hrs k y hy;obtain ⟨-,hl1,hg1⟩:=World.cells?_some h2;refine ⟨cs',hl1,fun j u hj=>amP ?_,h3⟩
  have hj2:j < sz:=by rw [← hl1];exact (jr.1 hj).1
  have:=hg1 j hj2;rw [add_add,Go.WideShapes.add_plain] at this;rw [show off+k*sz+j=off+(k*sz+j) by omega,this];exact hj
 have:=Zq rs D (fun i r hr=>(hrs i r hr).choose_spec.2.2);rw [hrl] at this
 simp only [Rows.uptoBulk];omega
end
structure tT (P:Program) (t:TypeId) (sz:Nat) (fs:List (TypeId × Nat × Nat)):Prop where
 und:P.underlying t=some (.struct (P.fieldsOf t))
 cells:P.cellsOf t=sz
 Az:(P.fieldsOf t).toList.map (fun f=>(f.type,f.offset,P.cellsOf f.type))=fs
theorem vY {P:Program} {H:Type} {enc:TypeId × ak→H} {W:World} {base:Nat} {spare:Nat→Bool} {held:Bool} {t:TypeId} {sz fuel:Nat} {fs:List (TypeId × Nat × Nat)} {cs:List ak} {x:DataW H × List MemPlace} (hs:tT P t sz fs) (h:DataW.trod enc P W base spare held fuel t cs=some x) :
  ∃ (xs:List (DataW H × List MemPlace)) (n:Nat),x.1=.agg (xs.map (·.1))∧cs.length=sz∧xs.length=fs.length∧∀ (i:Nat) (ti:TypeId) (off k:Nat),fs[i]?=some (ti,off,k)→DataW.trod enc P W base spare held n ti ((cs.drop off).take k)=xs[i]?:=by
 obtain ⟨xs,n,-,rfl,hl,hxl,hf⟩:=DataW.trod_struct hs.und h;refine ⟨xs,n,rfl,by rw [hl,hs.cells],by rw [hxl,← hs.Az];simp,fun i ti off k hi=>?_⟩;rw [← hs.Az,om] at hi;obtain ⟨f,hf1,hf2⟩:=oO.1 hi
 simp only [iB] at hf2
 obtain ⟨rfl,rfl,rfl⟩:=hf2;exact hf i f (by simpa using hf1)
section
variable {H:Type} {enc:TypeId × ak→H} {W:World} {base:Nat} {spare:Nat→Bool} {held:Bool}
theorem aui:tT prog 171 2 [(3,0,1),(3,1,1)]:=⟨by kernel_rfl,by kernel_rfl,by kernel_rfl⟩
theorem aeO {n:Nat} {cs:List ak} {D:DataW H} {Pl:List MemPlace} (h:DataW.trod enc prog W base spare held n 171 cs=some (D,Pl)):∃ r:gB,aZ (qZ W) r.dat cs∧bM r.dat+1≤8*Rows.uptoBulk D:=by
 obtain ⟨xs,m,hx,hl,hxl,hf⟩:=vY aui h
 match cs,hl,xs,hxl with
 | [c0,c1],_,[y0,y1],_ =>
  have h0:=hf 0 _ _ _ rfl;have h1:=hf 1 _ _ _ rfl;obtain ⟨k0,e0,d0,-⟩:=DataW.trod_int underlying3 h0;obtain ⟨k1,e1,d1,-⟩:=DataW.trod_int underlying3 h1
  simp at e0 e1
  subst e0 e1
  simp only at hx
  refine ⟨⟨k0,k1⟩,?_,?_⟩
  ·simp [aZ,gB.dat,ay,Value.oneCell']
  rw [hx];simp [d0,d1,gB.dat,bM,nP,Rows.uptoBulk,Rows.uptoBulkAll]
theorem aub:tT prog 115 2 [(3,0,1),(3,1,1)]:=⟨by kernel_rfl,by kernel_rfl,by kernel_rfl⟩
theorem asH {n:Nat} {cs:List ak} {D:DataW H} {Pl:List MemPlace} (h:DataW.trod enc prog W base spare held n 115 cs=some (D,Pl)):∃ r:iK,aZ (qZ W) r.dat cs∧bM r.dat+1≤8*Rows.uptoBulk D:=by
 obtain ⟨xs,m,hx,hl,hxl,hf⟩:=vY aub h
 match cs,hl,xs,hxl with
 | [c0,c1],_,[y0,y1],_ =>
  have h0:=hf 0 _ _ _ rfl;have h1:=hf 1 _ _ _ rfl;obtain ⟨k0,e0,d0,-⟩:=DataW.trod_int underlying3 h0;obtain ⟨k1,e1,d1,-⟩:=DataW.trod_int underlying3 h1
  simp at e0 e1
  subst e0 e1
  simp only at hx
  refine ⟨⟨k0,k1⟩,?_,?_⟩
  ·simp [aZ,iK.dat,ay,Value.oneCell']
  rw [hx];simp [d0,d1,iK.dat,bM,nP,Rows.uptoBulk,Rows.uptoBulkAll]
theorem aue:tT prog 117 4 [(3,0,1),(3,1,1),(3,2,1),(4,3,1)]:=⟨by kernel_rfl,by kernel_rfl,by kernel_rfl⟩
theorem asK {n:Nat} {cs:List ak} {D:DataW H} {Pl:List MemPlace} (h:DataW.trod enc prog W base spare held n 117 cs=some (D,Pl)):∃ r:iO,aZ (qZ W) r.dat cs∧bM r.dat+1≤8*Rows.uptoBulk D:=by
 obtain ⟨xs,m,hx,hl,hxl,hf⟩:=vY aue h
 match cs,hl,xs,hxl with
 | [c0,c1,c2,c3],_,[y0,y1,y2,y3],_ =>
  have h0:=hf 0 _ _ _ rfl;have h1:=hf 1 _ _ _ rfl;have h2:=hf 2 _ _ _ rfl;have h3:=hf 3 _ _ _ rfl;obtain ⟨k0,e0,d0,-⟩:=DataW.trod_int underlying3 h0;obtain ⟨k1,e1,d1,-⟩:=DataW.trod_int underlying3 h1;obtain ⟨k2,e2,d2,-⟩:=DataW.trod_int underlying3 h2;obtain ⟨k3,e3,d3⟩:=DataW.trod_bool underlying4 h3
  simp at e0 e1 e2 e3
  subst e0 e1 e2 e3
  simp only at hx
  refine ⟨⟨k0,k1,k2,k3⟩,?_,?_⟩
  ·simp [aZ,iO.dat,ay,Value.oneCell']
  rw [hx];simp [d0,d1,d2,d3,iO.dat,bM,nP,Rows.uptoBulk,Rows.uptoBulkAll]
theorem auh:tT prog 27 4 [(3,0,1),(3,1,1),(24,2,1),(25,3,1)]:=⟨by kernel_rfl,by kernel_rfl,by kernel_rfl⟩
theorem auc:tT prog 29 5 [(23,0,1),(27,1,4)]:=⟨by kernel_rfl,by kernel_rfl,by kernel_rfl⟩
theorem ZG:prog.cellsOf 171=2:=by kernel_rfl
theorem ahF:prog.cellsOf 115=2:=by kernel_rfl
theorem ahG:prog.cellsOf 117=4:=by kernel_rfl
theorem Rq {n:Nat} {cs:List ak} {x:DataW H × List MemPlace} (h:DataW.trod enc prog W base spare held n 29 cs=some x):∃ (r:cu) (p d l:ak),cs=[p,vi r.marks.ins,vi r.marks.move,d,l]∧gW (qZ W) r p d l∧oN r+15≤8*Rows.uptoBulk x.1:=by
 obtain ⟨xs,m,hx,hl,hxl,hf⟩:=vY auc h
 match cs,hl,xs,hxl with
 | [c0,c1,c2,c3,c4],_,[y0,y1],_ =>
  have h0:=hf 0 _ _ _ rfl;have h1:=hf 1 _ _ _ rfl;obtain ⟨ps,pv,e0,rp,sp⟩:=xC (dat:=gB.dat) (sz:=2) (by omega) underlying23 ZG h0 (fun n cs' D Pl hh _=>aeO hh);obtain ⟨zs,m2,hz,hzl,hzx,J5⟩:=vY auh h1
  match zs,hzx with
  | [z0,z1,z2,z3],_ =>
   have g0:=J5 0 _ _ _ rfl;have g1:=J5 1 _ _ _ rfl;have g2:=J5 2 _ _ _ rfl;have g3:=J5 3 _ _ _ rfl;obtain ⟨k0,e1,d0,-⟩:=DataW.trod_int underlying3 g0;obtain ⟨k1,e2,d1,-⟩:=DataW.trod_int underlying3 g1;obtain ⟨ds,dv,e3,rd,sd⟩:=xC (dat:=iK.dat) (sz:=2) (by omega) underlying24 ahF g2 (fun n cs' D Pl hh _=>asH hh);obtain ⟨ls,lv,e4,rl,sl⟩:=xC (dat:=iO.dat) (sz:=4) (by omega) underlying25 ahG g3 (fun n cs' D Pl hh _=>asK hh)
   simp at e0 e1 e2 e3 e4
   subst e0 e1 e2 e3 e4;refine ⟨⟨ps,⟨k0,k1,ds,ls⟩⟩,_,_,_,rfl,⟨rp,rd,rl⟩,?_⟩;have Wd:=BF ⟨ps,⟨k0,k1,ds,ls⟩⟩
   simp only at Wd
   rw [hx]
   simp only [dR,vB,Rows.uptoBulk,Rows.uptoBulkAll,hz,d0,d1]
   omega
theorem aud:tT prog 68 11 [(3,0,1),(3,1,1),(3,2,1),(9,3,1),(29,4,5),(22,9,1),(66,10,1)]:=⟨by kernel_rfl,by kernel_rfl,by kernel_rfl⟩
theorem auj:tT prog 144 6 [(29,0,5),(142,5,1)]:=⟨by kernel_rfl,by kernel_rfl,by kernel_rfl⟩
theorem atZ:tT prog 147 7 [(3,0,1),(29,1,5),(22,6,1)]:=⟨by kernel_rfl,by kernel_rfl,by kernel_rfl⟩
theorem Tp:prog.cellsOf 68=11:=by kernel_rfl
theorem ahJ:prog.cellsOf 144=6:=by kernel_rfl
theorem ahD:prog.cellsOf 147=7:=by kernel_rfl
theorem aeN:∀ (N:Nat) (n:Nat) (cs:List ak) (D:DataW H) (Pl:List MemPlace),DataW.trod enc prog W base spare held n 68 cs=some (D,Pl)→Rows.uptoBulk D < N→∃ r:av,aZ (qZ W) r.dat cs∧bM r.dat+1≤8*Rows.uptoBulk D
 | 0,_,_,_,_,_,hN=>absurd hN (by omega)
 | N+1,n,cs,D,Pl,h,hN=>by
  have ih:=aeN N;obtain ⟨xs,m,hx,hl,hxl,hf⟩:=vY aud h
  match cs,hl,xs,hxl with
  | [c0,c1,c2,c3,c4,c5,c6,c7,c8,c9,c10],_,[y0,y1,y2,y3,y4,y5,y6],_ =>
   have h0:=hf 0 _ _ _ rfl;have h1:=hf 1 _ _ _ rfl;have h2:=hf 2 _ _ _ rfl;have h3:=hf 3 _ _ _ rfl;have h4:=hf 4 _ _ _ rfl;have h5:=hf 5 _ _ _ rfl;have h6:=hf 6 _ _ _ rfl
   simp only at hx
   have hD:Rows.uptoBulk D=Rows.uptoBulk y0.1+(Rows.uptoBulk y1.1+(Rows.uptoBulk y2.1+(Rows.uptoBulk y3.1+(Rows.uptoBulk y4.1+(Rows.uptoBulk y5.1+(Rows.uptoBulk y6.1+0))))))+1:=by
    rw [hx];simp only [dR,vB,Rows.uptoBulk,Rows.uptoBulkAll]
   obtain ⟨k0,e0,d0,-⟩:=DataW.trod_int underlying3 h0;obtain ⟨k1,e1,d1,-⟩:=DataW.trod_int underlying3 h1;obtain ⟨k2,e2,d2,-⟩:=DataW.trod_int underlying3 h2;obtain ⟨s,e3,d3,-⟩:=DataW.trod_string underlying9 h3;obtain ⟨hd,p,d,l,e4,rh,sh⟩:=Rq h4;obtain ⟨fl,fv,e5,rf,sf⟩:=xC (dat:=av.dat) (sz:=11) (by omega) underlying22 Tp h5 (fun n cs' D' bT hh hlt=>ih n cs' D' bT hh (by omega))
   obtain ⟨rs,rv,e6,rr,sr⟩:=xC (dat:=aS.dat) (sz:=6) (by omega) underlying66 ahJ h6 (fun n cs' D' bT hh hlt=>by
    obtain ⟨xs,m,hx,hl,hxl,hf⟩:=vY auj hh
    match cs',hl,xs,hxl with
    | [a0,a1,a2,a3,a4,a5],_,[w0,w1],_ =>
     have g0:=hf 0 _ _ _ rfl;have g1:=hf 1 _ _ _ rfl
     simp only at hx
     have hD':Rows.uptoBulk D'=Rows.uptoBulk w0.1+(Rows.uptoBulk w1.1+0)+1:=by
      rw [hx];simp only [dR,vB,Rows.uptoBulk,Rows.uptoBulkAll]
     obtain ⟨hd2,p2,d2',l2,q0,rh2,sh2⟩:=Rq g0
     obtain ⟨cl,cv,q1,rc,sc⟩:=xC (dat:=aR.dat) (sz:=7) (by omega) underlying142 ahD g1 (fun n cs'' D'' avW H6 hlt2=>by
      obtain ⟨xs,m,hx2,hl2,apR,hf2⟩:=vY atZ H6
      match cs'',hl2,xs,apR with
      | [b0,b1,b2,b3,b4,b5,b6],_,[v0,v1,v2],_ =>
       have u0:=hf2 0 _ _ _ rfl;have u1:=hf2 1 _ _ _ rfl;have u2:=hf2 2 _ _ _ rfl
       simp only at hx2
       have awc:Rows.uptoBulk D''=Rows.uptoBulk v0.1+(Rows.uptoBulk v1.1+(Rows.uptoBulk v2.1+0))+1:=by
        rw [hx2];simp only [dR,vB,Rows.uptoBulk,Rows.uptoBulkAll]
       obtain ⟨j0,t0,z0,-⟩:=DataW.trod_int underlying3 u0;obtain ⟨hd3,p3,d3',l3,t1,rh3,sh3⟩:=Rq u1;obtain ⟨Uy,fv3,t2,rf3,sf3⟩:=xC (dat:=av.dat) (sz:=11) (by omega) underlying22 Tp u2 (fun n cs3 D3 Pl3 hh3 hlt3=>ih n cs3 D3 Pl3 hh3 (by omega))
       simp at t0 t1 t2
       obtain ⟨rfl,rfl,rfl,rfl,rfl⟩:=t1;subst t0 t2;have hz:=uZ (aR.mk j0 hd3 Uy)
       simp only [aR.head,aR.flow] at hz
       have bz:Rows.uptoBulk v0.1=1:=by rw [z0];rfl
       exact ⟨aR.mk j0 hd3 Uy,aZ.Ke (x:=aR.mk j0 hd3 Uy) rh3 rf3,by simp only [aX] at hz;omega⟩)
     simp at q0 q1
     obtain ⟨rfl,rfl,rfl,rfl,rfl⟩:=q0;subst q1;have hz:=tO (aS.mk hd2 cl)
     simp only [aS.head,aS.cells] at hz
     exact ⟨aS.mk hd2 cl,aZ.QU (x:=aS.mk hd2 cl) rh2 rc,by simp only [gH] at hz;omega⟩)
   simp at e0 e1 e2 e3 e4 e5 e6
   obtain ⟨rfl,rfl,rfl,rfl,rfl⟩:=e4;subst e0 e1 e2 e3 e5 e6;have hz:=pU (av.mk k0 k1 k2 s hd fl rs)
   simp only [av.text,av.head,av.flow,av.rows] at hz
   have b0:Rows.uptoBulk y0.1=1:=by rw [d0];rfl
   have b1:Rows.uptoBulk y1.1=1:=by rw [d1];rfl
   have b2:Rows.uptoBulk y2.1=1:=by rw [d2];rfl
   have b3:Rows.uptoBulk y3.1=s.size+1:=by rw [d3];show s.data.toList.length+1=s.data.size+1;rw [wJ]
   exact ⟨av.mk k0 k1 k2 s hd fl rs,aZ.mkItem (x:=av.mk k0 k1 k2 s hd fl rs) rh rf rr,by simp only [aX,eD] at hz;omega⟩
theorem asJ {n:Nat} {cs:List ak} {x:DataW H × List MemPlace} (h:DataW.trod enc prog W base spare held n 22 cs=some x):∃ (l:List av) (v:ak),cs=[v]∧ay (qZ W) (.sl 11 (l.map av.dat)) v∧aX l+8≤8*Rows.uptoBulk x.1 :=
 xC (dat:=av.dat) (sz:=11) (by omega) underlying22 Tp h (fun n cs' D' bT hh _=>aeN _ n cs' D' bT hh (Nat.lt_succ_self _))
end
end
section
open Go.RowKit
section
variable {N:Nat} {D:List Deferred} {w0:World} {F:Nat→Prop} {G0 G:GH} {A B C:OL} {T:List (Nat × ak)} {a:Act} {w:World}
end
def psD (p:Int × Int):List Dat:=[li p.1,li p.2]
structure SX (g:GH) (v u:ak) (R:List ((Int × Int) × av)) (xs ys:List ak) (La Lb:OL):Prop where
 it:cB 68 11 v R.length xs La
 ic:bV g 11 (R.map fun q=>q.2.dat) xs
 ps:cB 48 2 u R.length ys Lb
 pc:bV g 2 (R.map fun q=>psD q.1) ys
theorem SX.mono {g g':GH} {v u:ak} {R:List ((Int × Int) × av)} {xs ys:List ak} {La Lb:OL} (h:SX g v u R xs ys La Lb) (hm:∀ b o,g b=some o→g' b=some o):SX g' v u R xs ys La Lb:=⟨h.it,h.ic.mono hm,h.ps,h.pc.mono hm⟩
def SH (T:List ((Int × Int) × av)) (u:ak) (G':GH):Prop:=∃ a b,u=.tuple #[a,b]∧ay G' (.sl 11 (T.map fun q=>q.2.dat)) a∧ay G' (.sl 2 (T.map fun q=>psD q.1)) b
theorem SH.mono {T:List ((Int × Int) × av)} {u:ak} {G G':GH} (hm:∀ b o,G b=some o→G' b=some o) (h:SH T u G):SH T u G':=let ⟨a,b,h1,h2,h3⟩:=h;⟨a,b,h1,h2.mono hm,h3.mono hm⟩
end
section
open Go.RowKit
end
section
open Go.RowKit
abbrev FC (p:jL):Int × List av × Bool × Int:=(p.id,p.items,p.note,p.depth)
abbrev EX (F:kg):Int × List av × Bool × Int:=(F.id,F.items,F.note,F.tables)
mutual
theorem ahs (f:Int) (at_:Nat) (note:Bool) (t:Int):∀ x:av,(Di f at_ note t x).map FC=(zH note t x).map EX
 | .mk k c i tx h fl r=>by
  have hf:=Ow i true t 0 fl;have hr:=Zv f at_ note t r;rw [Di,zH]
  by_cases h6:k=6
  ·rw [au h6,au h6,dR,dR,hf]
  rw [ah h6,ah h6]
  by_cases h7:k=7
  ·rw [au h7,au h7,hr]
  rw [ah h7,ah h7];rfl
theorem Ow (f:Int) (note:Bool) (t:Int):∀ (at_:Nat) (l:List av),(qw f note t at_ l).map FC=(jm note t l).map EX
 | _,[]=>by rw [qw,jm];rfl
 | at_,x :: l=>by rw [qw,jm,lg,lg,ahs f at_ note t x,Ow f note t (at_+n1 x) l]
theorem aht (f:Int) (at_:Nat) (note:Bool) (t:Int):∀ x:aS,(Dj f at_ note (t+1) x).map FC=(zI note t x).map EX
 | .mk h cs=>by rw [Dj,zI];exact Zu f at_ note t cs
theorem Zv (f:Int) (at_:Nat) (note:Bool) (t:Int):∀ l:List aS,(rY f at_ note (t+1) l).map FC=(pR note t l).map EX
 | []=>by rw [rY,pR];rfl
 | x :: l=>by rw [rY,pR,lg,lg,aht f at_ note t x,Zv f at_ note t l]
theorem ahr (f:Int) (at_:Nat) (note:Bool) (t:Int):∀ x:aR,(EK f at_ note (t+1) x).map FC=(zG note t x).map EX
 | .mk i h fl=>by rw [EK,zG,dR,dR,Ow i note (t+1) 0 fl]
theorem Zu (f:Int) (at_:Nat) (note:Bool) (t:Int):∀ l:List aR,(vC f at_ note (t+1) l).map FC=(qm note t l).map EX
 | []=>by rw [vC,qm];rfl
 | x :: l=>by rw [vC,qm,lg,lg,ahr f at_ note t x,Zu f at_ note t l]
end
abbrev ny (l:List av):List jL:=yS ⟨0,l,-1,0,false,0⟩
theorem bw (l:List av):(ny l).map FC=(fC l).map EX:=by
 rw [ny,yS,fC,dR,dR,Ow 0 false 0 0 l]
theorem Dm (l:List av):(ny l).length=(fC l).length:=by simpa using aB List.length (bw l)
theorem Zr {l:List av} {i:Nat} (h:i < (ny l).length):(ny l)[i].id=((fC l)[i]'(by rw [← Dm];exact h)).id∧(ny l)[i].items=((fC l)[i]'(by rw [← Dm];exact h)).items∧(ny l)[i].note=((fC l)[i]'(by rw [← Dm];exact h)).note∧(ny l)[i].depth=((fC l)[i]'(by rw [← Dm];exact h)).tables:=by
 have e:((ny l).map FC)[i]?=((fC l).map EX)[i]?:=by rw [bw]
 rw [om,om,dV h,dV (by rw [← Dm];exact h)] at e
 simp only [BP,nQ,iB] at e
 exact e
theorem Zt {l:List av} {i:Nat} (h:i < (ny l).length):(ny l)[i].id=((fC l)[i]'(by rw [← Dm];exact h)).id∧(ny l)[i].items=((fC l)[i]'(by rw [← Dm];exact h)).items:=⟨(Zr h).1,(Zr h).2.1⟩
end
section
open Go.RowKit
abbrev zN (n:Nat) (L:List ((Int × Int) × av)):Prop:=∀ a∈L,bM a.2.dat≤n
theorem zN.nil (n:Nat):zN n []:=fun _ h=>by cases h
theorem zN.mono {n m:Nat} {L:List ((Int × Int) × av)} (h:zN n L) (hn:n≤m):zN m L:=fun a ha=>Nat.le_trans (h a ha) hn
theorem zN.append {n:Nat} {A B:List ((Int × Int) × av)} (h:zN n A) (g:zN n B):zN n (A++B):=fun a ha=>(ng.1 ha).elim (h a) (g a)
theorem zN.cons {n:Nat} {x:(Int × Int) × av} {B:List ((Int × Int) × av)} (h:bM x.2.dat≤n) (g:zN n B):zN n (x :: B):=fun a ha=>by
 rcases kZ.1 ha with rfl|ha
 ·exact h
 exact g a ha
theorem Zm {G:GH} {A:List jL} {B:Option Addr} {n c k:Nat} (hv:ay G (.sl 6 (A.map jL.dat)) (.slice B n c)) (hk:k < A.length):∃ b o v,B=some ⟨b,o,none⟩∧(∀ j u,(A[k].cells v)[j]?=some u→aC G b (o+k*6+j)=some u)∧ay G (.sl 11 (A[k].items.map av.dat)) v:=by
 obtain ⟨b,o,cs,h1,h2,h3,h4⟩:=hv.at_ k A[k].dat (by simp [hk]);obtain ⟨v,rfl,hr⟩:=jL.of h4;exact ⟨b,o,v,h1,h3,hr⟩
theorem adp {G:GH} {α:Type} {f:α→Int} {A:List α} {B:Option Addr} {n c k:Nat} (hv:ay G (.sl 1 (A.map fun q=>[li (f q)])) (.slice B n c)) (hk:k < A.length):∃ b o,B=some ⟨b,o,none⟩∧aC G b (o+k)=some (vi (f A[k])):=by
 obtain ⟨b,o,cs,h1,h2,h3,h4⟩:=hv.at_ k [li (f A[k])] (by simp [hk])
 simp only [aZ] at h4
 obtain ⟨_,_,rfl,⟨rfl,-⟩,rfl⟩:=h4;exact ⟨b,o,h1,by simpa using h3 0 _ rfl⟩
end
section
open Go.RowKit
theorem ajo:∀ args w,(callFunc 118 args).run prog w=.ok (.enter 118 args) w:=enters func118 rfl (by kernel_rfl)
theorem ajp:∀ args w,(callFunc 119 args).run prog w=.ok (.enter 119 args) w:=enters func119 rfl (by kernel_rfl)
theorem V6 {p:Nat→Bool} (hp:∀ h,p h=true→p (h+1)=true):∀ (f i j:Nat),i≤j→j - i≤f→(∀ h,i≤h→h < mU p f i j→p h=false)∧(mU p f i j < j→p (mU p f i j)=true)
 | 0,i,j,h1,h2=>⟨fun h a b=>by simp only [mU] at b;omega,fun h=>by simp only [mU] at h;omega⟩
 | f+1,i,j,h1,h2=>by
  have up:∀ a b,a≤b→p a=true→p b=true:=fun a b hab=>by
   induction hab with
   | refl=>exact fun h=>h
   | step _ ih=>exact fun h=>hp _ (ih h)
  rw [mU]
  by_cases h:i < j
  ·rw [au h]
   cases hm:p ((i+j) / 2)
   ·rw [ah (by simp)];obtain ⟨r1,r2⟩:=V6 hp f ((i+j) / 2+1) j (by omega) (by omega);refine ⟨fun q a b=>?_,r2⟩
    by_cases hq:(i+j) / 2+1≤q
    ·exact r1 q hq b
    cases hpq:p q
    ·rfl
    rw [up q _ (by omega) hpq] at hm;cases hm
   rw [au rfl];obtain ⟨r1,r2⟩:=V6 hp f i ((i+j) / 2) (by omega) (by omega);refine ⟨r1,fun _=>?_⟩
   by_cases hq:mU p f i ((i+j) / 2) < (i+j) / 2
   ·exact r2 hq
   have:=Qw (p:=p) f i ((i+j) / 2) (by omega);rw [show mU p f i ((i+j) / 2)=(i+j) / 2 by omega];exact hm
  rw [ah h];exact ⟨fun q a b=>by omega,fun q=>absurd q h⟩
theorem anH {l:List Int} (hs:l.Pairwise (·≤·)) (t:Int):vK l t=decide (t∈l):=by
 have hlt:∀ i j (hi:i < l.length) (hj:j < l.length),i≤j→l[i]≤l[j]:=fun i j hi hj hij=>by
  rcases Nat.lt_or_eq_of_le hij with h|rfl
  ·exact List.pairwise_iff_getElem.1 hs i j hi hj h
  exact Int.le_refl _
 rw [lq,lN]
 constructor
 ·intro h;exact mg (lQ h)
 intro h;obtain ⟨k,hk,rfl⟩:=List.getElem_of_mem h
 -- the test,as if the list went on with its last number
 let p:Nat→Bool:=fun h=>decide (¬ l.getD h 0 < l[k])
 let p':Nat→Bool:=fun h=>decide (l.length≤h∨¬ l.getD h 0 < l[k])
 have hpp:∀ (f i j:Nat),j≤l.length→i≤j→mU p f i j=mU p' f i j:=by
  intro f
  induction f with
  | zero=>intro i j _ _;rfl
  | succ f ih =>
   intro i j hj hij;rw [mU,mU]
   by_cases h:i < j
   ·rw [au h,au h]
    have e:p ((i+j) / 2)=p' ((i+j) / 2):=by
     show decide _=decide _
     exact decide_eq_decide.2 ⟨.inr,fun h=>h.resolve_left (by omega)⟩
    rw [e,ih _ _ (by omega) (by omega),ih _ _ hj (by omega)]
   rw [ah h,ah h]
 have hmono:∀ h,p' h=true→p' (h+1)=true:=fun h e=>by
  have e:=lQ e;refine eZ ?_
  by_cases h1:l.length≤h+1
  ·exact .inl h1
  refine .inr ?_;have e2:=e.resolve_left (by omega);have h3:=hlt h (h+1) (by omega) (by omega) (Nat.le_succ _);rw [List.getD_eq_getElem?_getD,dV (show h < l.length by omega)] at e2;rw [List.getD_eq_getElem?_getD,dV (show h+1 < l.length by omega)]
  simp only [Option.getD_some] at e2 ⊢
  omega
 obtain ⟨r1,r2⟩:=V6 hmono l.length 0 l.length (eG _) (by omega);have hn:rZ l l[k]=mU p' l.length 0 l.length:=hpp _ _ _ (bX _) (eG _);rw [← hn] at r1 r2;have hle:=aho l l[k]
 have hkn:rZ l l[k]≤k:=by
  by_cases h:rZ l l[k]≤k
  ·exact h
  have h2:=of_decide_eq_false (r1 k (eG _) (by omega));refine absurd (.inr ?_) h2;rw [List.getD_eq_getElem?_getD,dV hk]
  simp
 have hnl:rZ l l[k] < l.length:=by omega
 have h2:=(lQ (r2 hnl)).resolve_left (by omega);rw [List.getD_eq_getElem?_getD,dV hnl] at h2
 simp only [Option.getD_some] at h2
 have h3:=hlt _ _ hnl hk hkn;exact eZ (by rw [dV hnl];exact aB some (by omega))
theorem aqA (G:GH) (w0:World) (hG:Hold G w0) (x y:Int):Calls prog 118 #[vi x,vi y] w0 (bB w0 G fun u G'=>u=.bool (decide (x < y))∧G=G'):=by
 refine eN [(0,_),(1,_)] func118 rfl ntmps118 rfl rfl hG ?_;refine aj 5 ?_;intro a H;refine s_call TT H wn rfl (Wt _ _ H.ro x) rfl ?_;clear H;rintro v6 G6 a w ⟨rfl,rfl⟩ Cv H;refine jA 1 7 H ?_ ?_ <;> clear H
 ·intro h7
  intro a H
  cases h7
 intro h7
 refine aj 5 ?_;intro a H;(iterate 2 refine FK H (wg H rfl rfl rfl) rfl rfl ?_;clear H;intro a H);refine Ej H (wg H rfl rfl rfl) rfl rfl rfl rfl ?_;clear H;refine aJ 3 ?_;exact ⟨rfl,rfl⟩
theorem aql (G:GH) (w0:World) (hG:Hold G w0) (x:Int):Calls prog 119 #[vi x] w0 (bB w0 G fun u G'=>u=.bool false∧G=G'):=by
 refine eN [(0,_)] func119 rfl ntmps119 rfl rfl hG ?_;refine aJ 9 ?_;exact ⟨by simp,rfl⟩
theorem ahn (G:GH) (w0:World) (hG:Hold G w0) (l:List Int) (t:Int) (v:ak) (hv:ay G (.sl 1 (l.map fun k=>[li k])) v) (hl:l.length≤4294967296) :
  Calls prog 66 #[v,vi t] w0 (bB w0 G fun u G'=>u=.tuple #[vi (rZ l t),.bool (vK l t)]∧G=G'):=by
 obtain ⟨A,c,rfl,hc1,hc2,-⟩:=hv.slice;rw [bE] at *;obtain ⟨p,hp⟩:∃ p:Nat→Bool,p=fun h=>decide (¬ l.getD h 0 < t):=⟨_,rfl⟩
 have hbs:rZ l t=mU p l.length 0 l.length:=by rw [hp,rZ]
 refine eN [(0,_),(1,_)] func66 rfl ntmps66 rfl rfl hG ?_;refine aj 16 ?_;intro a H;refine dD (ι:=Nat × Nat × Nat) (Tc:=[(0,_),(1,_),(6,_)]) (Lc:=[]) (fun gh=>[(7,vi gh.1),(8,vi gh.2.1)]) (fun gh=>[]) (fun gh=>G) (fun gh=>gh.1≤gh.2.1∧gh.2.1≤l.length∧gh.2.1 - gh.1≤gh.2.2∧mU p gh.2.2 gh.1 gh.2.1=rZ l t) (fun gh=>gh.2.1 - gh.1) ((0,l.length,l.length)) sB ?_ ?_
 ·exact ⟨eG _,bX _,Nat.sub_le _ _,hbs.symm⟩
 clear H;rintro ⟨i,j,f⟩ a w hI H;dsimp only at hI H;obtain ⟨hij,hj,hf1,heq⟩:=hI;dsimp only [lca,aQ] at H;refine cK 6 H ?_ ?_ <;> clear H
 ·intro mE
  have hlt:i < j:=by omega
  rw [ade hf1 hlt] at heq;obtain ⟨m,hm⟩:∃ m,m=(i+j) / 2:=⟨_,rfl⟩;rw [← hm] at heq
  have hml:m < l.length:=by omega
  obtain ⟨b,o,rfl,hrow⟩:=adp (f:=fun q=>q) hv hml
  replace hrow:aC G b (o+m*1)=some (vi l[m]):=by rw [Nat.mul_one];exact hrow
  have hpm:p m=decide (¬ l[m] < t):=by rw [hp];simp [List.getD,hml]
  rw [hpm] at heq;refine aj 6 ?_;intro a H;rw [show ((i:Int)+(j:Int))=((i+j:Nat):Int) by push_cast;rfl] at H;refine FI ((i+j:Nat):Int) NS lZ H wn rfl (adf (by omega) (by omega)) rfl ?_;clear H;intro a H;refine XE _ H wn rfl rfl rfl (by decide) rfl ?_;clear H;intro a H;rw [adb,← hm] at H;refine FI (m:Int) lZ NS H wn rfl (Il (by omega) (by omega)) rfl ?_;clear H;refine aj 8 ?_;intro a H;refine s_call ajo H wn rfl (aqA _ _ H.ro l[m] t) rfl ?_;clear H;rintro v27 YJ a w ⟨rfl,rfl⟩ acg H;refine eO 1 H ?_ ?_ <;> clear H
  ·intro p27
   rw [ah (by simpa using p27)] at heq;refine aj 4 ?_;intro a H;refine aI ?_;refine bR ((m+1,j,f - 1)) sB ?_ ?_
   ·(try dsimp only);exact ⟨by omega,hj,by omega,heq⟩
   first|omega|(dsimp only;omega)
  intro p27
  rw [au (by simpa using p27)] at heq;refine aj 3 ?_;intro a H;refine aI ?_;refine bR ((i,m,f - 1)) sB ?_ ?_
  ·(try dsimp only);exact ⟨by omega,by omega,by omega,heq⟩
  first|omega|(dsimp only;omega)
 intro mE
 refine aj 1 ?_;rw [ada (by omega)] at heq;refine gV 6 35 ?_ ?_
 ·intro p35
  have hil:i < l.length:=by omega
  obtain ⟨b,o,rfl,hrow⟩:=adp (f:=fun q=>q) hv hil
  replace hrow:aC G b (o+i*1)=some (vi l[i]):=by rw [Nat.mul_one];exact hrow
  refine iV 7 42 ?_ ?_
  ·intro PE
   try have p42:=dT PE
   refine aj 14 ?_;intro a H;refine dw ?_;refine (gu H results66 (.cons (bG H rfl) (.cons (bG H rfl) .nil)) ?_).1
   first
    | exact H.rt ⟨by rw [PY heq.symm (by omega),← heq];simp_all [OC],rfl⟩
    | exact H.rt ⟨by rw [PZ heq.symm (by omega),← heq],rfl⟩
  intro PE
  try have p42:=dF PE
  refine aj 4 ?_;intro a H;refine s_call ajp H (wg H rfl rfl PE) rfl (aql _ _ H.ro l[i]) rfl ?_;clear H;rintro v47 N8 a w ⟨rfl,rfl⟩ acn H;refine jA 1 48 H ?_ ?_ <;> clear H
  ·intro h48
   intro a H
   cases h48
  intro h48
  try have p48:=dF h48
  refine aj 8 ?_;intro a H;refine dw ?_;refine (gu H results66 (.cons (bG H rfl) (.cons (bG H rfl) .nil)) ?_).1
  first
   | exact H.rt ⟨by rw [PY heq.symm (by omega),← heq];simp_all [OC],rfl⟩
   | exact H.rt ⟨by rw [PZ heq.symm (by omega),← heq],rfl⟩
 intro p35
 refine aj 21 ?_;intro a H;refine dw ?_;refine (gu H results66 (.cons (bG H rfl) (.cons (bG H rfl) .nil)) ?_).1
 first
  | exact H.rt ⟨by rw [PY heq.symm (by omega),← heq];simp_all [OC],rfl⟩
  | exact H.rt ⟨by rw [PZ heq.symm (by omega),← heq],rfl⟩
end
section
open Go.RowKit
theorem ajn:∀ args w,(callFunc 117 args).run prog w=.ok (.enter 117 args) w:=enters func117 rfl (by kernel_rfl)
theorem Ry (G:GH) (x:bD):aZ G x.dat x.cells:=by
 simp only [bD.dat,bD.cells,aZ]
 exact ⟨_,_,rfl,by simp [ay,Value.oneCell'],_,_,rfl,by simp [ay,Value.oneCell'],_,_,rfl,by simp [ay,Value.oneCell'],rfl⟩
def nY (l:List bD):List ak:=(l.map bD.cells).flatten
theorem Rw:∀ l:List bD,(nY l).length=l.length*3
 | []=>rfl
 | p :: l=>by
  have:=Rw l
  simp only [nY,dR,List.flatten_cons,jc] at this ⊢
  rw [this,show p.cells.length=3 from rfl,jS];omega
theorem Xy:∀ {l:List bD} {k:Nat} (h:k < l.length) (j:Nat),j < 3→(nY l)[k*3+j]?=l[k].cells[j]?
 | p :: l,0,_,j,hj=>by
  simp only [nY,dR,List.flatten_cons,Nat.zero_mul,gX,List.getElem_cons_zero]
  rw [yQ (by rw [show p.cells.length=3 from rfl];exact hj)]
 | p :: l,k+1,h,j,hj=>by
  have ih:=Xy (l:=l) (k:=k) (by simpa using h) j hj
  simp only [nY,dR,List.flatten_cons,List.getElem_cons_succ] at ih ⊢
  rw [tZ (by rw [show p.cells.length=3 from rfl];omega),show p.cells.length=3 from rfl,show (k+1)*3+j - 3=k*3+j by omega];exact ih
theorem Xx (l m:List bD):nY (l++m)=nY l++nY m:=by simp [nY]
theorem ati {w0 w:World} {F:Nat→Prop} {G0 G:GH} {L Lo:OL} {e c n:Nat} {A:Option Addr} {l:List bD} (h:cB e 3 (.slice A n c) n (nY l) Lo) (hn:n=l.length) (H:Hp w0 F G0 G L w) (hsub:∀ x∈Lo,x∈L) {k:Nat} (hk:k < l.length) :
  ∃ b,A=some ⟨b,0,none⟩∧∀ j u,[vi l[k].id,.string l[k].author,vi l[k].time][j]?=some u→w.cell? ⟨b,0+k*3+j,none⟩=some u:=by
 rcases h.2 with ⟨_,h0,_⟩|⟨b,cap,cur,he,hl,h1,h2,h3,h4⟩
 ·omega
 injection he with e1 e2 e3
 refine ⟨b,e1,fun j u hu=>?_⟩
 have hj:j < 3:=by have:=(jr.1 hu).1;simpa using this
 refine H.QT (c:=cur) (e:=e) (fz:=(0,0)) (hsub _ (by rw [hl];exact List.mem_singleton_self _)) ?_;have h5:=Xy hk j hj;rw [← h4,xQ,au (by omega),Array.getElem?_toList] at h5;rw [show 0+k*3+j=k*3+j by omega,h5];exact hu
theorem aqg {G:GH} {w0:World} {Lo:OL} {v fv:ak} (l:List bD) (p:bD→Bool) (hO:fM G Lo w0) (hrw:cB 82 3 v l.length (nY l) Lo) (hf:∀ x∈l,rV fv G x.dat (p x)) :
  Calls prog 117 #[v,fv] w0 (fB w0 G Lo fun u G' L'=>L'=Lo∧u=vi (nL (l.findIdx? p))):=by
 obtain ⟨A,c,rfl,hc1,hc2⟩:=hrw.shape;have hml:maxLen=9223372036854775807:=rfl;refine iM (N:=19) (T:=[(0,_),(1,_)]) func117 rfl ntmps117 rfl rfl hO ?_;refine aj 10 ?_;intro a H;refine dD (ι:=Nat × GH) (Tc:=[(0,_),(1,_),(7,_)]) (Lc:=[]) (fun gh=>[(8,vi gh.1)]) (fun gh=>[]++Lo) (fun gh=>gh.2) (fun gh=>gh.1≤l.length∧(l.take gh.1).findIdx? p=none∧(∀ b o,G b=some o→gh.2 b=some o)) (fun gh=>l.length - gh.1) ((0,G)) sB ?_ ?_
 ·exact ⟨by omega,rfl,fun _ _ h=>h⟩
 clear H;rintro ⟨k,g⟩ a w hI H;dsimp only at hI H;obtain ⟨hk,hno,hgm⟩:=hI;dsimp only [lca,aQ] at H;refine cK 4 H ?_ ?_ <;> clear H
 ·intro p9
  have hk2:k < l.length:=by omega
  intro a H;obtain ⟨b,rfl,hrow⟩:=ati hrw rfl H.hp (fun x hx=>by first|exact hx|exact jT _ hx|simpa using hx) hk2;refine dG 12 H ?_;clear H;intro a H;refine aT mF (cs:=[vi l[k].id,.string l[k].author,vi l[k].time]) H wn rfl rfl hrow rfl ?_;clear H;intro a H;refine nZ H wn rfl rfl (hf _ (iq hk2) _ _ _ hgm H.ro (Ry _ l[k])) rfl ?_;clear H;rintro v16 vg a w rfl vN H;refine fE 1 H ?_ ?_ <;> clear H
  ·intro h16
   try have p16:=dT h16
   refine aj 4 ?_;intro a H;refine lr H results117 rfl ?_
   first
    | exact H.hp.dO ⟨rfl,by rw [xk hk2 hno h16];rfl⟩
    | exact H.hp.dO ⟨rfl,by rw [show l.take k=l from iL (by omega)] at hno;rw [hno];rfl⟩
  intro h16
  try have p16:=dF h16
  refine aj 4 ?_;intro a H;refine aI ?_;refine bR ((k+1,vg)) sB ?_ ?_
  ·(try dsimp only);exact ⟨by omega,Fq hk2 hno h16,fun b o h=>vN b o (hgm b o h)⟩
  first|omega|(dsimp only;omega)
 intro p9
 refine aj 4 ?_;intro a H;refine lr H results117 rfl ?_
 first
  | exact H.hp.dO ⟨rfl,by rw [xk hk2 hno h16];rfl⟩
  | exact H.hp.dO ⟨rfl,by rw [show l.take k=l from iL (by omega)] at hno;rw [hno];rfl⟩
theorem atb {G:GH} {l:List bD} {xs:List ak} (h:bV G 3 (l.map bD.dat) xs):xs=nY l:=by
 obtain ⟨css,rfl,h2,h3⟩:=h;rw [bE] at h2
 have e:css=l.map bD.cells:=by
  apply List.ext_getElem?
  intro j;rw [om]
  by_cases hj:j < l.length
  ·have h4:=(h3 j l[j].dat css[j] (by simp [hj]) (dV (by omega))).1;rw [dV hj,dV (by omega),Rx h4];rfl
  rw [List.getElem?_eq_none (by omega),List.getElem?_eq_none (by omega)];rfl
 rw [e];rfl
theorem asS {l:List bD} {p:bD→Bool} {i:Nat} (h:l.findIdx? p=some i):∃ hi:i < l.length,(l.take (i+1)).filter (fun x=>!p x)=l.take i:=by
 obtain ⟨hi,h1,h2⟩:=List.findIdx?_eq_some_iff_getElem.1 h;refine ⟨hi,?_⟩;rw [gI hi,List.filter_append,List.filter_eq_self.2]
 ·simp [h1]
 intro x hx;obtain ⟨j,hj,rfl⟩:=List.getElem_of_mem hx;rw [List.getElem_take]
 have hj2:j < i:=by rw [List.length_take] at hj;omega
 have:=h2 j hj2
 simpa using this
theorem asT {l:List bD} {p:bD→Bool} (h:l.findIdx? p=none):l.filter (fun x=>!p x)=l:=by
 rw [List.findIdx?_eq_none_iff] at h
 exact List.filter_eq_self.2 fun x hx=>by rw [h x hx];rfl
theorem asU {cl:List ak} {i:Nat} {x y z:ak} (h:i*3+3≤cl.length):(setRow cl (0+i*3) [x,y,z]).length=cl.length∧(setRow cl (0+i*3) [x,y,z]).take ((i+1)*3)=cl.take (i*3)++[x,y,z]∧∀ m,(i+1)*3≤m→(setRow cl (0+i*3) [x,y,z])[m]?=cl[m]?:=by
 have e:setRow cl (0+i*3) [x,y,z]=cl.take (i*3)++[x,y,z]++cl.drop (i*3+3):=by
  rw [gX,RH _ _ _ (by simpa using h)];rfl
 have hl:(cl.take (i*3)++[x,y,z]).length=(i+1)*3:=by rw [jc,List.length_take];simp;omega
 refine ⟨XI ..,?_,fun m hm=>?_⟩
 ·rw [e,← hl,List.take_left]
 rw [e,tZ (by omega),hl,List.getElem?_drop];congr 1;omega
theorem asR {l:List bD} {cl:List ak} {i:Nat} (hi:i < l.length) (h:cl.take (l.length*3)=nY l):cl.take (i*3)=nY (l.take i):=by
 have e:cl.take (i*3)=(cl.take (l.length*3)).take (i*3):=by rw [List.take_take,Nat.min_eq_left (by omega)]
 have h2:nY l=nY (l.take i)++nY (l.drop i):=by rw [← Xx,List.take_append_drop]
 have h3:(nY (l.take i)).length=i*3:=by rw [Rw,List.length_take];omega
 rw [e,h,h2,← h3,List.take_left]
theorem asV {l:List bD} {p:bD→Bool} {j:Nat} (hj:j < l.length):(l.take (j+1)).filter (fun x=>!p x)=(l.take j).filter (fun x=>!p x)++if p l[j] then [] else [l[j]]:=by
 rw [gI hj,List.filter_append]
 cases h:p l[j] <;> simp [h]
theorem aiO {G:GH} {w0:World} {Lo:OL} {v fv:ak} (l:List bD) (p:bD→Bool) (hO:fM G Lo w0) (hrw:cB 82 3 v l.length (nY l) Lo) (hf:∀ x∈l,rV fv G x.dat (p x)) :
  Calls prog 63 #[v,fv] w0 (fB w0 G Lo fun u G' L'=>cB 82 3 u (l.filter fun x=>!p x).length (nY (l.filter fun x=>!p x)) L'):=by
 obtain ⟨A,c,rfl,hc1,hc2⟩:=hrw.shape;have hml:maxLen=9223372036854775807:=rfl;have hdl:=Rw l;refine iM (N:=42) (T:=[(0,_),(1,_)]) func63 rfl ntmps63 rfl rfl hO ?_;refine aj 6 ?_;intro a H;refine fu ajn (Li:=[]) (L:=Lo) H wn rfl (aqg l p (Hp.owns (Li:=[]) H.hp) hrw hf) rfl ?_;clear H;rintro v10 Ak L10 a w ⟨rfl,rfl⟩ oF H;dsimp only [List.nil_append] at H;obtain ⟨o,ho⟩:∃ o,o=l.findIdx? p:=⟨_,rfl⟩;rw [← ho] at H;refine eO 7 H ?_ ?_ <;> clear H
 ·intro lu
  obtain rfl:o=none:=by cases o with|none=>rfl|some i=>first|(simp [nL] at lu;done)|(simp [nL] at lu;omega)
  refine aj 4 ?_;intro a H;refine lr H results63 rfl ?_;exact H.hp.dO (by rw [asT ho.symm];exact hrw)
 intro lu
 obtain ⟨i0,rfl⟩:∃ i,o=some i:=by cases o with|none=>simp [nL] at lu|some i=>exact ⟨i,rfl⟩
 obtain ⟨hi0,hinit⟩:=asS ho.symm
 rcases hrw.2 with ⟨_,h0,_⟩|⟨b,cap,cur,he,rfl,hcap1,hcap2,hsz,htk⟩
 ·intro a H;omega
 intro a H;injection he with e1 e2 e3
 subst e1;subst e3;obtain ⟨Tw,rfl⟩:∃ cl:List ak,cur=cl.toArray:=⟨cur.toList,by simp⟩;rw [List.size_toArray] at hsz;dsimp only [nL] at H;refine dG 8 H ?_;clear H;intro a H;refine dD (ι:=Nat × Nat × List ak × GH) (Tc:=[(0,_),(1,_)]) (Lc:=[]) (fun gh=>[(5,vi gh.2.1),(6,vi gh.1)]) (fun gh=>[(b,.cells gh.2.2.1.toArray 82 (0,0))]) (fun gh=>gh.2.2.2) (fun gh=>gh.2.1 < gh.1∧gh.1≤l.length∧gh.2.2.1.length=c*3∧gh.2.1=((l.take gh.1).filter fun x=>!p x).length∧gh.2.2.1.take (gh.2.1*3)=nY ((l.take gh.1).filter fun x=>!p x)∧(∀ m,gh.1*3≤m→m < l.length*3→gh.2.2.1[m]?=(nY l)[m]?)∧(∀ b o,G b=some o→gh.2.2.2 b=some o)) (fun gh=>l.length - gh.1) ((i0+1,i0,Tw,Ak)) sB ?_ ?_
 ·exact ⟨Nat.lt_succ_self _,hi0,hsz,by rw [hinit,List.length_take];exact (Nat.min_eq_left (Nat.le_of_lt hi0)).symm,by rw [hinit];exact asR hi0 htk,fun m h1 h2=>by rw [← htk,xQ,au h2],oF⟩
 clear H;rintro ⟨j,i,cl,g⟩ a w hI H;dsimp only at hI H;obtain ⟨hij,hj,hcl,hil,hkept,hrest,hgm⟩:=hI;dsimp only [lca,aQ] at H;refine cK 7 H ?_ ?_ <;> clear H
 ·intro uQ
  have hj2:j < l.length:=by omega
  have hjc:∀ q u,[vi l[j].id,.string l[j].author,vi l[j].time][q]?=some u→cl.toArray[0+j*3+q]?=some u:=fun q u hq=>by
   have hq2:q < 3:=by have:=(jr.1 hq).1;simpa using this
   rw [List.getElem?_toArray,gX,hrest _ (by omega) (by omega),Xy hj2 q hq2];exact hq
  have hdt:=asV (p:=p) hj2;refine aj 7 ?_;intro a H;refine aT mF (cs:=[vi l[j].id,.string l[j].author,vi l[j].time]) H wn rfl rfl (fun q u hq=>H.hp.QT (c:=cl.toArray) gP (hjc q u hq)) rfl ?_;clear H;intro a H;refine dx mF H wn rfl ?_;clear H;intro b7 a w qD H;refine bq mF 0 (vs:=[_,_,_]) _ H wn rfl rfl rfl rfl rfl rfl rfl rfl ?_;clear H;intro w H;dsimp only [List.set,setRow] at H;refine aH 3 H ?_;clear H;intro a H;refine aT mF (cs:=[_,_,_]) H wn rfl rfl (H.hp.cO 0 rfl rfl) rfl ?_;clear H;intro a H;refine nZ H wn rfl rfl (hf _ (iq hj2) _ _ _ hgm H.ro (Ry _ l[j])) rfl ?_;clear H;rintro v28 Sz a w rfl ach H;refine fE 2 H ?_ ?_ <;> clear H
  ·intro zT
   try have p29:=dT zT
   rw [ah (by simpa using zT)] at hdt;have hds:=asU (cl:=cl) (i:=i) (x:=vi l[j].id) (y:=.string l[j].author) (z:=vi l[j].time) (by omega);refine aj 3 ?_;intro a H;refine aT mF (cs:=[_,_,_]) H wn rfl rfl (H.hp.cO 0 rfl rfl) rfl ?_;clear H;refine aj 1 ?_;intro a H;refine bq mF 1 (c:=cl) (vs:=[vi l[j].id,.string l[j].author,vi l[j].time]) _ H wn rfl rfl rfl rfl rfl rfl (Nat.ble_eq_true_of_le (by simp only [jS,List.length_nil];omega)) rfl ?_;clear H;intro w H;dsimp only [List.set] at H;refine aH 10 H ?_;clear H;intro a H;refine aI ?_;refine bR ((j+1,i+1,setRow cl (0+i*3) [vi l[j].id,.string l[j].author,vi l[j].time],Sz)) (by exact (H.bY (Pl:=[_,_]) (bT:=[_]) [1] (by decide) rfl).sub ⟨rfl,rfl,rfl,rfl,aY⟩) ?_ ?_
   ·(try dsimp only);exact ⟨by omega,by omega,by rw [hds.1,hcl],by rw [hdt,jc,← hil];rfl,by rw [hdt,Xx,← hkept,hds.2.1];rfl,fun m h1 h2=>by rw [hds.2.2 m (by omega),hrest m (by omega) h2],fun b o h=>ach b o (hgm b o h)⟩
   first|omega|(dsimp only;omega)
  intro zT
  try have p29:=dF zT
  rw [au (by simpa using zT),lD] at hdt;refine aj 5 ?_;intro a H;refine aI ?_;refine bR ((j+1,i,cl,Sz)) (by exact (H.bY (Pl:=[_,_]) (bT:=[_]) [1] (by decide) rfl).sub ⟨rfl,rfl,rfl,rfl,aY⟩) ?_ ?_
  ·(try dsimp only);exact ⟨by omega,by omega,hcl,by rw [hdt];exact hil,by rw [hdt];exact hkept,fun m h1 h2=>hrest m (by omega) h2,fun b o h=>ach b o (hgm b o h)⟩
  first|omega|(dsimp only;omega)
 intro uQ
 refine aj 4 ?_;intro a H;refine atI uX mF i H wn rfl rfl rfl (by omega) rfl ?_;clear H;intro a H;rw [ah (by omega),BP,add_lit] at H;refine aty uX mF rfl rfl 0 H wn rfl rfl (by omega) (by omega) ?_;clear H;intro cz w hz1 hz2 H;dsimp only [List.set] at H;refine aH 4 H ?_;clear H;intro a H;refine XF uX mF i H wn rfl rfl rfl (by omega) rfl ?_;clear H;refine aj 2 ?_;intro a H;refine lr H results63 rfl ?_
 obtain rfl:j=l.length:=by omega
 rw [wL] at hil hkept;exact H.hp.dO ⟨Rw _,.inr ⟨b,c,cz.toArray,by rw [← hil],rfl,by omega,hcap2,by rw [List.size_toArray,hz1,hcl],by rw [← hkept,← hil];rw [gX] at hz2;exact hz2⟩⟩
end
section
open Go.RowKit
theorem ZQ (G:GH) (w0:World) (hO:fM G [] w0) (rows:List (List Dat)) (A:Option Addr) (n c:Nat) (hv:ay G (.sl 3 rows) (.slice A n c)) (hz:rows.length≤4294967296) :
  Calls prog 64 #[.slice A n c] w0 (fB w0 G [] fun u G' L'=>∃ xs,cB 82 3 u rows.length xs L'∧bV G' 3 rows xs):=by
 obtain ⟨hn,hc1,hc2,hnil,hx⟩:=hv.cells;refine iM (N:=8) (T:=[(0,_)]) func64 rfl ntmps64 rfl rfl hO ?_;refine aj 6 ?_;intro a H;refine El uX H wn rfl rfl ?_;clear H;refine goC 1 ?_ ?_
 ·intro h4
  refine aj 3 ?_;intro a H;refine lr H results64 rfl ?_;have hr0:=hnil (by simpa using h4);subst hr0;exact H.hp.dO ⟨[],cB.nil,bV.nil⟩
 intro h4
 try have p4:=dF h4
 refine aj 1 ?_
 have hA:¬ A=none:=by intro e;rw [e] at h4;cases h4
 refine aj 1 ?_;intro a H;refine Ei uX mF H wn rfl ?_;clear H;intro b5 a w hb5 H;refine aH 1 H ?_;clear H
 intro a H;by_cases hr0:rows=[]
 ·have hn0:n=0:=by rw [hn,hr0];rfl
  subst hn0;refine CP uX mF H wn rfl rfl (bX _) rfl ?_;clear H;refine aj 2 ?_;intro a H;refine lr H results64 rfl ?_;subst hr0;exact H.hp.dO ⟨[],cB.empty,bV.nil⟩
 obtain ⟨b,o,xs,rfl,hxl,hxc,hx1,eU⟩:=hx hr0;refine oK (Li:=[]) (Lo:=[_]) (news:=xs) uX mF rfl rfl H wn rfl rfl cB.empty hxl (fun j u hj=>H.hp.aC (hxc j u hj)) hx1 (by omega) (by omega) rfl ?_;clear H;intro v7 Lo a w hrow H;dsimp only [List.nil_append] at H;refine aH 2 H ?_;clear H;intro a H;refine lr H results64 rfl ?_;exact H.hp.dO ⟨_,by rw [gX,hn] at hrow;exact hrow,eU⟩
theorem aiv (G:GH) (w0:World) (hO:fM G [] w0) (rows:List (List Dat)) (A:Option Addr) (n c:Nat) (hv:ay G (.sl 6 rows) (.slice A n c)) (hz:rows.length≤4294967296) :
  Calls prog 174 #[.slice A n c] w0 (fB w0 G [] fun u G' L'=>∃ xs,cB 156 6 u rows.length xs L'∧bV G' 6 rows xs):=by
 obtain ⟨hn,hc1,hc2,hnil,hx⟩:=hv.cells;refine iM (N:=8) (T:=[(0,_)]) func174 rfl ntmps174 rfl rfl hO ?_;refine aj 6 ?_;intro a H;refine El wB H wn rfl rfl ?_;clear H;refine goC 1 ?_ ?_
 ·intro h4
  refine aj 3 ?_;intro a H;refine lr H results174 rfl ?_;have hr0:=hnil (by simpa using h4);subst hr0;exact H.hp.dO ⟨[],cB.nil,bV.nil⟩
 intro h4
 try have p4:=dF h4
 refine aj 1 ?_
 have hA:¬ A=none:=by intro e;rw [e] at h4;cases h4
 refine aj 1 ?_;intro a H;refine Ei wB jk H wn rfl ?_;clear H;intro b5 a w hb5 H;refine aH 1 H ?_;clear H
 intro a H;by_cases hr0:rows=[]
 ·have hn0:n=0:=by rw [hn,hr0];rfl
  subst hn0;refine CP wB jk H wn rfl rfl (bX _) rfl ?_;clear H;refine aj 2 ?_;intro a H;refine lr H results174 rfl ?_;subst hr0;exact H.hp.dO ⟨[],cB.empty,bV.nil⟩
 obtain ⟨b,o,xs,rfl,hxl,hxc,hx1,eU⟩:=hx hr0;refine oK (Li:=[]) (Lo:=[_]) (news:=xs) wB jk rfl rfl H wn rfl rfl cB.empty hxl (fun j u hj=>H.hp.aC (hxc j u hj)) hx1 (by omega) (by omega) rfl ?_;clear H;intro v7 Lo a w hrow H;dsimp only [List.nil_append] at H;refine aH 2 H ?_;clear H;intro a H;refine lr H results174 rfl ?_;exact H.hp.dO ⟨_,by rw [gX,hn] at hrow;exact hrow,eU⟩
theorem aiu (G:GH) (w0:World) (hO:fM G [] w0) (rows:List (List Dat)) (A:Option Addr) (n c:Nat) (hv:ay G (.sl 2 rows) (.slice A n c)) (hz:rows.length≤4294967296) :
  Calls prog 175 #[.slice A n c] w0 (fB w0 G [] fun u G' L'=>∃ xs,cB 159 2 u rows.length xs L'∧bV G' 2 rows xs):=by
 obtain ⟨hn,hc1,hc2,hnil,hx⟩:=hv.cells;refine iM (N:=8) (T:=[(0,_)]) func175 rfl ntmps175 rfl rfl hO ?_;refine aj 6 ?_;intro a H;refine El pQ H wn rfl rfl ?_;clear H;refine goC 1 ?_ ?_
 ·intro h4
  refine aj 3 ?_;intro a H;refine lr H results175 rfl ?_;have hr0:=hnil (by simpa using h4);subst hr0;exact H.hp.dO ⟨[],cB.nil,bV.nil⟩
 intro h4
 try have p4:=dF h4
 refine aj 1 ?_
 have hA:¬ A=none:=by intro e;rw [e] at h4;cases h4
 refine aj 1 ?_;intro a H;refine Ei pQ og H wn rfl ?_;clear H;intro b5 a w hb5 H;refine aH 1 H ?_;clear H
 intro a H;by_cases hr0:rows=[]
 ·have hn0:n=0:=by rw [hn,hr0];rfl
  subst hn0;refine CP pQ og H wn rfl rfl (bX _) rfl ?_;clear H;refine aj 2 ?_;intro a H;refine lr H results175 rfl ?_;subst hr0;exact H.hp.dO ⟨[],cB.empty,bV.nil⟩
 obtain ⟨b,o,xs,rfl,hxl,hxc,hx1,eU⟩:=hx hr0;refine oK (Li:=[]) (Lo:=[_]) (news:=xs) pQ og rfl rfl H wn rfl rfl cB.empty hxl (fun j u hj=>H.hp.aC (hxc j u hj)) hx1 (by omega) (by omega) rfl ?_;clear H;intro v7 Lo a w hrow H;dsimp only [List.nil_append] at H;refine aH 2 H ?_;clear H;intro a H;refine lr H results175 rfl ?_;exact H.hp.dO ⟨_,by rw [gX,hn] at hrow;exact hrow,eU⟩
theorem ais (G:GH) (w0:World) (hO:fM G [] w0) (rows:List (List Dat)) (A:Option Addr) (n c:Nat) (hv:ay G (.sl 6 rows) (.slice A n c)) (hz:rows.length≤4294967296) :
  Calls prog 176 #[.slice A n c] w0 (fB w0 G [] fun u G' L'=>∃ xs,cB 164 6 u rows.length xs L'∧bV G' 6 rows xs):=by
 obtain ⟨hn,hc1,hc2,hnil,hx⟩:=hv.cells;refine iM (N:=8) (T:=[(0,_)]) func176 rfl ntmps176 rfl rfl hO ?_;refine aj 6 ?_;intro a H;refine El Ai H wn rfl rfl ?_;clear H;refine goC 1 ?_ ?_
 ·intro h4
  refine aj 3 ?_;intro a H;refine lr H results176 rfl ?_;have hr0:=hnil (by simpa using h4);subst hr0;exact H.hp.dO ⟨[],cB.nil,bV.nil⟩
 intro h4
 try have p4:=dF h4
 refine aj 1 ?_
 have hA:¬ A=none:=by intro e;rw [e] at h4;cases h4
 refine aj 1 ?_;intro a H;refine Ei Ai uV H wn rfl ?_;clear H;intro b5 a w hb5 H;refine aH 1 H ?_;clear H
 intro a H;by_cases hr0:rows=[]
 ·have hn0:n=0:=by rw [hn,hr0];rfl
  subst hn0;refine CP Ai uV H wn rfl rfl (bX _) rfl ?_;clear H;refine aj 2 ?_;intro a H;refine lr H results176 rfl ?_;subst hr0;exact H.hp.dO ⟨[],cB.empty,bV.nil⟩
 obtain ⟨b,o,xs,rfl,hxl,hxc,hx1,eU⟩:=hx hr0;refine oK (Li:=[]) (Lo:=[_]) (news:=xs) Ai uV rfl rfl H wn rfl rfl cB.empty hxl (fun j u hj=>H.hp.aC (hxc j u hj)) hx1 (by omega) (by omega) rfl ?_;clear H;intro v7 Lo a w hrow H;dsimp only [List.nil_append] at H;refine aH 2 H ?_;clear H;intro a H;refine lr H results176 rfl ?_;exact H.hp.dO ⟨_,by rw [gX,hn] at hrow;exact hrow,eU⟩
theorem ain (G:GH) (w0:World) (hG:Hold G w0) (rows:List (List Dat)) (A:Option Addr) (n c:Nat) (hv:ay G (.sl 6 rows) (.slice A n c)) (hz:rows.length≤4294967296) :
  Calls prog 176 #[.slice A n c] w0 (bB w0 G fun u G'=>ay G' (.sl 6 rows) u):=Jk hG (ais G w0 (zo hG) rows A n c hv hz) rfl
theorem aiw (G:GH) (w0:World) (hO:fM G [] w0) (rows:List (List Dat)) (A:Option Addr) (n c:Nat) (hv:ay G (.sl 2 rows) (.slice A n c)) (hz:rows.length≤4294967296) :
  Calls prog 177 #[.slice A n c] w0 (fB w0 G [] fun u G' L'=>∃ xs,cB 167 2 u rows.length xs L'∧bV G' 2 rows xs):=by
 obtain ⟨hn,hc1,hc2,hnil,hx⟩:=hv.cells;refine iM (N:=8) (T:=[(0,_)]) func177 rfl ntmps177 rfl rfl hO ?_;refine aj 6 ?_;intro a H;refine El sU H wn rfl rfl ?_;clear H;refine goC 1 ?_ ?_
 ·intro h4
  refine aj 3 ?_;intro a H;refine lr H results177 rfl ?_;have hr0:=hnil (by simpa using h4);subst hr0;exact H.hp.dO ⟨[],cB.nil,bV.nil⟩
 intro h4
 try have p4:=dF h4
 refine aj 1 ?_
 have hA:¬ A=none:=by intro e;rw [e] at h4;cases h4
 refine aj 1 ?_;intro a H;refine Ei sU rP H wn rfl ?_;clear H;intro b5 a w hb5 H;refine aH 1 H ?_;clear H
 intro a H;by_cases hr0:rows=[]
 ·have hn0:n=0:=by rw [hn,hr0];rfl
  subst hn0;refine CP sU rP H wn rfl rfl (bX _) rfl ?_;clear H;refine aj 2 ?_;intro a H;refine lr H results177 rfl ?_;subst hr0;exact H.hp.dO ⟨[],cB.empty,bV.nil⟩
 obtain ⟨b,o,xs,rfl,hxl,hxc,hx1,eU⟩:=hx hr0;refine oK (Li:=[]) (Lo:=[_]) (news:=xs) sU rP rfl rfl H wn rfl rfl cB.empty hxl (fun j u hj=>H.hp.aC (hxc j u hj)) hx1 (by omega) (by omega) rfl ?_;clear H;intro v7 Lo a w hrow H;dsimp only [List.nil_append] at H;refine aH 2 H ?_;clear H;intro a H;refine lr H results177 rfl ?_;exact H.hp.dO ⟨_,by rw [gX,hn] at hrow;exact hrow,eU⟩
theorem aip (G:GH) (w0:World) (hG:Hold G w0) (rows:List (List Dat)) (A:Option Addr) (n c:Nat) (hv:ay G (.sl 2 rows) (.slice A n c)) (hz:rows.length≤4294967296) :
  Calls prog 177 #[.slice A n c] w0 (bB w0 G fun u G'=>ay G' (.sl 2 rows) u):=Jk hG (aiw G w0 (zo hG) rows A n c hv hz) rfl
theorem ait (G:GH) (w0:World) (hO:fM G [] w0) (rows:List (List Dat)) (A:Option Addr) (n c:Nat) (hv:ay G (.sl 4 rows) (.slice A n c)) (hz:rows.length≤4294967296) :
  Calls prog 178 #[.slice A n c] w0 (fB w0 G [] fun u G' L'=>∃ xs,cB 194 4 u rows.length xs L'∧bV G' 4 rows xs):=by
 obtain ⟨hn,hc1,hc2,hnil,hx⟩:=hv.cells;refine iM (N:=8) (T:=[(0,_)]) func178 rfl ntmps178 rfl rfl hO ?_;refine aj 6 ?_;intro a H;refine El BA H wn rfl rfl ?_;clear H;refine goC 1 ?_ ?_
 ·intro h4
  refine aj 3 ?_;intro a H;refine lr H results178 rfl ?_;have hr0:=hnil (by simpa using h4);subst hr0;exact H.hp.dO ⟨[],cB.nil,bV.nil⟩
 intro h4
 try have p4:=dF h4
 refine aj 1 ?_
 have hA:¬ A=none:=by intro e;rw [e] at h4;cases h4
 refine aj 1 ?_;intro a H;refine Ei BA CZ H wn rfl ?_;clear H;intro b5 a w hb5 H;refine aH 1 H ?_;clear H
 intro a H;by_cases hr0:rows=[]
 ·have hn0:n=0:=by rw [hn,hr0];rfl
  subst hn0;refine CP BA CZ H wn rfl rfl (bX _) rfl ?_;clear H;refine aj 2 ?_;intro a H;refine lr H results178 rfl ?_;subst hr0;exact H.hp.dO ⟨[],cB.empty,bV.nil⟩
 obtain ⟨b,o,xs,rfl,hxl,hxc,hx1,eU⟩:=hx hr0;refine oK (Li:=[]) (Lo:=[_]) (news:=xs) BA CZ rfl rfl H wn rfl rfl cB.empty hxl (fun j u hj=>H.hp.aC (hxc j u hj)) hx1 (by omega) (by omega) rfl ?_;clear H;intro v7 Lo a w hrow H;dsimp only [List.nil_append] at H;refine aH 2 H ?_;clear H;intro a H;refine lr H results178 rfl ?_;exact H.hp.dO ⟨_,by rw [gX,hn] at hrow;exact hrow,eU⟩
theorem aio (G:GH) (w0:World) (hG:Hold G w0) (rows:List (List Dat)) (A:Option Addr) (n c:Nat) (hv:ay G (.sl 4 rows) (.slice A n c)) (hz:rows.length≤4294967296) :
  Calls prog 178 #[.slice A n c] w0 (bB w0 G fun u G'=>ay G' (.sl 4 rows) u):=Jk hG (ait G w0 (zo hG) rows A n c hv hz) rfl
end
section
open Go.RowKit
def zF (x:Nat→ak × OL) (m:Nat) (y:ak × OL):Nat→ak × OL:=fun j=>if j=m then y else x j
theorem avf (x:Nat→ak × OL) (m:Nat) (y:ak × OL):zF x m y m=y:=au rfl
theorem afQ {x:Nat→ak × OL} {m j:Nat} {y:ak × OL} (h:j≠m):zF x m y j=x j:=ah h
def qR (ms:List Nat) (S:Nat→Bool) (x:Nat→ak × OL):OL:=ms.flatMap fun m=>bif S m then (x m).2 else []
theorem abh {S:Nat→Bool} {x:Nat→ak × OL} {y:ak × OL} {m:Nat}:∀ {ms:List Nat},m∉ms→qR ms (gy S m) (zF x m y)=qR ms S x
 | [],_=>rfl
 | k :: ms,h=>by
  have hk:k≠m:=fun e=>h (by simp [e])
  have ih:=abh (S:=S) (x:=x) (y:=y) (ms:=ms) fun hm=>h (jT _ hm)
  unfold qR at ih ⊢
  rw [List.flatMap_cons,List.flatMap_cons,ih,afQ hk,show gy S m k=S k from ah hk]
theorem abj {S:Nat→Bool} {x:Nat→ak × OL} {y:ak × OL} {m:Nat} (hS:S m=false):∀ {ms:List Nat},ms.Nodup→m∈ms→(y.2++qR ms S x).Perm (qR ms (gy S m) (zF x m y))
 | k :: ms,hn,hm=>by
  rw [List.nodup_cons] at hn
  by_cases hk:k=m
  ·subst hk
   have e:=abh (S:=S) (x:=x) (y:=y) hn.1
   unfold qR at e ⊢
   rw [List.flatMap_cons,List.flatMap_cons,e,avf,hS,show gy S k k=true from au rfl]
   exact List.Perm.refl _
  ·have ih:=abj (S:=S) (x:=x) (y:=y) hS hn.2 (by
    rcases kZ.1 hm with e|h
    ·exact absurd e.symm hk
    ·exact h)
   unfold qR at ih ⊢
   rw [List.flatMap_cons,List.flatMap_cons,afQ hk,show gy S m k=S k from ah hk,← fT]
   refine (List.Perm.append_right _ wK).trans ?_
   rw [fT]
   exact List.Perm.append_left _ ih
section
variable {N:Nat} {D:List Deferred} {w0:World} {F:Nat→Prop} {G0 G G1 G2:GH} {L L1 L2:OL} {T Xs:List (Nat × ak)}
variable {r:Option Nat} {P:Program} {Q:Exit→Act→World→Prop} {l:List Oper} {a a':Act} {w w':World}
theorem ZB {id:Nat} (ms:List Nat) (hm:P.follows .mixedOrders=true) (dH:List (List Nat)) (B:List Nat) (hk:EP l dH=true) (hB:CX l dH B=true) (hnd:ms.Nodup) (hms:(ms.all fun m=>Nat.blt m l.length && !B.contains m)=true) (pr:(Nat→ak × OL)→Nat→ak→GH→Prop)
  (hp:∀ m,ms.contains m=true→∀ x y i v G,Nat.beq i m=false→(dH.getD i []).contains m=false→pr x i v G→pr (zF x m y) i v G)
  (H:St N D w0 F G0 G L T a w)
  (hstep:allI (fun i o=>∀ x L' S a w G1,(∀ q,q∈L→q∈L')→B.contains i=false→ms.contains i=false→S i=false→(∀ j∈dH.getD i [],S j=true)→(∀ k o,G k=some o→G1 k=some o)→St N D w0 F G0 G1 L' T a w→(∀ i d,S i=true→fH l i=some d→∃ v,a.tmps[d]?=some v∧pr x i v G1) →
   WL r P l.toArray (fun e a' w'=>e=.normal∧DX N D w0 F G0 G L' T l (pr x) (gy S i) a' w') [o] a w) 0 l)
  (hmid:allI (fun m o=>ms.contains m=true→∀ x L' S a w G1,(∀ q,q∈L→q∈L')→S m=false→(∀ j∈dH.getD m [],S j=true)→(∀ k o,G k=some o→G1 k=some o)→St N D w0 F G0 G1 L' T a w→(∀ y i d,i≠m→S i=true→fH l i=some d→∃ v,a.tmps[d]?=some v∧pr (zF x m y) i v G1) →
   WL r P l.toArray (fun e a' w'=>e=.normal∧∃ y,DX N D w0 F G0 G (y.2++L') T l (pr (zF x m y)) (gy S m) a' w') [o] a w) 0 l)
  (hend:∀ x a w G1,(∀ k o,G k=some o→G1 k=some o)→St N D w0 F G0 G1 (qR ms (fun _=>true) x++L) T a w→(∀ i d,B.contains i=false→fH l i=some d→∃ v,a.tmps[d]?=some v∧pr x i v G1)→WL r P l.toArray (fun e a w=>e=.normal∧Q .normal a w) (tK l B) a w):WP r P (.region id l.toArray true) Q a w:=by
 refine ZA hm dH B hk hB (fun S a w=>∃ x,DX N D w0 F G0 G (qR ms S x++L) T l (pr x) S a w)
  ⟨fun _=>(.bool false,[]),DX.perm (L1:=L) ⟨G,fun _ _ h=>h,H.move H.hp.drew,fun _ _ h=>absurd (show false=true from h) (by decide)⟩ (by
   have:∀ ms:List Nat,qR ms (fun _=>false) (fun _=>(.bool false,[]))=[]:=fun ms=>by
    induction ms with
    | nil=>rfl
    | cons k ms ih=>unfold qR at ih ⊢;rw [List.flatMap_cons,ih];rfl
   rw [this];exact List.Perm.refl _)⟩ ?_ ?_
 ·rintro i o S a w ho hb dh qX hdesc ⟨x,G1,hG,HS,hv⟩
  have hsub:∀ q,q∈L→q∈qR ms S x++L:=fun q hq=>List.mem_append_right _ hq
  have hno:∀ j,j < l.length→S j=true→(dH.getD j []).contains i=false:=fun j hjl hj=>by
   cases hc:(dH.getD j []).contains i with
   | false=>rfl
   | true =>
    have:=hdesc j hjl (by simpa using hc)
    rw [this] at hj;cases hj
  cases hi:ms.contains i with
  | true =>
   have h:=Ls hmid i o ho
   rw [gX] at h
   have h:=h hi x _ S a w G1 hsub dh qX hG HS fun y j d hj hSj hd=>by
    obtain ⟨v,hv1,hv2⟩:=hv j d hSj hd
    exact ⟨v,hv1,hp i hi x y j v _ (Dl hj) (hno j (BU hd) hSj) hv2⟩
   refine xI (fun e a' w' ⟨he,y,hD⟩=>⟨he,zF x i y,hD.perm ?_⟩) h
   rw [← fT]
   exact List.Perm.append_right L (abj dh hnd (by simpa using hi))
  | false =>
   have h:=Ls hstep i o ho
   rw [gX] at h
   have e:∀ ms:List Nat,i∉ms→qR ms (gy S i) x=qR ms S x:=fun ms hn=>by
    induction ms with
    | nil=>rfl
    | cons k ms ih =>
     have ih:=ih fun h=>hn (jT _ h)
     unfold qR at ih ⊢
     rw [List.flatMap_cons,List.flatMap_cons,ih,show gy S i k=S k from ah fun e=>hn (by simp [e])]
   refine xI (fun e' a' w' ⟨he,hD⟩=>⟨he,x,?_⟩) (h x _ S a w G1 hsub hb hi dh qX hG HS hv)
   rw [e ms (by simpa using hi)]
   exact hD
 ·rintro S a w hall hnB ⟨x,G1,hG,HS,hv⟩
  have hS:∀ m∈ms,S m=true:=fun m hmm=>by
   have h:=mZ.1 hms m hmm
   rw [nk] at h
   exact hall m (Eq.mp Nat.blt_eq h.1) (by simpa using h.2)
  have e:∀ ms:List Nat,(∀ m∈ms,S m=true)→qR ms S x=qR ms (fun _=>true) x:=fun ms h=>by
   induction ms with
   | nil=>rfl
   | cons k ms ih =>
    have ih:=ih fun m hm=>h m (jT _ hm)
    unfold qR at ih ⊢
    rw [List.flatMap_cons,List.flatMap_cons,ih,h k gP]
  replace e:=e ms hS
  rw [e] at HS
  exact hend x a w G1 hG HS fun j d hb hd=>hv j d (hall j (BU hd) hb) hd
end
end
section
open Go.RowKit
theorem nE {G:GH} {b:Nat} {cs:List ak} {e:TypeId} {q:Nat × Nat} (h:G b=some (.cells cs.toArray e q)) (k:Nat) (ds:List ak) (hd:ds=(cs.drop k).take ds.length) (j:Nat) (v:ak) (hj:ds[j]?=some v):aC G b (k+j)=some v:=by
 unfold aC
 rw [h]
 show cs.toArray[k+j]?=some v
 rw [hd,xQ] at hj
 split at hj
 ·simpa using hj
 cases hj
end
section
open Go.RowKit
theorem ajT:∀ args w,(callFunc 174 args).run prog w=.ok (.enter 174 args) w:=enters func174 rfl (by kernel_rfl)
theorem ajU:∀ args w,(callFunc 175 args).run prog w=.ok (.enter 175 args) w:=enters func175 rfl (by kernel_rfl)
theorem ajV:∀ args w,(callFunc 176 args).run prog w=.ok (.enter 176 args) w:=enters func176 rfl (by kernel_rfl)
theorem ajW:∀ args w,(callFunc 177 args).run prog w=.ok (.enter 177 args) w:=enters func177 rfl (by kernel_rfl)
theorem auC:sV prog 36 [(0,1),(1,1),(2,1),(3,1)] [.slice none 0 0,.slice none 0 0,.slice none 0 0,.slice none 0 0]:=⟨by kernel_rfl,by kernel_rfl⟩
theorem ajX:∀ args w,(callFunc 178 args).run prog w=.ok (.enter 178 args) w:=enters func178 rfl (by kernel_rfl)
theorem aZ.setAt {G:GH}:∀ {r:List Dat} {cs:List ak} {k:Nat} {d:Dat} {v:ak},aZ G r cs→r[k]?=some d→ay G d v→aZ G r (cs.set k v)
 | [],_,_,_,_,_,h,_=>by simp at h
 | e :: r,cs,k,d,v,h,hk,hv=>by
  simp only [aZ] at h ⊢
  obtain ⟨x,vs,rfl,h1,h2⟩:=h
  cases k with
  | zero =>
   simp only [BN,nQ] at hk
   subst hk;exact ⟨v,vs,rfl,hv,h2⟩
  | succ k=>exact ⟨x,vs.set k v,rfl,h1,aZ.setAt h2 (by simpa using hk) hv⟩
theorem bV.setAt {G:GH} {sz:Nat}:∀ {rows:List (List Dat)} {xs:List ak} {i k:Nat} {r:List Dat} {d:Dat} {v:ak},bV G sz rows xs→rows[i]?=some r→r[k]?=some d→k < sz→ay G d v→bV G sz rows (xs.set (i*sz+k) v)
 | [],_,_,_,_,_,_,_,h,_,_,_=>by simp at h
 | q :: rows,xs,i,k,r,d,v,h,hr,hk,hs,hv=>by
  obtain ⟨css,rfl,h2,h3⟩:=h
  cases css with
  | nil=>simp at h2
  | cons c css =>
   obtain ⟨h4,h5⟩:=h3 0 q c rfl rfl;have h6:bV G sz rows css.flatten:=⟨css,rfl,by simpa using h2,fun j r' cs hr' hc=>h3 (j+1) r' cs (by simpa using hr') (by simpa using hc)⟩
   have h7:∀ {c' x':List ak},aZ G q c'→c'.length=sz→bV G sz rows x'→bV G sz (q :: rows) (c'++x'):=fun a b e=>by
    have h8:=((bV.nil (G:=G) (sz:=sz)).snoc a b).append e
    simpa using h8
   rw [List.flatten_cons]
   cases i with
   | zero =>
    simp only [BN,nQ] at hr
    subst hr;rw [Nat.zero_mul,gX,List.set_append_left _ _ (by omega)];exact h7 (h4.setAt hk hv) (by rw [List.length_set];exact h5) h6
   | succ i =>
    rw [List.set_append_right _ _ (by rw [h5,Nat.succ_mul];omega),h5,show (i+1)*sz+k - sz=i*sz+k by rw [Nat.succ_mul];omega];exact h7 h4 h5 (bV.setAt h6 (by simpa using hr) hk hs hv)
theorem auK {G:GH} {l:List bH} {xs:List ak} {k:Nat} (h:bV G 6 (l.map bH.dat) xs) (hk:k < l.length):∃ A c,xs[k*6+5]?=some (.slice A l[k].props.length c)∧ay G (.sl 2 (l[k].props.map gB.dat)) (.slice A l[k].props.length c):=by
 obtain ⟨cs,hcl,hcx,hcr⟩:=h.at (k:=k) (r:=l[k].dat) (by simp [hk]);obtain ⟨A,c,rfl,hp⟩:=NG hcr;exact ⟨A,c,hcx 5 _ rfl,hp⟩
theorem aqC {G:GH} {l:List dz} {xs:List ak} {k:Nat} (h:bV G 2 (l.map dz.dat) xs) (hk:k < l.length):∃ A n c,xs[k*2+1]?=some (.slice A n c)∧ay G (.sl 4 (l[k].levels.map iZ.dat)) (.slice A n c):=by
 obtain ⟨cs,hcl,hcx,hcr⟩:=h.at (k:=k) (r:=l[k].dat) (by simp [hk]);obtain ⟨v1,vs,rfl,-,v2,vs2,rfl,h2,-⟩:=hcr;obtain ⟨A,n,c,rfl⟩:=ay.form h2;exact ⟨A,n,c,hcx 1 _ rfl,h2⟩
theorem aiz (G:GH) (w0:World) (hG:Hold G w0) (s:qN) (a1 LC c1 d1:ak) (hR:tV G s a1 LC c1 d1) (z1:s.styles.length≤4294967296) (z2:s.lists.length≤4294967296) (z3:s.comments.length≤4294967296) (z4:s.vars.length≤4294967296) (z5:∀ x∈s.styles,x.props.length≤4294967296) (z6:∀ x∈s.lists,x.levels.length≤4294967296) :
  Calls prog 120 #[.agg #[a1,LC,c1,d1]] w0 (bB w0 G fun u G'=>∃ a' b' c' d',u=.agg #[a',b',c',d']∧tV G' s a' b' c' d'):=by
 have hml:maxLen=9223372036854775807:=rfl;obtain ⟨aA,an,ac,rfl⟩:=hR.st.form;obtain ⟨bA,bn,bc,rfl⟩:=hR.li.form;obtain ⟨cA,cn,cc,rfl⟩:=hR.cm.form;obtain ⟨dA,dn,dc,rfl⟩:=hR.va.form;obtain ⟨hs1,hs2,hs3,hs4⟩:=hR;refine eN [(0,_)] func120 rfl ntmps120 rfl rfl hG ?_;refine aj 1 ?_;intro a H;refine dN (cs:=[_,_,_,_]) H wn rfl rfl rfl ?_;clear H;intro b1 a w hb1 H;refine dx Ag H wn rfl ?_;clear H;intro b2 a w hb2 H;refine aH 2 H ?_;clear H;intro a H;have H:=H.bY (Pl:=[_,_]) (bT:=[_,_]) [1,0] (by decide) rfl;obtain ⟨Ga,hma,hb1',H⟩:=H.dS;have hga:=fun j v hj=>nE hb1' 0 [.slice aA an ac,.slice bA bn bc,.slice cA cn cc,.slice dA dn dc] rfl j v hj;replace hs1:=hs1.mono hma;replace hs2:=hs2.mono hma;replace hs3:=hs3.mono hma;replace hs4:=hs4.mono hma
 have dQ:∀ (bO:Nat→ak × OL) (bJ:Nat) (v:ak) (G G':GH),(∀ k o,G k=some o→G' k=some o)→(fun (bO:Nat→ak × OL) (bJ:Nat) (v:ak) (G:GH)=>match bJ with|0=>v=(aK b1 0)|1=>v=.slice aA an ac|2=>v=(bO 2).1∧∃ xs,cB 156 6 v s.styles.length xs (bO 2).2∧bV G 6 (s.styles.map bH.dat) xs|3=>v=(aK b1 1)|4=>v=.slice bA bn bc|5=>v=(bO 5).1∧∃ xs,cB 159 2 v s.lists.length xs (bO 5).2∧bV G 2 (s.lists.map dz.dat) xs|6=>v=(aK b1 2)|7=>v=.slice cA cn cc|8=>ay G (.sl 6 (s.comments.map eY.dat)) v|9=>v=(aK b1 3)|10=>v=.slice dA dn dc|11=>ay G (.sl 2 (s.vars.map iP.dat)) v|12=>∃ c' d',v=.agg #[(bO 2).1,(bO 5).1,c',d']∧ay G (.sl 6 (s.comments.map eY.dat)) c'∧ay G (.sl 2 (s.vars.map iP.dat)) d'|13=>∃ b,v=(aK b 0)∧bO 13=((aK b 0),[(b,.cells #[.slice none 0 0,.slice none 0 0,.slice none 0 0,.slice none 0 0] 36 (0,0))])|_=>True) bO bJ v G→(fun (bO:Nat→ak × OL) (bJ:Nat) (v:ak) (G:GH)=>match bJ with|0=>v=(aK b1 0)|1=>v=.slice aA an ac|2=>v=(bO 2).1∧∃ xs,cB 156 6 v s.styles.length xs (bO 2).2∧bV G 6 (s.styles.map bH.dat) xs|3=>v=(aK b1 1)|4=>v=.slice bA bn bc|5=>v=(bO 5).1∧∃ xs,cB 159 2 v s.lists.length xs (bO 5).2∧bV G 2 (s.lists.map dz.dat) xs|6=>v=(aK b1 2)|7=>v=.slice cA cn cc|8=>ay G (.sl 6 (s.comments.map eY.dat)) v|9=>v=(aK b1 3)|10=>v=.slice dA dn dc|11=>ay G (.sl 2 (s.vars.map iP.dat)) v|12=>∃ c' d',v=.agg #[(bO 2).1,(bO 5).1,c',d']∧ay G (.sl 6 (s.comments.map eY.dat)) c'∧ay G (.sl 2 (s.vars.map iP.dat)) d'|13=>∃ b,v=(aK b 0)∧bO 13=((aK b 0),[(b,.cells #[.slice none 0 0,.slice none 0 0,.slice none 0 0,.slice none 0 0] 36 (0,0))])|_=>True) bO bJ v G':=by
  intro bO bJ v G G' hm h
  match bJ,h with
  | 0,h=>exact h
  | 1,h=>exact h
  | 2,h=>exact let ⟨h1,xs,h2,h3⟩:=h;⟨h1,xs,h2,h3.mono hm⟩
  | 3,h=>exact h
  | 4,h=>exact h
  | 5,h=>exact let ⟨h1,xs,h2,h3⟩:=h;⟨h1,xs,h2,h3.mono hm⟩
  | 6,h=>exact h
  | 7,h=>exact h
  | 8,h=>exact ay.mono hm h
  | 9,h=>exact h
  | 10,h=>exact h
  | 11,h=>exact ay.mono hm h
  | 12,h=>exact let ⟨c',d',h1,h2,h3⟩:=h;⟨c',d',h1,h2.mono hm,h3.mono hm⟩
  | 13,h=>exact h
  | 14,h=>exact trivial
  | _+15,h=>exact trivial
 refine ZB [2,5,13] (hmx) [[],[0],[0,1],[],[3],(ra 0 5),[],[6],(ra 0 8),[],[9],(ra 0 11),(ra 0 12),[],(ra 0 14)] [14] (by kernel_rfl) (by kernel_rfl) (by decide) (by kernel_rfl) (fun (bO:Nat→ak × OL) (bJ:Nat) (v:ak) (G:GH)=>match bJ with|0=>v=(aK b1 0)|1=>v=.slice aA an ac|2=>v=(bO 2).1∧∃ xs,cB 156 6 v s.styles.length xs (bO 2).2∧bV G 6 (s.styles.map bH.dat) xs|3=>v=(aK b1 1)|4=>v=.slice bA bn bc|5=>v=(bO 5).1∧∃ xs,cB 159 2 v s.lists.length xs (bO 5).2∧bV G 2 (s.lists.map dz.dat) xs|6=>v=(aK b1 2)|7=>v=.slice cA cn cc|8=>ay G (.sl 6 (s.comments.map eY.dat)) v|9=>v=(aK b1 3)|10=>v=.slice dA dn dc|11=>ay G (.sl 2 (s.vars.map iP.dat)) v|12=>∃ c' d',v=.agg #[(bO 2).1,(bO 5).1,c',d']∧ay G (.sl 6 (s.comments.map eY.dat)) c'∧ay G (.sl 2 (s.vars.map iP.dat)) d'|13=>∃ b,v=(aK b 0)∧bO 13=((aK b 0),[(b,.cells #[.slice none 0 0,.slice none 0 0,.slice none 0 0,.slice none 0 0] 36 (0,0))])|_=>True) (fun m hm x y i v G hi hc h=>by
  have hm:m=2∨m=5∨m=13:=by simpa using hm
  rcases hm with rfl|rfl|rfl
  ·match i,hi,hc,h with
   | 0,_,_,h=>exact h
   | 1,_,_,h=>exact h
   | 2,hi,_,_=>exact absurd hi (by decide)
   | 3,_,_,h=>exact h
   | 4,_,_,h=>exact h
   | 5,_,hc,_=>exact absurd hc (by decide)
   | 6,_,_,h=>exact h
   | 7,_,_,h=>exact h
   | 8,_,hc,_=>exact absurd hc (by decide)
   | 9,_,_,h=>exact h
   | 10,_,_,h=>exact h
   | 11,_,hc,_=>exact absurd hc (by decide)
   | 12,_,hc,_=>exact absurd hc (by decide)
   | 13,_,_,h=>exact h
   | 14,_,hc,_=>exact absurd hc (by decide)
   | _+15,_,_,_=>exact trivial
  ·match i,hi,hc,h with
   | 0,_,_,h=>exact h
   | 1,_,_,h=>exact h
   | 2,_,_,h=>exact h
   | 3,_,_,h=>exact h
   | 4,_,_,h=>exact h
   | 5,hi,_,_=>exact absurd hi (by decide)
   | 6,_,_,h=>exact h
   | 7,_,_,h=>exact h
   | 8,_,hc,_=>exact absurd hc (by decide)
   | 9,_,_,h=>exact h
   | 10,_,_,h=>exact h
   | 11,_,hc,_=>exact absurd hc (by decide)
   | 12,_,hc,_=>exact absurd hc (by decide)
   | 13,_,_,h=>exact h
   | 14,_,hc,_=>exact absurd hc (by decide)
   | _+15,_,_,_=>exact trivial
  ·match i,hi,hc,h with
   | 0,_,_,h=>exact h
   | 1,_,_,h=>exact h
   | 2,_,_,h=>exact h
   | 3,_,_,h=>exact h
   | 4,_,_,h=>exact h
   | 5,_,_,h=>exact h
   | 6,_,_,h=>exact h
   | 7,_,_,h=>exact h
   | 8,_,_,h=>exact h
   | 9,_,_,h=>exact h
   | 10,_,_,h=>exact h
   | 11,_,_,h=>exact h
   | 12,_,_,h=>exact h
   | 13,hi,_,_=>exact absurd hi (by decide)
   | 14,_,hc,_=>exact absurd hc (by decide)
   | _+15,_,_,_=>exact trivial
  ) H ?_ ?_ ?_
 ·clear H;refine aF ?_ ?_ ?_ ?_ (aF ?_ ?_ ?_ ?_ (aF ?_ ?_ ?_ ?_ (aW ?_ (aW ?_ (aW ?_ cZ)))))
  ·intro bO jE bN a w G1 kC _ _ dh hc hG HT hv;have H:=HT;clear dh;have Hb:=H.full;have H:=Hb;clear hc;refine aH 1 H ?_;clear H;intro a H;refine aI ⟨rfl,?_⟩;exact jV (by kernel_rfl) (dQ bO) rfl rfl HT Hb hG hv (fun _ _ h=>h) (rfl) H
  ·intro bO jE bN a w G1 kC _ _ dh hc hG HT hv;have H:=HT;clear dh;have H:=H.aV (hv 0 6 (hc 0 (by decide)) rfl) rfl;have Hb:=H.full;have H:=Hb;clear hc;refine iH Eu H wn rfl (H.hp.aC (aD hG (hga 0 _ rfl))) rfl ?_;clear H;intro a H;refine aI ⟨rfl,?_⟩;exact jV (by kernel_rfl) (dQ bO) rfl rfl HT Hb hG hv (fun _ _ h=>h) (rfl) H
  ·intro _ _ _ _ _ _ _ _ hB;exact absurd hB (by decide)
  ·intro bO jE bN a w G1 kC _ _ dh hc hG HT hv;have H:=HT;clear dh;have Hb:=H.full;have H:=Hb;clear hc;refine aH 1 H ?_;clear H;intro a H;refine aI ⟨rfl,?_⟩;exact jV (by kernel_rfl) (dQ bO) rfl rfl HT Hb hG hv (fun _ _ h=>h) (rfl) H
  ·intro bO jE bN a w G1 kC _ _ dh hc hG HT hv;have H:=HT;clear dh;have H:=H.aV (hv 3 9 (hc 3 (by decide)) rfl) rfl;have Hb:=H.full;have H:=Hb;clear hc;refine iH oL H wn rfl (H.hp.aC (aD hG (hga 1 _ rfl))) rfl ?_;clear H;intro a H;refine aI ⟨rfl,?_⟩;exact jV (by kernel_rfl) (dQ bO) rfl rfl HT Hb hG hv (fun _ _ h=>h) (rfl) H
  ·intro _ _ _ _ _ _ _ _ hB;exact absurd hB (by decide)
  ·intro bO jE bN a w G1 kC _ _ dh hc hG HT hv;have H:=HT;clear dh;have Hb:=H.full;have H:=Hb;clear hc;refine aH 1 H ?_;clear H;intro a H;refine aI ⟨rfl,?_⟩;exact jV (by kernel_rfl) (dQ bO) rfl rfl HT Hb hG hv (fun _ _ h=>h) (rfl) H
  ·intro bO jE bN a w G1 kC _ _ dh hc hG HT hv;have H:=HT;clear dh;have H:=H.aV (hv 6 12 (hc 6 (by decide)) rfl) rfl;have Hb:=H.full;have H:=Hb;clear hc;refine iH Bw H wn rfl (H.hp.aC (aD hG (hga 2 _ rfl))) rfl ?_;clear H;intro a H;refine aI ⟨rfl,?_⟩;exact jV (by kernel_rfl) (dQ bO) rfl rfl HT Hb hG hv (fun _ _ h=>h) (rfl) H
  ·intro bO jE bN a w G1 kC _ _ dh hc hG HT hv;have H:=HT;clear dh;have H:=H.aV (hv 7 13 (hc 7 (by decide)) rfl) rfl;have Hb:=H.full;have H:=Hb;clear hc;refine s_call ajV H wn rfl (ain _ _ H.ro _ _ _ _ (hs3.mono hG) (by simpa using z3)) rfl ?_;clear H;rintro v14 qo a w vP DL H;refine aI ⟨rfl,?_⟩;exact jV (by kernel_rfl) (dQ bO) rfl rfl HT Hb hG hv DL (vP) H
  ·intro bO jE bN a w G1 kC _ _ dh hc hG HT hv;have H:=HT;clear dh;have Hb:=H.full;have H:=Hb;clear hc;refine aH 1 H ?_;clear H;intro a H;refine aI ⟨rfl,?_⟩;exact jV (by kernel_rfl) (dQ bO) rfl rfl HT Hb hG hv (fun _ _ h=>h) (rfl) H
  ·intro bO jE bN a w G1 kC _ _ dh hc hG HT hv;have H:=HT;clear dh;have H:=H.aV (hv 9 15 (hc 9 (by decide)) rfl) rfl;have Hb:=H.full;have H:=Hb;clear hc;refine iH sS H wn rfl (H.hp.aC (aD hG (hga 3 _ rfl))) rfl ?_;clear H;intro a H;refine aI ⟨rfl,?_⟩;exact jV (by kernel_rfl) (dQ bO) rfl rfl HT Hb hG hv (fun _ _ h=>h) (rfl) H
  ·intro bO jE bN a w G1 kC _ _ dh hc hG HT hv;have H:=HT;clear dh;have H:=H.aV (hv 10 16 (hc 10 (by decide)) rfl) rfl;have Hb:=H.full;have H:=Hb;clear hc;refine s_call ajW H wn rfl (aip _ _ H.ro _ _ _ _ (hs4.mono hG) (by simpa using z4)) rfl ?_;clear H;rintro v17 Al a w MU amY H;refine aI ⟨rfl,?_⟩;exact jV (by kernel_rfl) (dQ bO) rfl rfl HT Hb hG hv amY (MU) H
  ·intro bO jE bN a w G1 kC _ _ dh hc hG HT hv;have H:=HT;clear dh;obtain ⟨u8,Bg,mR⟩:=hv 2 8 (hc 2 (by decide)) rfl;(try dsimp only at mR);obtain ⟨h8,Si,D9,P9⟩:=mR;obtain ⟨sA,sc,rfl,-,-⟩:=D9.shape;have H:=H.kI Bg;obtain ⟨X7,Ig,yw⟩:=hv 5 11 (hc 5 (by decide)) rfl;(try dsimp only at yw);obtain ⟨h11,KC,zW,JG⟩:=yw;obtain ⟨lA,lc,rfl,-,-⟩:=zW.shape;have H:=H.kI Ig;obtain ⟨u14,M7,vP⟩:=hv 8 14 (hc 8 (by decide)) rfl;(try dsimp only at vP);obtain ⟨Yu,n14,c14,rfl⟩:=vP.form;have H:=H.kI M7;obtain ⟨u17,apK,MU⟩:=hv 11 17 (hc 11 (by decide)) rfl;(try dsimp only at MU);obtain ⟨A17,n17,c17,rfl⟩:=MU.form;have H:=H.kI apK;have Hb:=H.full;have H:=Hb;clear hc;refine jZ auC [_,_,_,_] H wn rfl rfl rfl rfl ?_;clear H;intro a H;refine aI ⟨rfl,?_⟩;exact jV (by kernel_rfl) (dQ bO) rfl rfl HT Hb hG hv (fun _ _ h=>h) (⟨_,_,by rw [← h8,← h11],vP,MU⟩) H
  ·intro _ _ _ _ _ _ _ _ hB;exact absurd hB (by decide)
  intro _ _ _ _ _ _ _ hB;exact absurd hB (by decide)
 ·clear H;refine aF ?_ ?_ ?_ ?_ (aF ?_ ?_ ?_ ?_ (aF ?_ ?_ ?_ ?_ (aW ?_ (aW ?_ (aW ?_ cZ)))))
  ·intro hB;exact absurd hB (by decide)
  ·intro hB;exact absurd hB (by decide)
  ·intro _ bO jE bN a w G1 kC _ hc hG HT hv;have H:=HT;have H:=H.aV (hv (.bool false,[]) 1 7 (by decide) (hc 1 (by decide)) rfl) rfl;have Hb:=H.full;have H:=Hb;clear hc;refine fu ajT (Li:=jE) (L:=[]) (H.cast (lD _).symm) wn rfl (aiv _ _ (zo H.ro) _ _ _ _ (hs1.mono hG) (by simpa using z1)) rfl ?_;clear H;rintro v8 G8 L8 a w ⟨Si,D9,P9⟩ pW H;rw [bE] at D9;have H:=H.perm wK;refine aI ⟨rfl,(v8,L8),?_⟩;exact Jq (by kernel_rfl) (dQ (zF bO 2 (v8,L8))) rfl HT Hb hG (fun j e h1 h2 h3=>hv (v8,L8) j e h1 h2 h3) pW (⟨rfl,Si,D9,P9⟩) H
  ·intro hB;exact absurd hB (by decide)
  ·intro hB;exact absurd hB (by decide)
  ·intro _ bO jE bN a w G1 kC _ hc hG HT hv;have H:=HT;have H:=H.aV (hv (.bool false,[]) 4 10 (by decide) (hc 4 (by decide)) rfl) rfl;have Hb:=H.full;have H:=Hb;clear hc;refine fu ajU (Li:=jE) (L:=[]) (H.cast (lD _).symm) wn rfl (aiu _ _ (zo H.ro) _ _ _ _ (hs2.mono hG) (by simpa using z2)) rfl ?_;clear H;rintro v11 qM Gg a w ⟨KC,zW,JG⟩ lH H;rw [bE] at zW;have H:=H.perm wK;refine aI ⟨rfl,(v11,Gg),?_⟩;exact Jq (by kernel_rfl) (dQ (zF bO 5 (v11,Gg))) rfl HT Hb hG (fun j e h1 h2 h3=>hv (v11,Gg) j e h1 h2 h3) lH (⟨rfl,KC,zW,JG⟩) H
  ·intro hB;exact absurd hB (by decide)
  ·intro hB;exact absurd hB (by decide)
  ·intro hB;exact absurd hB (by decide)
  ·intro hB;exact absurd hB (by decide)
  ·intro hB;exact absurd hB (by decide)
  ·intro hB;exact absurd hB (by decide)
  ·intro hB;exact absurd hB (by decide)
  ·intro _ bO jE bN a w G1 kC _ hc hG HT hv;have H:=HT;have Hb:=H.full;have H:=Hb;clear hc;refine dx Ag H wn rfl ?_;clear H;intro b3 a w hb3 H;refine aI ⟨rfl,((aK b3 0),[(b3,.cells #[.slice none 0 0,.slice none 0 0,.slice none 0 0,.slice none 0 0] 36 (0,0))]),?_⟩;exact Jq (by kernel_rfl) (dQ (zF bO 13 ((aK b3 0),[(b3,.cells #[.slice none 0 0,.slice none 0 0,.slice none 0 0,.slice none 0 0] 36 (0,0))]))) rfl HT Hb hG (fun j e h1 h2 h3=>hv ((aK b3 0),[(b3,.cells #[.slice none 0 0,.slice none 0 0,.slice none 0 0,.slice none 0 0] 36 (0,0))]) j e h1 h2 h3) (fun _ _ h=>h) (⟨b3,rfl,rfl⟩) H
  intro hB;exact absurd hB (by decide)
 clear H;intro bO a w G nH H hv
 simp only [qR,List.flatMap_cons,List.flatMap_nil,cond_true,lD,fT] at H
 obtain ⟨u3,hu3,hp3⟩:=hv 13 3 (by decide) rfl;(try dsimp only at hp3);obtain ⟨b3,rfl,e13⟩:=hp3;have H:=H.kI hu3;obtain ⟨u8,Bg,mR⟩:=hv 2 8 (by decide) rfl;(try dsimp only at mR);obtain ⟨h8,Si,D9,P9⟩:=mR;obtain ⟨sA,sc,rfl,-,-⟩:=D9.shape;have H:=H.kI Bg;obtain ⟨X7,Ig,yw⟩:=hv 5 11 (by decide) rfl;(try dsimp only at yw);obtain ⟨h11,KC,zW,JG⟩:=yw;obtain ⟨lA,lc,rfl,-,-⟩:=zW.shape;have H:=H.kI Ig;obtain ⟨u18,V4,MV⟩:=hv 12 18 (by decide) rfl;(try dsimp only at MV);obtain ⟨axP,axQ,rfl,hc18,abM⟩:=MV;obtain ⟨eA,en,ec,rfl⟩:=hc18.form;obtain ⟨fA,fn,fc,rfl⟩:=abM.form;have H:=H.kI V4;clear hv;obtain ⟨⟨vS,LS⟩,eS⟩:∃ y,y=bO 2:=⟨_,rfl⟩;obtain ⟨⟨vL,LL⟩,eL⟩:∃ y,y=bO 5:=⟨_,rfl⟩;rw [← eS,← eL,e13] at H;rw [← eS] at D9 h8;rw [← eL] at zW h11;dsimp only at H D9 zW h8 h11;subst h8;subst h11;rw [← fT] at H;have H:=H.perm (wK (l₁:=LS++LL) (l₂:=[_,_]));dsimp only [lca,aQ] at H;refine bq Ag 0 (vs:=[_,_,_,_]) _ H wn rfl rfl rfl rfl rfl rfl rfl rfl ?_;clear H;intro w H;dsimp only [List.set,setRow] at H;refine aI ⟨rfl,?_⟩;refine dW ?_;refine dG 8 H ?_;clear H;intro a H;refine dD (ι:=Nat × List ak × OL × GH) (Tc:=[(2,_),(3,_),(21,_)]) (Lc:=[(_,_),(_,_)]) (fun gh=>[(22,vi gh.1)]) (fun gh=>[]++(gh.2.2.1++LL)) (fun gh=>gh.2.2.2) (fun gh=>gh.1≤s.styles.length∧cB 156 6 (.slice sA s.styles.length sc) s.styles.length gh.2.1 gh.2.2.1∧bV gh.2.2.2 6 (s.styles.map bH.dat) gh.2.1∧(∀ b o,G b=some o→gh.2.2.2 b=some o)) (fun gh=>s.styles.length - gh.1) ((0,Si,LS,G)) sB ?_ ?_
 ·exact ⟨eG _,D9,P9,fun _ _ h=>h⟩
 clear H;rintro ⟨k,xs,Lo,g⟩ a w hI H;dsimp only at hI H;obtain ⟨hk,hrw,eU,hgm⟩:=hI;dsimp only [lca,aQ] at H;refine cK 4 H ?_ ?_ <;> clear H
 ·intro Aa
  have hk2:k < s.styles.length:=by omega
  obtain ⟨bs,rfl⟩:=hrw.ptr (by omega);obtain ⟨pA,pc,hpx,hpr⟩:=auK eU hk2;obtain ⟨cur,-,rfl,hcur,hset⟩:=hrw.set1;have hpz:=z5 _ (iq hk2);refine aj 7 ?_
  have Bd:∀ (bJ:Nat) (v:ak) (G G':GH),(∀ k o,G k=some o→G' k=some o)→(fun (bJ:Nat) (v:ak) (G:GH)=>match bJ with|0=>v=(aK b3 0)|1=>v=.slice (some ⟨bs,0,none⟩) s.styles.length sc|2=>v=vi k|3=>v=(aK b3 0)|4=>v=.slice (some ⟨bs,0,none⟩) s.styles.length sc|5=>v=vi k|6=>v=(aK bs (0+k*6))|7=>v=(aK bs (0+k*6+5))|8=>v=.slice pA s.styles[k].props.length pc|9=>ay G (.sl 2 (s.styles[k].props.map gB.dat)) v|_=>True) bJ v G→(fun (bJ:Nat) (v:ak) (G:GH)=>match bJ with|0=>v=(aK b3 0)|1=>v=.slice (some ⟨bs,0,none⟩) s.styles.length sc|2=>v=vi k|3=>v=(aK b3 0)|4=>v=.slice (some ⟨bs,0,none⟩) s.styles.length sc|5=>v=vi k|6=>v=(aK bs (0+k*6))|7=>v=(aK bs (0+k*6+5))|8=>v=.slice pA s.styles[k].props.length pc|9=>ay G (.sl 2 (s.styles[k].props.map gB.dat)) v|_=>True) bJ v G':=by
   intro bJ v G G' hm h
   match bJ,h with
   | 0,h=>exact h
   | 1,h=>exact h
   | 2,h=>exact h
   | 3,h=>exact h
   | 4,h=>exact h
   | 5,h=>exact h
   | 6,h=>exact h
   | 7,h=>exact h
   | 8,h=>exact h
   | 9,h=>exact ay.mono hm h
   | 10,h=>exact trivial
   | 11,h=>exact trivial
   | 12,h=>exact trivial
   | _+13,h=>exact trivial
  intro a H;refine Ar (hmx) [[],[0],[],[],[3],[],[3,4,5],(ra 3 4),(ra 3 5),(ra 3 6),(ra 0 10),(ra 0 11),(ra 0 12)] [10,11,12] (by kernel_rfl) (by kernel_rfl) (fun (bJ:Nat) (v:ak) (G:GH)=>match bJ with|0=>v=(aK b3 0)|1=>v=.slice (some ⟨bs,0,none⟩) s.styles.length sc|2=>v=vi k|3=>v=(aK b3 0)|4=>v=.slice (some ⟨bs,0,none⟩) s.styles.length sc|5=>v=vi k|6=>v=(aK bs (0+k*6))|7=>v=(aK bs (0+k*6+5))|8=>v=.slice pA s.styles[k].props.length pc|9=>ay G (.sl 2 (s.styles[k].props.map gB.dat)) v|_=>True) Bd H ?_ ?_
  ·clear H;refine aF ?_ ?_ ?_ ?_ (aF ?_ ?_ ?_ ?_ (aF ?_ ?_ (bS rfl) (bS rfl) (aW (bS rfl) cZ)))
   ·refine dB [] rfl trivial (by kernel_rfl) Bd rfl rfl ?_;intro bN a w G1 hG HT H fin;exact kH H (Rf Uo rfl fun _ H=>fin H iJ rfl)
   ·refine dB [(0,25,_)] rfl ⟨fun _ _ h=>h,aY⟩ (by kernel_rfl) Bd rfl rfl ?_;intro bN a w G1 hG HT H fin;exact kH H (Ro Eu 0 rfl fun _ H=>fin H iJ rfl)
   ·refine dB [] rfl trivial (by kernel_rfl) Bd rfl rfl ?_;intro bN a w G1 hG HT H fin;exact kH H (Rm rfl fun _ H=>fin H iJ rfl)
   ·refine dB [] rfl trivial (by kernel_rfl) Bd rfl rfl ?_;intro bN a w G1 hG HT H fin;exact kH H (Rf Uo rfl fun _ H=>fin H iJ rfl)
   ·refine dB [(3,28,_)] rfl ⟨fun _ _ h=>h,aY⟩ (by kernel_rfl) Bd rfl rfl ?_;intro bN a w G1 hG HT H fin;exact kH H (Ro Eu 0 rfl fun _ H=>fin H iJ rfl)
   ·refine dB [] rfl trivial (by kernel_rfl) Bd rfl rfl ?_;intro bN a w G1 hG HT H fin;exact kH H (Rm rfl fun _ H=>fin H iJ rfl)
   ·refine dB [(4,29,_),(5,30,_)] rfl ⟨fun _ _ h=>h,fun _ _ h=>h,aY⟩ (by kernel_rfl) Bd rfl rfl ?_;intro bN a w G1 hG HT H fin;exact kH H (Ri wB jk rfl rfl fun _ H=>fin H iJ rfl)
   ·refine dB [(6,31,_)] rfl ⟨fun _ _ h=>h,aY⟩ (by kernel_rfl) Bd rfl rfl ?_;intro bN a w G1 hG HT H fin;exact kH H (Rf Um rfl fun _ H=>fin H iJ rfl)
   ·refine dB [(7,32,_)] rfl ⟨fun _ _ h=>h,aY⟩ (by kernel_rfl) Bd rfl rfl ?_;intro bN a w G1 hG HT H fin;refine iH Et H wn rfl (hrw.at H.hp (fun x hx=>jT _ (jT _ (List.mem_append_left _ hx))) (by rw [gX];exact hpx)) rfl ?_;clear H;intro a H;exact fin H iJ rfl
   refine dB [(8,33,_)] rfl ⟨fun _ _ h=>h,aY⟩ (by kernel_rfl) Bd rfl rfl ?_;intro bN a w G1 hG HT H fin;refine s_call aav H wn rfl (ZR _ _ H.ro _ _ _ _ (hpr.mono hG) (by simpa using hpz)) rfl ?_;clear H;rintro v34 KL a w MW ang H;exact fin H ang (MW)
  clear H;intro a w G wU H hv;have H:=H.aV (hv 1 26 rfl rfl) rfl;have H:=H.aV (hv 2 27 rfl rfl) rfl;obtain ⟨u34,apL,MW⟩:=hv 9 34 (by decide) rfl;(try dsimp only at MW);obtain ⟨F6,n34,c34,rfl⟩:=MW.form;have H:=H.kI apL;clear hv;refine kH H (Ri wB jk rfl rfl (Rf Um rfl ?_));clear H;intro a H;refine bq Et 2 (c:=cur) (vs:=[.slice F6 n34 c34]) (cur.set (k*6+5) (.slice F6 n34 c34)) H wn rfl rfl rfl rfl rfl rfl (by simp;omega) (by rw [gX];rfl) ?_;clear H;intro w H;dsimp only [List.set,List.cons_append,List.nil_append] at H;have hrwn:=hset (k*6+5) (.slice F6 n34 c34);have aoh:=(eU.mono wU).setAt (i:=k) (k:=5) (r:=s.styles[k].dat) (v:=.slice F6 n34 c34) (by simp [hk2]) rfl (by decide) MW;refine aI ⟨rfl,?_⟩;refine dW ?_;refine dG 3 H ?_;clear H;intro a H;refine aI ?_;refine bR ((k+1,xs.set (k*6+5) (.slice F6 n34 c34),[(bs,.cells (cur.set (k*6+5) (.slice F6 n34 c34)).toArray 156 (0,0))],_)) sB ?_ ?_
  ·(try dsimp only);exact ⟨by omega,hrwn,aoh,fun b o h=>wU b o (hgm b o h)⟩
  first|omega|(dsimp only;omega)
 intro Aa
 obtain rfl:k=s.styles.length:=by omega
 refine aj 9 ?_;intro a H;refine dD (ι:=Nat × List ak × OL × GH) (Tc:=[(2,_),(3,_),(40,_)]) (Lc:=[(_,_),(_,_)]) (fun gh=>[(41,vi gh.1)]) (fun gh=>[]++(Lo++gh.2.2.1)) (fun gh=>gh.2.2.2) (fun gh=>gh.1≤s.lists.length∧cB 159 2 (.slice lA s.lists.length lc) s.lists.length gh.2.1 gh.2.2.1∧bV gh.2.2.2 2 (s.lists.map dz.dat) gh.2.1∧(∀ b o,g b=some o→gh.2.2.2 b=some o)) (fun gh=>s.lists.length - gh.1) ((0,KC,LL,g)) sB ?_ ?_
 ·exact ⟨eG _,zW,JG.mono hgm,fun _ _ h=>h⟩
 clear H;rintro ⟨k2,xs2,KT,g2⟩ a w hI H;dsimp only at hI H;obtain ⟨hk2,hrw2,Vh,jI⟩:=hI;dsimp only [lca,aQ] at H;refine cK 4 H ?_ ?_ <;> clear H
 ·intro p42
  have hk3:k2 < s.lists.length:=by omega
  obtain ⟨bl,rfl⟩:=hrw2.ptr (by omega);obtain ⟨qA,qn,qc,hqx,hqr⟩:=aqC Vh hk3;obtain ⟨TF,-,rfl,awH,apG⟩:=hrw2.set1;have hqz:=z6 _ (iq hk3);refine aj 7 ?_
  have Bc:∀ (bJ:Nat) (v:ak) (G G':GH),(∀ k o,G k=some o→G' k=some o)→(fun (bJ:Nat) (v:ak) (G:GH)=>match bJ with|0=>v=(aK b3 1)|1=>v=.slice (some ⟨bl,0,none⟩) s.lists.length lc|2=>v=vi k2|3=>v=(aK b3 1)|4=>v=.slice (some ⟨bl,0,none⟩) s.lists.length lc|5=>v=vi k2|6=>v=(aK bl (0+k2*2))|7=>v=(aK bl (0+k2*2+1))|8=>v=.slice qA qn qc|9=>ay G (.sl 4 (s.lists[k2].levels.map iZ.dat)) v|_=>True) bJ v G→(fun (bJ:Nat) (v:ak) (G:GH)=>match bJ with|0=>v=(aK b3 1)|1=>v=.slice (some ⟨bl,0,none⟩) s.lists.length lc|2=>v=vi k2|3=>v=(aK b3 1)|4=>v=.slice (some ⟨bl,0,none⟩) s.lists.length lc|5=>v=vi k2|6=>v=(aK bl (0+k2*2))|7=>v=(aK bl (0+k2*2+1))|8=>v=.slice qA qn qc|9=>ay G (.sl 4 (s.lists[k2].levels.map iZ.dat)) v|_=>True) bJ v G':=by
   intro bJ v G G' hm h
   match bJ,h with
   | 0,h=>exact h
   | 1,h=>exact h
   | 2,h=>exact h
   | 3,h=>exact h
   | 4,h=>exact h
   | 5,h=>exact h
   | 6,h=>exact h
   | 7,h=>exact h
   | 8,h=>exact h
   | 9,h=>exact ay.mono hm h
   | 10,h=>exact trivial
   | 11,h=>exact trivial
   | 12,h=>exact trivial
   | _+13,h=>exact trivial
  intro a H;refine Ar (hmx) [[],[0],[],[],[3],[],[3,4,5],(ra 3 4),(ra 3 5),(ra 3 6),(ra 0 10),(ra 0 11),(ra 0 12)] [10,11,12] (by kernel_rfl) (by kernel_rfl) (fun (bJ:Nat) (v:ak) (G:GH)=>match bJ with|0=>v=(aK b3 1)|1=>v=.slice (some ⟨bl,0,none⟩) s.lists.length lc|2=>v=vi k2|3=>v=(aK b3 1)|4=>v=.slice (some ⟨bl,0,none⟩) s.lists.length lc|5=>v=vi k2|6=>v=(aK bl (0+k2*2))|7=>v=(aK bl (0+k2*2+1))|8=>v=.slice qA qn qc|9=>ay G (.sl 4 (s.lists[k2].levels.map iZ.dat)) v|_=>True) Bc H ?_ ?_
  ·clear H;refine aF ?_ ?_ ?_ ?_ (aF ?_ ?_ ?_ ?_ (aF ?_ ?_ (bS rfl) (bS rfl) (aW (bS rfl) cZ)))
   ·refine dB [] rfl trivial (by kernel_rfl) Bc rfl rfl ?_;intro bN a w G1 hG HT H fin;exact kH H (Rf vG rfl fun _ H=>fin H iJ rfl)
   ·refine dB [(0,44,_)] rfl ⟨fun _ _ h=>h,aY⟩ (by kernel_rfl) Bc rfl rfl ?_;intro bN a w G1 hG HT H fin;exact kH H (Ro oL 0 rfl fun _ H=>fin H iJ rfl)
   ·refine dB [] rfl trivial (by kernel_rfl) Bc rfl rfl ?_;intro bN a w G1 hG HT H fin;exact kH H (Rm rfl fun _ H=>fin H iJ rfl)
   ·refine dB [] rfl trivial (by kernel_rfl) Bc rfl rfl ?_;intro bN a w G1 hG HT H fin;exact kH H (Rf vG rfl fun _ H=>fin H iJ rfl)
   ·refine dB [(3,47,_)] rfl ⟨fun _ _ h=>h,aY⟩ (by kernel_rfl) Bc rfl rfl ?_;intro bN a w G1 hG HT H fin;exact kH H (Ro oL 0 rfl fun _ H=>fin H iJ rfl)
   ·refine dB [] rfl trivial (by kernel_rfl) Bc rfl rfl ?_;intro bN a w G1 hG HT H fin;exact kH H (Rm rfl fun _ H=>fin H iJ rfl)
   ·refine dB [(4,48,_),(5,49,_)] rfl ⟨fun _ _ h=>h,fun _ _ h=>h,aY⟩ (by kernel_rfl) Bc rfl rfl ?_;intro bN a w G1 hG HT H fin;exact kH H (Ri pQ og rfl rfl fun _ H=>fin H iJ rfl)
   ·refine dB [(6,50,_)] rfl ⟨fun _ _ h=>h,aY⟩ (by kernel_rfl) Bc rfl rfl ?_;intro bN a w G1 hG HT H fin;exact kH H (Rf Dy rfl fun _ H=>fin H iJ rfl)
   ·refine dB [(7,51,_)] rfl ⟨fun _ _ h=>h,aY⟩ (by kernel_rfl) Bc rfl rfl ?_;intro bN a w G1 hG HT H fin;refine iH CY H wn rfl (hrw2.at H.hp (fun x hx=>jT _ (jT _ (List.mem_append_right _ hx))) (by rw [gX];exact hqx)) rfl ?_;clear H;intro a H;exact fin H iJ rfl
   refine dB [(8,52,_)] rfl ⟨fun _ _ h=>h,aY⟩ (by kernel_rfl) Bc rfl rfl ?_;intro bN a w G1 hG HT H fin;refine s_call ajX H wn rfl (aio _ _ H.ro _ _ _ _ (hqr.mono hG) (by simpa using hqz)) rfl ?_;clear H;rintro v53 YS a w MX Mx H;exact fin H Mx (MX)
  clear H;intro a w G nV H hv;have H:=H.aV (hv 1 45 rfl rfl) rfl;have H:=H.aV (hv 2 46 rfl rfl) rfl;obtain ⟨u53,apN,MX⟩:=hv 9 53 (by decide) rfl;(try dsimp only at MX);obtain ⟨I7,n53,c53,rfl⟩:=MX.form;have H:=H.kI apN;clear hv;refine kH H (Ri pQ og rfl rfl (Rf Dy rfl ?_));clear H;intro a H;refine bq CY (2+Lo.length) (c:=TF) (vs:=[.slice I7 n53 c53]) (TF.set (k2*2+1) (.slice I7 n53 c53)) H wn rfl (aqa [_,_] Lo _) rfl rfl rfl rfl (by simp;omega) (by rw [gX];rfl) ?_;clear H;intro w H;have H:=H.cast (atY [_,_] Lo _ _);have apB:=apG (k2*2+1) (.slice I7 n53 c53);have aoi:=(Vh.mono nV).setAt (i:=k2) (k:=1) (r:=s.lists[k2].dat) (v:=.slice I7 n53 c53) (by simp [hk3]) rfl (by decide) MX;refine aI ⟨rfl,?_⟩;refine dW ?_;refine dG 3 H ?_;clear H;intro a H;refine aI ?_;refine bR ((k2+1,xs2.set (k2*2+1) (.slice I7 n53 c53),[(bl,.cells (TF.set (k2*2+1) (.slice I7 n53 c53)).toArray 159 (0,0))],_)) sB ?_ ?_
  ·(try dsimp only);exact ⟨by omega,apB,aoi,fun b o h=>nV b o (jI b o h)⟩
  first|omega|(dsimp only;omega)
 intro p42
 obtain rfl:k2=s.lists.length:=by omega
 refine aj 2 ?_;intro a H;refine aT Ag (cs:=[_,_,_,_]) H wn rfl rfl (H.hp.cO 0 rfl rfl) rfl ?_;clear H;intro a H;refine bq Ag 1 (vs:=[_,_,_,_]) _ H wn rfl rfl rfl rfl rfl rfl rfl rfl ?_;clear H;intro w H;dsimp only [List.set,setRow] at H;refine aI ?_;refine dW ?_;refine dw ?_;have H:=H.un (A:=[_,_]);obtain ⟨Gr,hmr,apn,H⟩:=St.vI (Li:=[_,_]++Lo) H hrw2 (rows:=s.lists.map dz.dat) (by simp) Vh;obtain ⟨Gs,hms,apm,H⟩:=St.vI (Li:=[_,_]) H hrw (rows:=s.styles.map bH.dat) (by simp) ((eU.mono jI).mono hmr);refine (leave1 H results120 (.cons (xD Ag (cs:=[_,_,_,_]) H rfl rfl (H.hp.cO 1 rfl rfl)) .nil) ?_).1;exact H.rt ⟨_,_,_,_,rfl,apm,apn.mono hms,(((hc18.mono hgm).mono jI).mono hmr).mono hms,(((abM.mono hgm).mono jI).mono hmr).mono hms⟩
end
section
open Go.RowKit
theorem aaK:∀ args w,(callFunc 64 args).run prog w=.ok (.enter 64 args) w:=enters func64 rfl (by kernel_rfl)
theorem ajr:∀ args w,(callFunc 120 args).run prog w=.ok (.enter 120 args) w:=enters func120 rfl (by kernel_rfl)
theorem afq:sV prog 38 [(0,1),(1,5),(6,1),(7,4)] [.slice none 0 0,.slice none 0 0,.int .i64 0,.int .i64 0,.slice none 0 0,.slice none 0 0,.slice none 0 0,.slice none 0 0,.slice none 0 0,.slice none 0 0,.slice none 0 0]:=⟨by kernel_rfl,by kernel_rfl⟩
theorem aiq (G:GH) (w0:World) (hO:fM G [] w0) (l:List av) (v:ak) (hv:ay G (.sl 11 (l.map av.dat)) v) (hz:aX l≤4294967296) :
  Calls prog 76 #[v] w0 (fB w0 G [] fun u G' L'=>∃ xs,cB 68 11 u l.length xs L'∧bV G' 11 (l.map av.dat) xs):=by
 have ih:=Tx 4294967297 (by omega);have hl:=BG l;refine iM (N:=5) (T:=[(0,_)]) func76 rfl ntmps76 rfl rfl hO ?_;refine aj 5 ?_;intro a H;refine fu aaq (Li:=[]) (L:=[]) H wn rfl (aai (fun x=>x) _ _ (zo H.ro) l _ _ hv (by omega) (fun y hy=>ZP (n:=4294967296) (Tx 4294967296 (by omega)) (by omega) y (by have:=I5 hy;omega))) rfl ?_;clear H;rintro v4 G4 L4 a w ⟨IZ,apw,aoe⟩ H9 H;dsimp only [List.nil_append] at H;refine aH 2 H ?_;clear H;intro a H;refine lr H results76 rfl ?_;exact H.hp.dO ⟨IZ,apw,aoe⟩
def agF (G:GH) (D:gM) (d:iW) (L:OL):Prop :=
 ∃ xf Lf xr Lr,L=Lf++Lr∧cB 68 11 (aM D.f) d.flow.length xf Lf∧bV G 11 (d.flow.map av.dat) xf∧cB 82 3 (aM D.r) d.revs.length xr Lr∧bV G 3 (d.revs.map bD.dat) xr ∧
  gW G d.fin (aM D.p) (aM D.d) (aM D.y)∧D.ins=d.fin.marks.ins∧D.move=d.fin.marks.move∧tV G d.iD (aM D.s1) (aM D.s2) (aM D.s3) (aM D.s4)
theorem aiR (G:GH) (w0:World) (hO:fM G [] w0) (D:gM) (d:iW) (hR:mJ G D d) (hz:zJ d) :
  Calls prog 67 #[D.val] w0 (fB w0 G [] fun u G' L'=>∃ D':gM,u=D'.val∧agF G' D' d L'):=by
 obtain ⟨hfl,hhd,hins,hmv,jO,hst⟩:=hR;obtain ⟨zf,zh,zr,zt,zs,F5⟩:=hz;refine iM (N:=16) (T:=[(0,_)]) func67 rfl ntmps67 rfl rfl hO ?_;refine aj 1 ?_;intro a H;refine dN (cs:=[_,_,_,_,_,_,_,_,_,_,_]) H wn rfl rfl rfl ?_;clear H;intro b1 a w hb1 H;refine dx iY H wn rfl ?_;clear H;intro b2 a w hb2 H;refine aH 2 H ?_;clear H;intro a H;have H:=H.bY (Pl:=[_,_]) (bT:=[_,_]) [1,0] (by decide) rfl;obtain ⟨Ga,hma,hb1',H⟩:=H.dS;have hga:=fun j v hj=>nE hb1' 0 D.cells rfl j v hj;replace hfl:=hfl.mono hma;replace hhd:=hhd.mono hma;replace jO:=jO.mono hma;replace hst:=hst.mono hma
 have dQ:∀ (bO:Nat→ak × OL) (bJ:Nat) (v:ak) (G G':GH),(∀ k o,G k=some o→G' k=some o)→(fun (bO:Nat→ak × OL) (bJ:Nat) (v:ak) (G:GH)=>match bJ with|0=>v=(aK b1 0)|1=>v=aM D.f|2=>v=(bO 2).1∧∃ xs,cB 68 11 v d.flow.length xs (bO 2).2∧bV G 11 (d.flow.map av.dat) xs|3=>v=(aK b1 1)|4=>v=uK d.fin (aM D.p) (aM D.d) (aM D.y)|5=>∃ p y z,v=.agg #[p,vi d.fin.marks.ins,vi d.fin.marks.move,y,z]∧gW G d.fin p y z|6=>v=(aK b1 6)|7=>v=aM D.r|8=>v=(bO 8).1∧∃ xs,cB 82 3 v d.revs.length xs (bO 8).2∧bV G 3 (d.revs.map bD.dat) xs|9=>v=(aK b1 7)|10=>v=.agg #[aM D.s1,aM D.s2,aM D.s3,aM D.s4]|11=>∃ a' b' c' d',v=.agg #[a',b',c',d']∧tV G d.iD a' b' c' d'|_=>True) bO bJ v G→(fun (bO:Nat→ak × OL) (bJ:Nat) (v:ak) (G:GH)=>match bJ with|0=>v=(aK b1 0)|1=>v=aM D.f|2=>v=(bO 2).1∧∃ xs,cB 68 11 v d.flow.length xs (bO 2).2∧bV G 11 (d.flow.map av.dat) xs|3=>v=(aK b1 1)|4=>v=uK d.fin (aM D.p) (aM D.d) (aM D.y)|5=>∃ p y z,v=.agg #[p,vi d.fin.marks.ins,vi d.fin.marks.move,y,z]∧gW G d.fin p y z|6=>v=(aK b1 6)|7=>v=aM D.r|8=>v=(bO 8).1∧∃ xs,cB 82 3 v d.revs.length xs (bO 8).2∧bV G 3 (d.revs.map bD.dat) xs|9=>v=(aK b1 7)|10=>v=.agg #[aM D.s1,aM D.s2,aM D.s3,aM D.s4]|11=>∃ a' b' c' d',v=.agg #[a',b',c',d']∧tV G d.iD a' b' c' d'|_=>True) bO bJ v G':=by
  intro bO bJ v G G' hm h
  match bJ,h with
  | 0,h=>exact h
  | 1,h=>exact h
  | 2,h=>exact let ⟨h1,xs,h2,h3⟩:=h;⟨h1,xs,h2,h3.mono hm⟩
  | 3,h=>exact h
  | 4,h=>exact h
  | 5,h=>exact let ⟨p,y,z,h1,h2⟩:=h;⟨p,y,z,h1,h2.mono hm⟩
  | 6,h=>exact h
  | 7,h=>exact h
  | 8,h=>exact let ⟨h1,xs,h2,h3⟩:=h;⟨h1,xs,h2,h3.mono hm⟩
  | 9,h=>exact h
  | 10,h=>exact h
  | 11,h=>exact let ⟨p,q,y,z,h1,h2⟩:=h;⟨p,q,y,z,h1,h2.mono hm⟩
  | 12,h=>exact trivial
  | 13,h=>exact trivial
  | _+14,h=>exact trivial
 refine ZB [2,8] (hmx) [[],[0],[0,1],[],[3],(ra 0 5),[],[6],(ra 0 8),[],[9],(ra 0 11),(ra 0 12),(ra 0 13)] [12,13] (by kernel_rfl) (by kernel_rfl) (by decide) (by kernel_rfl) (fun (bO:Nat→ak × OL) (bJ:Nat) (v:ak) (G:GH)=>match bJ with|0=>v=(aK b1 0)|1=>v=aM D.f|2=>v=(bO 2).1∧∃ xs,cB 68 11 v d.flow.length xs (bO 2).2∧bV G 11 (d.flow.map av.dat) xs|3=>v=(aK b1 1)|4=>v=uK d.fin (aM D.p) (aM D.d) (aM D.y)|5=>∃ p y z,v=.agg #[p,vi d.fin.marks.ins,vi d.fin.marks.move,y,z]∧gW G d.fin p y z|6=>v=(aK b1 6)|7=>v=aM D.r|8=>v=(bO 8).1∧∃ xs,cB 82 3 v d.revs.length xs (bO 8).2∧bV G 3 (d.revs.map bD.dat) xs|9=>v=(aK b1 7)|10=>v=.agg #[aM D.s1,aM D.s2,aM D.s3,aM D.s4]|11=>∃ a' b' c' d',v=.agg #[a',b',c',d']∧tV G d.iD a' b' c' d'|_=>True) (fun m hm x y i v G hi hc h=>by
  have hm:m=2∨m=8:=by simpa using hm
  rcases hm with rfl|rfl
  ·match i,hi,hc,h with
   | 0,_,_,h=>exact h
   | 1,_,_,h=>exact h
   | 2,hi,_,_=>exact absurd hi (by decide)
   | 3,_,_,h=>exact h
   | 4,_,_,h=>exact h
   | 5,_,hc,_=>exact absurd hc (by decide)
   | 6,_,_,h=>exact h
   | 7,_,_,h=>exact h
   | 8,_,hc,_=>exact absurd hc (by decide)
   | 9,_,_,h=>exact h
   | 10,_,_,h=>exact h
   | 11,_,hc,_=>exact absurd hc (by decide)
   | 12,_,hc,_=>exact absurd hc (by decide)
   | 13,_,hc,_=>exact absurd hc (by decide)
   | _+14,_,_,_=>exact trivial
  ·match i,hi,hc,h with
   | 0,_,_,h=>exact h
   | 1,_,_,h=>exact h
   | 2,_,_,h=>exact h
   | 3,_,_,h=>exact h
   | 4,_,_,h=>exact h
   | 5,_,_,h=>exact h
   | 6,_,_,h=>exact h
   | 7,_,_,h=>exact h
   | 8,hi,_,_=>exact absurd hi (by decide)
   | 9,_,_,h=>exact h
   | 10,_,_,h=>exact h
   | 11,_,hc,_=>exact absurd hc (by decide)
   | 12,_,hc,_=>exact absurd hc (by decide)
   | 13,_,hc,_=>exact absurd hc (by decide)
   | _+14,_,_,_=>exact trivial
  ) H ?_ ?_ ?_
 ·clear H;refine aF ?_ ?_ ?_ ?_ (aF ?_ ?_ ?_ ?_ (aF ?_ ?_ ?_ ?_ (aW ?_ (aW ?_ cZ))))
  ·intro bO jE bN a w G1 kC _ _ dh hc hG HT hv;have H:=HT;clear dh;have Hb:=H.full;have H:=Hb;clear hc;refine aH 1 H ?_;clear H;intro a H;refine aI ⟨rfl,?_⟩;exact jV (by kernel_rfl) (dQ bO) rfl rfl HT Hb hG hv (fun _ _ h=>h) (rfl) H
  ·intro bO jE bN a w G1 kC _ _ dh hc hG HT hv;have H:=HT;clear dh;have H:=H.aV (hv 0 3 (hc 0 (by decide)) rfl) rfl;have Hb:=H.full;have H:=Hb;clear hc;refine iH zB H wn rfl (H.hp.aC (aD hG (hga 0 _ rfl))) rfl ?_;clear H;intro a H;refine aI ⟨rfl,?_⟩;exact jV (by kernel_rfl) (dQ bO) rfl rfl HT Hb hG hv (fun _ _ h=>h) (rfl) H
  ·intro _ _ _ _ _ _ _ _ hB;exact absurd hB (by decide)
  ·intro bO jE bN a w G1 kC _ _ dh hc hG HT hv;have H:=HT;clear dh;have Hb:=H.full;have H:=Hb;clear hc;refine aH 1 H ?_;clear H;intro a H;refine aI ⟨rfl,?_⟩;exact jV (by kernel_rfl) (dQ bO) rfl rfl HT Hb hG hv (fun _ _ h=>h) (rfl) H
  ·intro bO jE bN a w G1 kC _ _ dh hc hG HT hv;have H:=HT;clear dh;have H:=H.aV (hv 3 6 (hc 3 (by decide)) rfl) rfl;have Hb:=H.full;have H:=Hb;clear hc;refine aT gG (cs:=[aM D.p,vi d.fin.marks.ins,vi d.fin.marks.move,aM D.d,aM D.y]) H wn rfl rfl (fun j v hj=>H.hp.aC (aD hG (by rw [← hins,← hmv] at hj;exact nE hb1' 1 _ rfl j v hj))) rfl ?_;clear H;intro a H;refine aI ⟨rfl,?_⟩;exact jV (by kernel_rfl) (dQ bO) rfl rfl HT Hb hG hv (fun _ _ h=>h) (rfl) H
  ·intro bO jE bN a w G1 kC _ _ dh hc hG HT hv;have H:=HT;clear dh;have H:=H.aV (hv 4 7 (hc 4 (by decide)) rfl) rfl;have Hb:=H.full;have H:=Hb;clear hc;refine s_call GR H wn rfl (GL _ _ H.ro d.fin _ _ _ _ _ _ _ _ _ (hhd.mono hG) zh) rfl ?_;clear H;rintro v8 G8 a w mR pW H;refine aI ⟨rfl,?_⟩;exact jV (by kernel_rfl) (dQ bO) rfl rfl HT Hb hG hv pW (mR) H
  ·intro bO jE bN a w G1 kC _ _ dh hc hG HT hv;have H:=HT;clear dh;have Hb:=H.full;have H:=Hb;clear hc;refine aH 1 H ?_;clear H;intro a H;refine aI ⟨rfl,?_⟩;exact jV (by kernel_rfl) (dQ bO) rfl rfl HT Hb hG hv (fun _ _ h=>h) (rfl) H
  ·intro bO jE bN a w G1 kC _ _ dh hc hG HT hv;have H:=HT;clear dh;have H:=H.aV (hv 6 9 (hc 6 (by decide)) rfl) rfl;have Hb:=H.full;have H:=Hb;clear hc;refine iH uW H wn rfl (H.hp.aC (aD hG (hga 6 _ rfl))) rfl ?_;clear H;intro a H;refine aI ⟨rfl,?_⟩;exact jV (by kernel_rfl) (dQ bO) rfl rfl HT Hb hG hv (fun _ _ h=>h) (rfl) H
  ·intro _ _ _ _ _ _ _ _ hB;exact absurd hB (by decide)
  ·intro bO jE bN a w G1 kC _ _ dh hc hG HT hv;have H:=HT;clear dh;have Hb:=H.full;have H:=Hb;clear hc;refine aH 1 H ?_;clear H;intro a H;refine aI ⟨rfl,?_⟩;exact jV (by kernel_rfl) (dQ bO) rfl rfl HT Hb hG hv (fun _ _ h=>h) (rfl) H
  ·intro bO jE bN a w G1 kC _ _ dh hc hG HT hv;have H:=HT;clear dh;have H:=H.aV (hv 9 12 (hc 9 (by decide)) rfl) rfl;have Hb:=H.full;have H:=Hb;clear hc;refine aT Ag (cs:=[aM D.s1,aM D.s2,aM D.s3,aM D.s4]) H wn rfl rfl (fun j v hj=>H.hp.aC (aD hG (nE hb1' 7 _ rfl j v hj))) rfl ?_;clear H;intro a H;refine aI ⟨rfl,?_⟩;exact jV (by kernel_rfl) (dQ bO) rfl rfl HT Hb hG hv (fun _ _ h=>h) (rfl) H
  ·intro bO jE bN a w G1 kC _ _ dh hc hG HT hv;have H:=HT;clear dh;have H:=H.aV (hv 10 13 (hc 10 (by decide)) rfl) rfl;have Hb:=H.full;have H:=Hb;clear hc;refine s_call ajr H wn rfl (aiz _ _ H.ro d.iD _ _ _ _ (hst.mono hG) zs F5.ln F5.cn F5.vn F5.pl F5.ll) rfl ?_;clear H;rintro v14 qo a w vP DL H;refine aI ⟨rfl,?_⟩;exact jV (by kernel_rfl) (dQ bO) rfl rfl HT Hb hG hv DL (vP) H
  ·intro _ _ _ _ _ _ _ hB;exact absurd hB (by decide)
  intro _ _ _ _ _ _ _ hB;exact absurd hB (by decide)
 ·clear H;refine aF ?_ ?_ ?_ ?_ (aF ?_ ?_ ?_ ?_ (aF ?_ ?_ ?_ ?_ (aW ?_ (aW ?_ cZ))))
  ·intro hB;exact absurd hB (by decide)
  ·intro hB;exact absurd hB (by decide)
  ·intro _ bO jE bN a w G1 kC _ hc hG HT hv;have H:=HT;have H:=H.aV (hv (.bool false,[]) 1 4 (by decide) (hc 1 (by decide)) rfl) rfl;have Hb:=H.full;have H:=Hb;clear hc;refine fu Uf (Li:=jE) (L:=[]) (H.cast (lD _).symm) wn rfl (aiq _ _ (zo H.ro) d.flow _ (hfl.mono hG) (by omega)) rfl ?_;clear H;rintro v5 G5 L5 a w ⟨xs5,apy,aof⟩ wU H;have H:=H.perm wK;refine aI ⟨rfl,(v5,L5),?_⟩;exact Jq (by kernel_rfl) (dQ (zF bO 2 (v5,L5))) rfl HT Hb hG (fun j e h1 h2 h3=>hv (v5,L5) j e h1 h2 h3) wU (⟨rfl,xs5,apy,aof⟩) H
  ·intro hB;exact absurd hB (by decide)
  ·intro hB;exact absurd hB (by decide)
  ·intro hB;exact absurd hB (by decide)
  ·intro hB;exact absurd hB (by decide)
  ·intro hB;exact absurd hB (by decide)
  ·intro _ bO jE bN a w G1 kC _ hc hG HT hv;have H:=HT;have H:=H.aV (hv (.bool false,[]) 7 10 (by decide) (hc 7 (by decide)) rfl) rfl;have Hb:=H.full;have H:=Hb;clear hc;refine fu aaK (Li:=jE) (L:=[]) (H.cast (lD _).symm) wn rfl (ZQ _ _ (zo H.ro) _ _ _ _ (jO.mono hG) (by simpa using zr)) rfl ?_;clear H;rintro v11 qM Gg a w ⟨KC,zW,JG⟩ lH H;rw [bE] at zW;have H:=H.perm wK;refine aI ⟨rfl,(v11,Gg),?_⟩;exact Jq (by kernel_rfl) (dQ (zF bO 8 (v11,Gg))) rfl HT Hb hG (fun j e h1 h2 h3=>hv (v11,Gg) j e h1 h2 h3) lH (⟨rfl,KC,zW,JG⟩) H
  ·intro hB;exact absurd hB (by decide)
  ·intro hB;exact absurd hB (by decide)
  ·intro hB;exact absurd hB (by decide)
  ·intro hB;exact absurd hB (by decide)
  intro hB;exact absurd hB (by decide)
 clear H;intro bO a w G nH H hv
 simp only [qR,List.flatMap_cons,List.flatMap_nil,cond_true,lD,fT] at H
 obtain ⟨u5,Ih,rC⟩:=hv 2 5 (by decide) rfl;(try dsimp only at rC);obtain ⟨h5,xf,JY,Vi⟩:=rC;obtain ⟨fA,fc,rfl,-,-⟩:=JY.shape;have H:=H.kI Ih;obtain ⟨u8,Bg,mR⟩:=hv 5 8 (by decide) rfl;(try dsimp only at mR);obtain ⟨p8,y8,z8,rfl,MN⟩:=mR;obtain ⟨a1,a2,a3,rfl⟩:=MN.props.form;obtain ⟨a4,a5,a6,rfl⟩:=MN.bg.form;obtain ⟨a7,a8,a9,rfl⟩:=MN.layers.form;have H:=H.kI Bg;obtain ⟨X7,Ig,yw⟩:=hv 8 11 (by decide) rfl;(try dsimp only at yw);obtain ⟨h11,xr,JZ,Vj⟩:=yw;obtain ⟨rA,rc,rfl,-,-⟩:=JZ.shape;have H:=H.kI Ig;obtain ⟨u14,M7,vP⟩:=hv 11 14 (by decide) rfl;(try dsimp only at vP);obtain ⟨kM,q14,y14,z14,rfl,M5⟩:=vP;obtain ⟨c1,c2,c3,rfl⟩:=M5.st.form;obtain ⟨c4,c5,c6,rfl⟩:=M5.li.form;obtain ⟨c7,c8,c9,rfl⟩:=M5.cm.form;obtain ⟨d1,d2,d3,rfl⟩:=M5.va.form;have H:=H.kI M7;clear hv;obtain ⟨⟨vF,LF⟩,eF⟩:∃ y,y=bO 2:=⟨_,rfl⟩;obtain ⟨⟨vR,LR⟩,eR⟩:∃ y,y=bO 8:=⟨_,rfl⟩;rw [← eF,← eR] at H;rw [← eF] at JY h5;rw [← eR] at JZ h11;dsimp only at H JY JZ h5 h11;subst h5;subst h11;rw [← fT] at H;have H:=H.perm (wK (l₁:=LF++LR) (l₂:=[_]));dsimp only [lca,aQ] at H;refine jZ afq [_,_,_,_,_,_,_,_,_,_,_] H wn rfl rfl rfl rfl ?_;clear H;intro a H;refine bq iY 0 (vs:=[_,_,_,_,_,_,_,_,_,_,_]) _ H wn rfl rfl rfl rfl rfl rfl rfl rfl ?_;clear H;intro w H;dsimp only [List.set,setRow] at H;refine aI ⟨rfl,?_⟩;refine dW ?_;refine dw ?_;refine (leave1 H results67 (.cons (xD iY (cs:=[_,_,_,_,_,_,_,_,_,_,_]) H rfl rfl (H.hp.cO 0 rfl rfl)) .nil) ?_).1;exact H.hp.bU (L':=LF++LR) (BO _ _) ⟨⟨(fA,d.flow.length,fc),(a1,a2,a3),(a4,a5,a6),(a7,a8,a9),(rA,d.revs.length,rc),(c1,c2,c3),(c4,c5,c6),(c7,c8,c9),(d1,d2,d3),d.fin.marks.ins,d.fin.marks.move⟩,rfl,xf,LF,xr,LR,rfl,JY,Vi,JZ,Vj,MN,rfl,rfl,M5⟩
end
section
open Go.RowKit
theorem OY:∀ args w,(callFunc 62 args).run prog w=.ok (.enter 62 args) w:=enters func62 rfl (by kernel_rfl)
theorem ajk:∀ args w,(callFunc 113 args).run prog w=.ok (.enter 113 args) w:=enters func113 rfl (by kernel_rfl)
theorem Jt:∀ args w,(callFunc 69 args).run prog w=.ok (.enter 69 args) w:=enters func69 rfl (by kernel_rfl)
theorem ajm:∀ args w,(callFunc 116 args).run prog w=.ok (.enter 116 args) w:=enters func116 rfl (by kernel_rfl)
theorem ajS:∀ args w,(callFunc 172 args).run prog w=.ok (.enter 172 args) w:=enters func172 rfl (by kernel_rfl)
theorem ajl:∀ args w,(callFunc 115 args).run prog w=.ok (.enter 115 args) w:=enters func115 rfl (by kernel_rfl)
theorem arM {G:GH} (r:aS):rV (.func (.func 116) #[] #[]) G r.dat (decide (r.cells.length=0)):=by
 intro G1 w0 cs hm hG hr;refine jM (caps:=[]) ajm ?_;obtain ⟨pA,pn,pc,dA,dn,dc,yA,yn,yc,fA,fn,fc,rfl,-,hf⟩:=hr.row;have hn:=hf.len;rw [bE] at hn;subst hn;refine eN [(0,_)] func116 rfl ntmps116 rfl rfl hG ?_;refine aj 1 ?_;intro a H;refine dN (cs:=[_,_,_,_,_,_]) H wn rfl rfl rfl ?_;clear H;intro b1 a w hb1 H;refine gK 9 H ?_;exact (dJ (decide_eq_decide.2 (by omega)))
theorem aiN (G:GH) (w0:World) (hG:Hold G w0) (l:List aS) (v:ak) (hv:ay G (.sl 6 (l.map aS.dat)) v) (hne:∀ r∈l,r.cells≠[]) :
  Calls prog 113 #[v,.func (.func 116) #[] #[]] w0 (bB w0 G fun u G'=>ay G' (.sl 6 (l.map aS.dat)) u):=by
 obtain ⟨A,n,c,rfl⟩:=hv.form
 have hno:l.findIdx? (fun r=>decide (r.cells.length=0))=none:=by
  rw [List.findIdx?_eq_none_iff];intro r hr;exact gD fun h=>hne r hr (List.length_eq_zero_iff.1 h)
 refine eN [(0,_),(1,_)] func113 rfl ntmps113 rfl rfl hG ?_;refine aj 6 ?_;intro a H;refine s_call aat H wn rfl (adu _ _ H.ro l (fun r=>decide (r.cells.length=0)) _ _ hv (fun r _=>arM r)) rfl ?_;clear H;rintro v10 Ak a w rfl oF H;rw [hno] at H;refine eO 7 H ?_ ?_ <;> clear H
 ·intro lu
  refine aJ 4 ?_;exact (hv.mono oF)
 intro lu
 intro a H;exact absurd rfl lu
def GA (n:Nat):Prop:=∀ (G:GH) (w0:World),Hold G w0→∀ (l:List av) (v:ak),ay G (.sl 11 (l.map av.dat)) v→vU l→aX l < n →
 Calls prog 62 #[v] w0 (bB w0 G fun u G'=>ay G' (.sl 11 ((jC l).map av.dat)) u)
theorem arH {n:Nat} (ih:GA n) (hn:n≤4294967296) (G:GH) (w0:World) (hG:Hold G w0) (x:aR) (cs:List ak) (hv:aZ G x.dat cs) (hne:Fw x) (hz:bM x.dat < n+1) :
  Calls prog 172 #[.agg cs.toArray] w0 (bB w0 G fun u G'=>∃ cs',u=.agg cs'.toArray∧aZ G' (nC x).dat cs'):=by
 have he:=uZ x;obtain ⟨pA,pn,pc,dA,dn,dc,yA,yn,yc,fA,fn,fc,rfl,hh,hf⟩:=hv.cell;rw [arv] at hne;refine eN [(0,_)] func172 rfl ntmps172 rfl rfl hG ?_;refine aj 1 ?_;intro a H;refine dN (cs:=[_,_,_,_,_,_,_]) H wn rfl rfl rfl ?_;clear H;intro b1 a w hb1 H;refine dx iI H wn rfl ?_;clear H;intro b2 a w hb2 H;refine aH 2 H ?_;clear H
 have dQ:∀ (bJ:Nat) (v:ak) (G G':GH),(∀ k o,G k=some o→G' k=some o)→(fun (bJ:Nat) (v:ak) (G:GH)=>match bJ with|0=>v=(aK b1 0)|1=>v=vi x.id|2=>v=(aK b1 1)|3=>v=.agg #[.slice pA pn pc,vi x.head.marks.ins,vi x.head.marks.move,.slice dA dn dc,.slice yA yn yc]|4=>∃ p d l,v=.agg #[p,vi x.head.marks.ins,vi x.head.marks.move,d,l]∧gW G x.head p d l|5=>v=(aK b1 6)|6=>v=.slice fA fn fc|7=>ay G (.sl 11 ((jC x.flow).map av.dat)) v|_=>True) bJ v G→(fun (bJ:Nat) (v:ak) (G:GH)=>match bJ with|0=>v=(aK b1 0)|1=>v=vi x.id|2=>v=(aK b1 1)|3=>v=.agg #[.slice pA pn pc,vi x.head.marks.ins,vi x.head.marks.move,.slice dA dn dc,.slice yA yn yc]|4=>∃ p d l,v=.agg #[p,vi x.head.marks.ins,vi x.head.marks.move,d,l]∧gW G x.head p d l|5=>v=(aK b1 6)|6=>v=.slice fA fn fc|7=>ay G (.sl 11 ((jC x.flow).map av.dat)) v|_=>True) bJ v G':=by
  intro bJ v G G' hm h
  match bJ,h with
  | 0,h=>exact h
  | 1,h=>exact h
  | 2,h=>exact h
  | 3,h=>exact h
  | 4,h=>exact let ⟨p,d,l,h1,h2⟩:=h;⟨p,d,l,h1,h2.mono hm⟩
  | 5,h=>exact h
  | 6,h=>exact h
  | 7,h=>exact ay.mono hm h
  | 8,h=>exact trivial
  | 9,h=>exact trivial
  | _+10,h=>exact trivial
 intro a H;refine Ar (hmx) [[],[0],[],[2],[2,3],[],[5],(ra 2 5),(ra 0 8),(ra 0 9)] [8,9] (by kernel_rfl) (by kernel_rfl) (fun (bJ:Nat) (v:ak) (G:GH)=>match bJ with|0=>v=(aK b1 0)|1=>v=vi x.id|2=>v=(aK b1 1)|3=>v=.agg #[.slice pA pn pc,vi x.head.marks.ins,vi x.head.marks.move,.slice dA dn dc,.slice yA yn yc]|4=>∃ p d l,v=.agg #[p,vi x.head.marks.ins,vi x.head.marks.move,d,l]∧gW G x.head p d l|5=>v=(aK b1 6)|6=>v=.slice fA fn fc|7=>ay G (.sl 11 ((jC x.flow).map av.dat)) v|_=>True) dQ H ?_ ?_
 ·clear H;refine aF ?_ ?_ ?_ ?_ (aF ?_ ?_ ?_ ?_ (aW (bS rfl) (aW (bS rfl) cZ)))
  ·refine dB [] rfl trivial (by kernel_rfl) dQ rfl rfl ?_;intro bN a w G1 hG HT H fin;exact kH H (Rf aaU rfl fun _ H=>fin H iJ rfl)
  ·refine dB [(0,3,_)] rfl ⟨fun _ _ h=>h,aY⟩ (by kernel_rfl) dQ rfl rfl ?_;intro bN a w G1 hG HT H fin;exact kH H (Ro bC 1 rfl fun _ H=>fin H iJ rfl)
  ·refine dB [] rfl trivial (by kernel_rfl) dQ rfl rfl ?_;intro bN a w G1 hG HT H fin;exact kH H (Rf aaV rfl fun _ H=>fin H iJ rfl)
  ·refine dB [(2,5,_)] rfl ⟨fun _ _ h=>h,aY⟩ (by kernel_rfl) dQ rfl rfl ?_;intro bN a w G1 hG HT H fin;refine aT gG (cs:=[_,_,_,_,_]) H wn rfl rfl (H.hp.cO 1 rfl rfl) rfl ?_;clear H;intro a H;exact fin H iJ rfl
  ·refine dB [(3,6,_)] rfl ⟨fun _ _ h=>h,aY⟩ (by kernel_rfl) dQ rfl rfl ?_;intro bN a w G1 hG HT H fin;refine s_call GR H wn rfl (GL _ _ H.ro x.head _ _ _ _ _ _ _ _ _ (hh.mono hG) (by omega)) rfl ?_;clear H;rintro v7 G7 a w D8 Ht H;exact fin H Ht (D8)
  ·refine dB [] rfl trivial (by kernel_rfl) dQ rfl rfl ?_;intro bN a w G1 hG HT H fin;exact kH H (Rf aaW rfl fun _ H=>fin H iJ rfl)
  ·refine dB [(5,8,_)] rfl ⟨fun _ _ h=>h,aY⟩ (by kernel_rfl) dQ rfl rfl ?_;intro bN a w G1 hG HT H fin;exact kH H (Ro zB 1 rfl fun _ H=>fin H iJ rfl)
  refine dB [(6,9,_)] rfl ⟨fun _ _ h=>h,aY⟩ (by kernel_rfl) dQ rfl rfl ?_;intro bN a w G1 hG HT H fin;refine s_call OY H wn rfl (ih _ _ H.ro x.flow _ (hf.mono hG) hne (by omega)) rfl ?_;clear H;rintro v10 Ak a w uN nV H;exact fin H nV (uN)
 clear H;intro a w G nH H hv;have H:=H.aV (hv 1 4 rfl rfl) rfl;obtain ⟨u7,V5,D8⟩:=hv 4 7 (by decide) rfl;(try dsimp only at D8);obtain ⟨p7,d7,l7,rfl,DW⟩:=D8;obtain ⟨a1,a2,a3,rfl⟩:=DW.props.form;obtain ⟨a4,a5,a6,rfl⟩:=DW.bg.form;obtain ⟨a7,a8,a9,rfl⟩:=DW.layers.form;have H:=H.kI V5;obtain ⟨u10,M6,uN⟩:=hv 7 10 (by decide) rfl;(try dsimp only at uN);obtain ⟨Yt,n10,c10,rfl⟩:=uN.form;have H:=H.kI M6;clear hv;refine jZ RI [_,_,_,_,_,_,_] H wn rfl rfl rfl rfl ?_;clear H;intro a H;refine bq iI 0 (vs:=[_,_,_,_,_,_,_]) _ H wn rfl rfl rfl rfl rfl rfl rfl rfl ?_;clear H;intro w H;dsimp only [List.set,setRow] at H;refine aI ⟨rfl,?_⟩;refine dW ?_;refine dw ?_;refine (leave1 H results172 (.cons (xD iI (cs:=[_,_,_,_,_,_,_]) H rfl rfl (H.hp.cO 0 rfl rfl)) .nil) ?_).1;exact H.rt ⟨_,rfl,by rw [ark];exact aZ.Ke (x:=.mk x.id x.head (jC x.flow)) DW uN⟩
theorem arI {n:Nat} (ih:GA n) (hn:n≤4294967296) {G:GH} {w0:World} (x:aR) (hne:Fw x) (hz:bM x.dat < n+1):C8 (.func (.func 172) #[] #[]) w0 G x.dat (nC x).dat:=by
 intro G1 w1 cs hm1 hG1 hr;have h:=arH ih hn _ _ hG1 x cs hr hne hz;have h2:=jM (P:=prog) (caps:=[]) (args:=[.agg cs.toArray]) ajS h;exact h2
theorem arJ {n:Nat} (ih:GA n) (hn:n≤4294967296) (G:GH) (w0:World) (hG:Hold G w0) (x:aS) (cs:List ak) (hv:aZ G x.dat cs) (hne:Fy x) (hz:bM x.dat < n+1) :
  Calls prog 115 #[.agg cs.toArray] w0 (bB w0 G fun u G'=>∃ cs',u=.agg cs'.toArray∧aZ G' (nR x).dat cs'):=by
 have he:=tO x;have hl:=BD x.cells;obtain ⟨pA,pn,pc,dA,dn,dc,yA,yn,yc,fA,fn,fc,rfl,hh,hf⟩:=hv.row;rw [ael] at hne;refine eN [(0,_)] func115 rfl ntmps115 rfl rfl hG ?_;refine aj 1 ?_;intro a H;refine dN (cs:=[_,_,_,_,_,_]) H wn rfl rfl rfl ?_;clear H;intro b1 a w hb1 H;refine dx jw H wn rfl ?_;clear H;intro b2 a w hb2 H;refine aH 2 H ?_;clear H
 have dQ:∀ (bJ:Nat) (v:ak) (G G':GH),(∀ k o,G k=some o→G' k=some o)→(fun (bJ:Nat) (v:ak) (G:GH)=>match bJ with|0=>v=(aK b1 0)|1=>v=.agg #[.slice pA pn pc,vi x.head.marks.ins,vi x.head.marks.move,.slice dA dn dc,.slice yA yn yc]|2=>∃ p d l,v=.agg #[p,vi x.head.marks.ins,vi x.head.marks.move,d,l]∧gW G x.head p d l|3=>v=(aK b1 5)|4=>v=.slice fA fn fc|5=>ay G (.sl 7 (x.cells.map fun y=>(nC y).dat)) v|_=>True) bJ v G→(fun (bJ:Nat) (v:ak) (G:GH)=>match bJ with|0=>v=(aK b1 0)|1=>v=.agg #[.slice pA pn pc,vi x.head.marks.ins,vi x.head.marks.move,.slice dA dn dc,.slice yA yn yc]|2=>∃ p d l,v=.agg #[p,vi x.head.marks.ins,vi x.head.marks.move,d,l]∧gW G x.head p d l|3=>v=(aK b1 5)|4=>v=.slice fA fn fc|5=>ay G (.sl 7 (x.cells.map fun y=>(nC y).dat)) v|_=>True) bJ v G':=by
  intro bJ v G G' hm h
  match bJ,h with
  | 0,h=>exact h
  | 1,h=>exact h
  | 2,h=>exact let ⟨p,d,l,h1,h2⟩:=h;⟨p,d,l,h1,h2.mono hm⟩
  | 3,h=>exact h
  | 4,h=>exact h
  | 5,h=>exact ay.mono hm h
  | 6,h=>exact trivial
  | 7,h=>exact trivial
  | _+8,h=>exact trivial
 intro a H;refine Ar (hmx) [[],[0],[0,1],[],[3],(ra 0 5),(ra 0 6),(ra 0 7)] [6,7] (by kernel_rfl) (by kernel_rfl) (fun (bJ:Nat) (v:ak) (G:GH)=>match bJ with|0=>v=(aK b1 0)|1=>v=.agg #[.slice pA pn pc,vi x.head.marks.ins,vi x.head.marks.move,.slice dA dn dc,.slice yA yn yc]|2=>∃ p d l,v=.agg #[p,vi x.head.marks.ins,vi x.head.marks.move,d,l]∧gW G x.head p d l|3=>v=(aK b1 5)|4=>v=.slice fA fn fc|5=>ay G (.sl 7 (x.cells.map fun y=>(nC y).dat)) v|_=>True) dQ H ?_ ?_
 ·clear H;refine aF ?_ ?_ ?_ ?_ (aF ?_ ?_ (bS rfl) (bS rfl) cZ)
  ·refine dB [] rfl trivial (by kernel_rfl) dQ rfl rfl ?_;intro bN a w G1 hG HT H fin;exact kH H (Rf Jw rfl fun _ H=>fin H iJ rfl)
  ·refine dB [(0,3,_)] rfl ⟨fun _ _ h=>h,aY⟩ (by kernel_rfl) dQ rfl rfl ?_;intro bN a w G1 hG HT H fin;refine aT gG (cs:=[_,_,_,_,_]) H wn rfl rfl (H.hp.cO 1 rfl rfl) rfl ?_;clear H;intro a H;exact fin H iJ rfl
  ·refine dB [(1,4,_)] rfl ⟨fun _ _ h=>h,aY⟩ (by kernel_rfl) dQ rfl rfl ?_;intro bN a w G1 hG HT H fin;refine s_call GR H wn rfl (GL _ _ H.ro x.head _ _ _ _ _ _ _ _ _ (hh.mono hG) (by omega)) rfl ?_;clear H;rintro v5 G5 a w rC wU H;exact fin H wU (rC)
  ·refine dB [] rfl trivial (by kernel_rfl) dQ rfl rfl ?_;intro bN a w G1 hG HT H fin;exact kH H (Rf O5 rfl fun _ H=>fin H iJ rfl)
  ·refine dB [(3,6,_)] rfl ⟨fun _ _ h=>h,aY⟩ (by kernel_rfl) dQ rfl rfl ?_;intro bN a w G1 hG HT H fin;exact kH H (Ro RP 1 rfl fun _ H=>fin H iJ rfl)
  refine dB [(4,7,_)] rfl ⟨fun _ _ h=>h,aY⟩ (by kernel_rfl) dQ rfl rfl ?_;intro bN a w G1 hG HT H fin;refine s_call aaw H wn rfl (aaj nC _ _ H.ro x.cells _ _ (hf.mono hG) (by omega) (fun y hy=>arI ih hn y (aej hne.2 y hy) (by have:=Sj hy;omega))) rfl ?_;clear H;rintro v8 G8 a w mR pW H;exact fin H pW (mR)
 clear H;intro a w G nH H hv;obtain ⟨u5,Ih,rC⟩:=hv 2 5 (by decide) rfl;(try dsimp only at rC);obtain ⟨p5,d5,l5,rfl,yh⟩:=rC;obtain ⟨a1,a2,a3,rfl⟩:=yh.props.form;obtain ⟨a4,a5,a6,rfl⟩:=yh.bg.form;obtain ⟨a7,a8,a9,rfl⟩:=yh.layers.form;have H:=H.kI Ih;obtain ⟨u8,Bg,mR⟩:=hv 5 8 (by decide) rfl;(try dsimp only at mR);obtain ⟨A8,n8,c8,rfl⟩:=mR.form;have H:=H.kI Bg;clear hv;refine jZ XL [_,_,_,_,_,_] H wn rfl rfl rfl rfl ?_;clear H;intro a H;refine bq jw 0 (vs:=[_,_,_,_,_,_]) _ H wn rfl rfl rfl rfl rfl rfl rfl rfl ?_;clear H;intro w H;dsimp only [List.set,setRow] at H;refine aI ⟨rfl,?_⟩;refine dW ?_;refine dw ?_;refine (leave1 H results115 (.cons (xD jw (cs:=[_,_,_,_,_,_]) H rfl rfl (H.hp.cO 0 rfl rfl)) .nil) ?_).1;exact H.rt ⟨_,rfl,by rw [aee];exact aZ.QU (x:=.mk x.head (x.cells.map nC)) yh (by show ay _ (.sl 7 ((x.cells.map nC).map aR.dat)) _;rw [List.map_map];exact mR)⟩
theorem arK {n:Nat} (ih:GA n) (hn:n≤4294967296) {G:GH} {w0:World} (x:aS) (hne:Fy x) (hz:bM x.dat < n+1):C8 (.func (.func 115) #[] #[]) w0 G x.dat (nR x).dat:=by
 intro G1 w1 cs hm1 hG1 hr;have h:=arJ ih hn _ _ hG1 x cs hr hne hz;have h2:=jM (P:=prog) (caps:=[]) (args:=[.agg cs.toArray]) ajl h;exact h2
theorem joined {G:GH} {o:List av} {z y:av} {x0:List ak} {s p d q f r:ak} (hc:bV G 11 (o.map av.dat) x0) (hl:x0.length=o.length*11) (hh:gW G z.head p d q) (hf:ay G (.sl 11 (z.flow.map av.dat)) f) (hr:ay G (.sl 6 (z.rows.map aS.dat)) r) (hs:s=.string (z.text++y.text)) :
  bV G 11 ((o++[oI z y]).map av.dat) ((x0++[vi z.kind,vi z.code,vi z.id,.string z.text,p,vi z.head.marks.ins,vi z.head.marks.move,d,q,f,r]).set (((o++[z]).length - 1)*11+3) s):=by
 rw [lg,jc,List.length_singleton,Nat.add_sub_cancel,List.set_append_right _ _ (by omega),hl,Dh];refine hc.snoc ?_ rfl;rw [hs];exact aZ.mkItem (x:=oI z y) hh hf hr
theorem Ox {s:ByteArray} {k:Int} {n:Nat} (hk:k=1):(s.toList == (⟨#[]⟩:ByteArray).toList)=true↔(k=7∧n=0)∨(k=1∧s.size=0):=by
 rw [beq_iff_eq,ByteArray.toList_eq,ByteArray.toList_eq]
 constructor
 ·intro h;refine .inr ⟨hk,?_⟩;have:=aB List.length h
  simpa using this
 rintro (⟨h,-⟩|⟨-,h⟩)
 ·omega
 have:s.data.toList.length=0:=by simpa using h
 rw [List.length_eq_zero_iff.1 this]
theorem arL {n:Nat} (ih:GA n) (hn:n≤1073741824):GA (n+1):=by
  intro G w0 hG l v hv hne hz;obtain ⟨A,c,rfl,hc1,hc2,hg⟩:=hv.slice
  have hml:4294967297≤maxLen:=by decide
  have htl:lX l≤aX l:=RO l;have hll:l.length≤lX l:=QJ l;rw [bE] at *;refine eN [(0,_)] func62 rfl ntmps62 rfl rfl hG ?_;refine aj 13 ?_;intro a H;refine dD (ι:=Nat × ak × List ak × OL × GH) (Tc:=[(7,_),(8,_)]) (Lc:=[]) (fun gh=>[(3,gh.2.1),(9,vi gh.1)]) (fun gh=>[]++gh.2.2.2.1) (fun gh=>gh.2.2.2.2) (fun gh=>gh.1≤l.length∧cB 68 11 gh.2.1 (uP l gh.1).length gh.2.2.1 gh.2.2.2.1∧bV gh.2.2.2.2 11 ((uP l gh.1).map av.dat) gh.2.2.1∧(∀ b o,G b=some o→gh.2.2.2.2 b=some o)) (fun gh=>l.length - gh.1) ((0,.slice none 0 0,[],[],G)) sB ?_ ?_
  · exact ⟨by omega,cB.nil,bV.nil,fun _ _ h=>h⟩
  clear H;rintro ⟨k,v,xs,Lo,g⟩ a w hI H;dsimp only at hI H;obtain ⟨hk,hrw,eU,hgm⟩:=hI;have hol:=arU hk;obtain ⟨out,hout⟩:∃ o,o=uP l k:=⟨_,rfl⟩;rw [← hout] at hrw eU hol;dsimp only [lca,aQ] at H;refine cK 4 H ?_ ?_ <;> clear H
  · intro kE
    have hk2:k < l.length:=by omega
    have hos:=aeA hk2;have hot:=WU (l:=l) (k:=k) (by omega);have htt:=XW l (k+1);rw [gI hk2,IQ] at htt
    simp only [lX] at htt
    rw [← hout] at hos hot;obtain ⟨vA,vc,rfl,-,-⟩:=hrw.shape;obtain ⟨b,o,pA,pn,pc,dA,dn,dc,yA,yn,yc,fA,fn,fc,rA,rn,rc,rfl,hrow,hhd,hfl,hrs⟩:=AA hk2 hg;replace hrow:=fun j u hj=>aD hgm (hrow j u hj);have hnx:=aek hne _ (iq hk2);rw [arw] at hnx;obtain ⟨hnf,hnr⟩:=hnx;have hzi:=KE hk2;have hze:=pU l[k];have hrl:=BH l[k].rows
    have apq:∀ r∈l[k].rows.map nR,r.cells≠[]:=fun r hr=>by
      obtain ⟨x,hx,rfl⟩:=List.mem_map.1 hr;have h1:=WM hnr x hx;rw [ael] at h1;rw [aee];exact fun e=>h1.1 (List.map_eq_nil_iff.1 e)
    refine aj 5 ?_;intro a H;refine aT dU (cs:=[_,_,_,_,_,_,_,_,_,_,_]) H wn rfl rfl (fun j v hj=>H.hp.aC (hrow j v hj)) rfl ?_;clear H;intro a H;refine dx dU H wn rfl ?_;clear H;intro b5 a w hb5 H;refine bq dU 0 (vs:=[_,_,_,_,_,_,_,_,_,_,_]) _ H wn rfl rfl rfl rfl rfl rfl rfl rfl ?_;clear H;intro w H;dsimp only [List.set,setRow] at H;refine aH 3 H ?_;clear H;intro a H;refine aT gG (cs:=[_,_,_,_,_]) H wn rfl rfl (H.hp.cO 0 rfl rfl) rfl ?_;clear H;intro a H;refine s_call GR H wn rfl (GL _ _ H.ro _ _ _ _ _ _ _ _ _ _ (hhd.mono hgm) (by omega)) rfl ?_;clear H;rintro v15 Ey a w ⟨mE,d15,l15,rfl,JM⟩ tH H;obtain ⟨a1,a2,a3,rfl⟩:=JM.props.form;obtain ⟨a4,a5,a6,rfl⟩:=JM.bg.form;obtain ⟨a7,a8,a9,rfl⟩:=JM.layers.form;refine aH 1 H ?_;clear H;intro a H;refine bq gG 0 (vs:=[_,_,_,_,_]) _ H wn rfl rfl rfl rfl rfl rfl rfl rfl ?_;clear H;intro w H;dsimp only [List.set,setRow] at H;refine aH 4 H ?_;clear H;intro a H;refine s_call OY H wn rfl (ih _ _ H.ro l[k].flow _ (hfl.mono fun b o h=>tH b o (hgm b o h)) hnf (by omega)) rfl ?_;clear H;rintro v19 F9 a w acy oG H;obtain ⟨KF,n19,c19,rfl⟩:=acy.form;refine aH 1 H ?_;clear H;intro a H;refine bq zB 0 (vs:=[_]) _ H wn rfl rfl rfl rfl rfl rfl rfl rfl ?_;clear H;intro w H;dsimp only [List.set,setRow] at H;refine aH 4 H ?_;clear H;intro a H;refine s_call aan H wn rfl (aak nR _ _ H.ro l[k].rows _ _ (hrs.mono fun b o h=>oG b o (tH b o (hgm b o h))) (by omega) (fun x hx=>arK ih (by omega) x (WM hnr x hx) (by have:=Sk hx;omega))) rfl ?_;clear H;rintro v23 YG a w VK Fb H;rw [show (l[k].rows.map fun x=>(nR x).dat)=(l[k].rows.map nR).map aS.dat by rw [List.map_map];rfl] at VK;obtain ⟨A23,n23,c23,rfl⟩:=VK.form;refine s_call ajk H wn rfl (aiN _ _ H.ro (l[k].rows.map nR) _ VK apq) rfl ?_;clear H;rintro v24 Ez a w VL H7 H;obtain ⟨Sq,n24,c24,rfl⟩:=VL.form;have acs:=VL.len;rw [bE,bE] at acs;subst acs;refine aH 1 H ?_;clear H;intro a H;refine bq X6 0 (vs:=[_]) _ H wn rfl rfl rfl rfl rfl rfl rfl rfl ?_;clear H;intro w H;dsimp only [List.set,setRow] at H;refine aI ?_;refine dW ?_;obtain ⟨y,hy⟩:∃ y,y=nI l[k]:=⟨_,rfl⟩;have hye:=hy.trans (aed l[k])
    have hyk:y.kind=l[k].kind:=by rw [hye];rfl
    have Na:y.text=l[k].text:=by rw [hye];rfl
    have J4:y.head=l[k].head:=by rw [hye];rfl
    have Qx:y.rows.length=l[k].rows.length:=by rw [hye];simp [av.rows]
    rw [← hy] at hos;obtain ⟨TD,Qa⟩:∃ x,x=[vi l[k].kind,vi l[k].code,vi l[k].id,.string l[k].text,.slice a1 a2 a3,vi l[k].head.marks.ins,vi l[k].head.marks.move,.slice a4 a5 a6,.slice a7 a8 a9,.slice KF n19 c19,.slice Sq l[k].rows.length c24]:=⟨_,rfl⟩
    have acF:aZ Ez y.dat TD:=by
      rw [Qa,hye];exact aZ.mkItem (x:=.mk l[k].kind l[k].code l[k].id l[k].text l[k].head (jC l[k].flow) (l[k].rows.map nR)) (JM.mono fun b o h=>H7 b o (Fb b o (oG b o h))) (acy.mono fun b o h=>H7 b o (Fb b o h)) VL
    have P8:=eU.mono fun b o h=>H7 b o (Fb b o (oG b o (tH b o h)));have abW:∀ b o,G b=some o→Ez b=some o:=fun b o h=>H7 b o (Fb b o (oG b o (tH b o (hgm b o h))));refine dG 6 H ?_;clear H;intro a H;refine oQ (ι:=Bool) (Tc:=[(3,_),(5,_),(6,_),(7,_),(8,_),(9,_)]) (Lc:=[]) (fun gh=>[(32,.bool gh)]) (fun gh=>[(b5,.cells [vi l[k].kind,vi l[k].code,vi l[k].id,.string l[k].text,.slice a1 a2 a3,vi l[k].head.marks.ins,vi l[k].head.marks.move,.slice a4 a5 a6,.slice a7 a8 a9,.slice KF n19 c19,.slice Sq l[k].rows.length c24].toArray 68 (0,0))]++Lo) (fun gh=>Ez) (fun gh=>gh=true↔uD y) sB ?_ ?_
    · refine wT 5 36 H ?_ ?_ <;> clear H
      · intro p36
        refine gV 6 42 ?_ ?_
        · intro p42
          refine aj 10 ?_;intro a H;refine aI ?_;refine ⟨_,sB,?_⟩;rw [uD,hyk,Qx,Na]
          first
            | exact ⟨fun _=>.inl ⟨p36,by omega⟩,fun _=>by first|rfl|exact eZ p42⟩
            | exact ⟨fun h=>(by cases h),fun h=>(by exfalso;omega)⟩
            | exact Ox p46
            | fail
        intro p42
        refine gV 4 46 ?_ ?_
        · intro p46
          intro a H;exfalso;omega
        intro p46
        refine aj 6 ?_;intro a H;refine aI ?_;refine ⟨_,sB,?_⟩;rw [uD,hyk,Qx,Na]
        first
          | exact ⟨fun _=>.inl ⟨p36,by omega⟩,fun _=>by first|rfl|exact eZ p42⟩
          | exact ⟨fun h=>(by cases h),fun h=>(by exfalso;omega)⟩
          | exact Ox p46
          | fail
      intro p36
      refine aj 6 ?_;intro a H;refine IJ Cc H (wg H rfl rfl rfl) rfl rfl ?_;clear H;intro a H;refine iH bC H (wg H rfl rfl rfl) rfl (H.hp.qd 0 rfl rfl) rfl ?_;clear H;intro a H;refine Ej H (wg H rfl rfl rfl) rfl rfl rfl rfl ?_;clear H;intro a H;refine FK H (wg H rfl rfl rfl) rfl rfl ?_;clear H;refine iV 0 46 ?_ ?_
      · intro h46
        try have p46:=dT h46
        refine aj 2 ?_;intro a H;refine CQ H (wg H rfl rfl h46) rfl rfl rfl ?_;clear H;intro a H;refine Kr H (wg H rfl rfl rfl) rfl h46 rfl rfl ?_;clear H;refine aj 2 ?_;intro a H;refine aI ?_;refine ⟨_,sB,?_⟩;rw [uD,hyk,Qx,Na]
        first
          | exact ⟨fun _=>.inl ⟨p36,by omega⟩,fun _=>by first|rfl|exact eZ p42⟩
          | exact ⟨fun h=>(by cases h),fun h=>(by exfalso;omega)⟩
          | exact Ox p46
          | fail
      intro h46
      try have p46:=dF h46
      refine aj 3 ?_;intro a H;refine NA H (wg H rfl rfl rfl) rfl h46 rfl rfl ?_;clear H;refine aj 2 ?_;intro a H;refine aI ?_;refine ⟨_,sB,?_⟩;rw [uD,hyk,Qx,Na]
      first
        | exact ⟨fun _=>.inl ⟨p36,by omega⟩,fun _=>by first|rfl|exact eZ p42⟩
        | exact ⟨fun h=>(by cases h),fun h=>(by exfalso;omega)⟩
        | exact Ox p46
        | fail
    clear H;intro db a w hI H;dsimp only [lca,aQ] at H;refine cK 0 H ?_ ?_ <;> clear H
    · intro p32
      have hdp:=hI.1 (by assumption);rw [Oj hdp] at hos;refine aj 4 ?_;intro a H;refine aI ?_;refine bR ((k+1,_,xs,Lo,_)) (by exact (H.bY (Pl:=[_]) (bT:=[]) [] (by decide) rfl).sub ⟨rfl,rfl,rfl,rfl,aY⟩) ?_ ?_
      · (try dsimp only);exact ⟨by omega,by rw [hos];exact hrw,by rw [hos];exact P8,abW⟩
      first|omega|(dsimp only;omega)
    intro p32
    have hnd:¬ uD y:=fun h=>by have:=hI.2 h;simp_all
    obtain ⟨bo,pk,pt,pp,pd,pl,yx⟩:∃ (bo:Nat) (pk:cu × Int) (pt:ByteArray) (pp pd pl:ak),0 < (out.length:Int)→∃ (o:List av) (z:av) (x0:List ak) (f r:ak),out=o++[z]∧vA=some ⟨bo,0,none⟩∧pk=(z.head,z.kind)∧pt=z.text ∧
        xs=x0++[vi z.kind,vi z.code,vi z.id,.string z.text,pp,vi z.head.marks.ins,vi z.head.marks.move,pd,pl,f,r]∧x0.length=o.length*11∧bV Ez 11 (o.map av.dat) x0∧gW Ez z.head pp pd pl∧ay Ez (.sl 11 (z.flow.map av.dat)) f∧ay Ez (.sl 6 (z.rows.map aS.dat)) r ∧
        ∀ j u,[vi pk.2,vi z.code,vi z.id,.string pt,pp,vi pk.1.marks.ins,vi pk.1.marks.move,pd,pl][j]?=some u→xs[(out.length - 1)*11+j]?=some u:=by
      by_cases h0:0 < out.length
      · obtain ⟨bo,hbo⟩:=hrw.ptr h0;obtain ⟨o,z,e⟩:∃ o z,out=o++[z]:=⟨_,_,(List.dropLast_concat_getLast (fun e=>by rw [e] at h0;simp at h0)).symm⟩;rw [e,lg] at P8;obtain ⟨x0,cs,hxs,hc0,hrz,hcl,hxl⟩:=P8.auv;obtain ⟨qA,qn,qc,sA,sn,sc,tA,tn,tc,ES,EY,ET,rA2,rn2,rc2,rfl,hh,hf2,hr2⟩:=hrz.item;rw [bE] at hxl;refine ⟨bo,(z.head,z.kind),z.text,.slice qA qn qc,.slice sA sn sc,.slice tA tn tc,fun _=>⟨o,z,x0,_,_,e,hbo,rfl,rfl,hxs,hxl,hc0,hh,hf2,hr2,fun j u hj=>?_⟩⟩;rw [hxs,e,jc,List.length_singleton,Nat.add_sub_cancel,tZ (by omega),hxl,Dh];rw [← hj]
        match j,hj with
        | 0,hj=>rfl
        | 1,hj=>rfl
        | 2,hj=>rfl
        | 3,hj=>rfl
        | 4,hj=>rfl
        | 5,hj=>rfl
        | 6,hj=>rfl
        | 7,hj=>rfl
        | 8,hj=>rfl
        | _+9,hj=>simp at hj
      exact ⟨0,(⟨[],⟨0,0,[],[]⟩⟩,0),⟨#[]⟩,.slice none 0 0,.slice none 0 0,.slice none 0 0,fun h=>by omega⟩
    have M8:0 < (out.length:Int)→vA=some ⟨bo,0,none⟩:=fun h=>by obtain ⟨_,_,_,_,_,_,e,_⟩:=yx h;exact e
    intro a H;refine oQ (ι:=Bool × GH) (Tc:=[(3,_),(5,_),(6,_),(7,_),(8,_),(9,_)]) (Lc:=[]) (fun gh=>[(52,.bool gh.1)]) (fun gh=>[(b5,.cells [vi l[k].kind,vi l[k].code,vi l[k].id,.string l[k].text,.slice a1 a2 a3,vi l[k].head.marks.ins,vi l[k].head.marks.move,.slice a4 a5 a6,.slice a7 a8 a9,.slice KF n19 c19,.slice Sq l[k].rows.length c24].toArray 68 (0,0))]++Lo) (fun gh=>gh.2) (fun gh=>(gh.1=true→(l[k].kind=1∧0 < (out.length:Int)∧pk.2=1∧pk.1=l[k].head))∧(gh.1=false→uP l (k+1)=out++[y])∧(∀ b o,Ez b=some o→gh.2 b=some o)) sB ?_ ?_
    · skip
      by_cases c1:l[k].kind=1
      · skip
        by_cases c2:0 < (out.length:Int)
        · skip
          by_cases c3:pk.2=1
          · skip
            by_cases c4:pk.1=l[k].head
            · refine dI hmx [[],[0],[0,1],[0,1,2],(ra 0 4),(ra 0 5),(ra 0 6),(ra 0 7),(ra 0 8),(ra 0 8),(ra 0 8++[9]),(ra 0 11),(ra 0 12),(ra 0 13),(ra 0 14),(ra 0 15),(ra 0 16),(ra 0 17),(ra 0 17),(ra 0 17++[18]),(ra 0 20),(ra 0 21),(ra 0 22),(ra 0 17),(ra 0 17++[23]),(ra 0 25),(ra 0 26),(ra 0 27)] [] (by kernel_rfl) [_,vi l[k].kind,_,_,_,_,_,_,.slice (some ⟨bo,0,none⟩) out.length vc,_,vi ((out.length - 1:Nat):Int),_,_,vi pk.2,_,_,_,.slice (some ⟨bo,0,none⟩) out.length vc,_,vi ((out.length - 1:Nat):Int),_,_,uK pk.1 pp pd pl,_,uK l[k].head (.slice a1 a2 a3) (.slice a4 a5 a6) (.slice a7 a8 a9),.bool (decide (pk.1=l[k].head)),_,_] H (aF (Z0 rfl (Rf Cc rfl)) (Z1 0 53 rfl (Ro bC 0 rfl)) (Z1 1 54 rfl (Rc rfl)) (Z1 2 55 rfl (Rm rfl)) (aF (Z1 3 56 rfl (YM (aG c1) rfl)) (Z2 4 57 3 56 rfl (YC (aG c1) rfl)) (Z2 3 56 5 58 rfl (Pt (aG c1) rfl)) (Z1 6 59 rfl (Rm rfl)) (aF ?_ (Z1 7 60 rfl (YM (aG c2) rfl)) ?_ (Z3 8 61 10 63 7 60 rfl (YI rR dU (aG c2) rfl rfl)) (aF (Z2 11 64 7 60 rfl (YF Cc (aG c2) rfl)) ?_ (Z2 13 66 7 60 rfl (YC (aG c2) rfl)) (Z2 7 60 14 67 rfl (Pt (aG c2) rfl)) (aF (Z1 15 68 rfl (Rm rfl)) ?_ (Z1 16 69 rfl (YM (aG c3) rfl)) ?_ (aF (Z3 17 70 19 72 16 69 rfl (YI rR dU (aG c3) rfl rfl)) (Z2 20 73 16 69 rfl (YF DC (aG c3) rfl)) ?_ (Z1 16 69 rfl (YF DC (aG c3) rfl)) (aF ?_ ?_ (Z2 16 69 25 78 rfl (Pt (aG c3) rfl)) (Z1 26 79 rfl (Ra rfl)) cZ))))))) ?_
              · refine dM 7 60 rfl rfl fun _ a w G1 hG HT H fin=>?_;refine aH 1 H ?_;clear H;intro a H;exact fin H iJ (by show _=_;first|rfl|exact aB (fun A=>Value.slice A out.length vc) (M8 c2))
              · refine dP 9 62 7 60 rfl rfl fun _ a w G1 hG HT H fin=>?_;refine lC _ H (wg H rfl rfl (aG c2)) rfl rfl rfl (by omega) (by omega) rfl ?_;clear H;intro a H;exact fin H iJ (by show _=_;first|rfl|exact aB vi (by omega))
              · refine dP 12 65 7 60 rfl rfl fun _ a w G1 hG HT H fin=>?_;obtain ⟨_,_,_,_,_,_,rfl,_,_,_,_,_,_,_,_,hx⟩:=yx c2;refine iH bC H (wg H rfl rfl (aG c2)) rfl (hrw.at H.hp (fun x hx=>jT _ hx) (by rw [gX];exact hx 0 _ rfl)) rfl ?_;clear H;intro a H;exact fin H iJ rfl
              · refine dM 16 69 rfl rfl fun _ a w G1 hG HT H fin=>?_;refine aH 1 H ?_;clear H;intro a H;exact fin H iJ (by show _=_;first|rfl|exact aB (fun A=>Value.slice A out.length vc) (M8 c2))
              · refine dP 18 71 16 69 rfl rfl fun _ a w G1 hG HT H fin=>?_;refine lC _ H (wg H rfl rfl (aG c3)) rfl rfl rfl (by omega) (by omega) rfl ?_;clear H;intro a H;exact fin H iJ (by show _=_;first|rfl|exact aB vi (by omega))
              · refine dP 21 74 16 69 rfl rfl fun _ a w G1 hG HT H fin=>?_;obtain ⟨_,_,_,_,_,_,rfl,_,_,_,_,_,_,_,_,hx⟩:=yx c2
                refine aT gG (cs:=[pp,vi pk.1.marks.ins,vi pk.1.marks.move,pd,pl]) H (wg H rfl rfl (aG c3)) rfl rfl (fun j u hj=>hrw.at H.hp (fun x hx=>jT _ hx) (by
                    rw [gX,Nat.add_assoc];refine hx (4+j) u ?_
                    match j,hj with
                    | 0,hj=>exact hj
                    | 1,hj=>exact hj
                    | 2,hj=>exact hj
                    | 3,hj=>exact hj
                    | 4,hj=>exact hj)) rfl ?_;clear H;intro a H
                exact fin H iJ rfl
              · refine dP 23 76 16 69 rfl rfl fun _ a w G1 hG HT H fin=>?_;refine aT gG (cs:=[_,_,_,_,_]) H (wg H rfl rfl (aG c3)) rfl rfl (H.hp.cO 0 rfl rfl) rfl ?_;clear H;intro a H;exact fin H iJ rfl
              · refine tQ 22 75 24 77 16 69 rfl rfl fun _ a w G1 hG HT H fin=>?_;refine s_call Jt H (wg H rfl rfl (aG c3)) rfl (Jv _ _ H.ro pk.1 l[k].head _ _ _ _ _ _ (by obtain ⟨_,_,_,_,_,_,_,e,_,_,_,_,hh,_⟩:=yx c2;rw [e];exact hh.mono hG) (JM.mono fun b o h=>hG b o (H7 b o (Fb b o (oG b o h))))) rfl ?_;clear H;rintro v78 G78 a w rfl UR H;exact fin H UR (rfl)
              clear H;intro a w G lH H hv;have H:=H.aV (hv 27 52 rfl rfl) rfl;clear hv;refine aI ⟨rfl,?_⟩;refine ⟨(_,_),sB,?_⟩;(try dsimp only);refine ⟨fun h=>by first|exact absurd h (by decide)|exact ⟨c1,c2,c3,lQ h⟩,fun h=>?_,lH⟩
              first
                | exact absurd ((aG c4).symm.trans h) (by decide)
                | (rw [hos]
                   refine BM hnd fun o2 z2 e2 hj=>?_;rw [qH,hyk,J4] at hj;obtain ⟨j1,j2,j3⟩:=hj
                   first
                     | exact c1 j1
                     | (have c2':0 < (out.length:Int):=by rw [e2,jc,List.length_singleton];omega
                        obtain ⟨o,z,_,_,_,e,_,xU,_⟩:=yx c2';obtain ⟨-,ez⟩:=List.append_inj' (e2.symm.trans e) rfl
                        injection ez with ez
                        subst ez
                        first
                          | exact c2 c2'
                          | exact c3 (by rw [xU];exact j2)
                          | exact c4 (by rw [xU];exact j3)))
            refine dI hmx [[],[0],[0,1],[0,1,2],(ra 0 4),(ra 0 5),(ra 0 6),(ra 0 7),(ra 0 8),(ra 0 8),(ra 0 8++[9]),(ra 0 11),(ra 0 12),(ra 0 13),(ra 0 14),(ra 0 15),(ra 0 16),(ra 0 17),(ra 0 17),(ra 0 17++[18]),(ra 0 20),(ra 0 21),(ra 0 22),(ra 0 17),(ra 0 17++[23]),(ra 0 25),(ra 0 26),(ra 0 27)] [] (by kernel_rfl) [_,vi l[k].kind,_,_,_,_,_,_,.slice (some ⟨bo,0,none⟩) out.length vc,_,vi ((out.length - 1:Nat):Int),_,_,vi pk.2,_,_,_,.slice (some ⟨bo,0,none⟩) out.length vc,_,vi ((out.length - 1:Nat):Int),_,_,uK pk.1 pp pd pl,_,uK l[k].head (.slice a1 a2 a3) (.slice a4 a5 a6) (.slice a7 a8 a9),.bool (decide (pk.1=l[k].head)),_,_] H (aF (Z0 rfl (Rf Cc rfl)) (Z1 0 53 rfl (Ro bC 0 rfl)) (Z1 1 54 rfl (Rc rfl)) (Z1 2 55 rfl (Rm rfl)) (aF (Z1 3 56 rfl (YM (aG c1) rfl)) (Z2 4 57 3 56 rfl (YC (aG c1) rfl)) (Z2 3 56 5 58 rfl (Pt (aG c1) rfl)) (Z1 6 59 rfl (Rm rfl)) (aF ?_ (Z1 7 60 rfl (YM (aG c2) rfl)) ?_ (Z3 8 61 10 63 7 60 rfl (YI rR dU (aG c2) rfl rfl)) (aF (Z2 11 64 7 60 rfl (YF Cc (aG c2) rfl)) ?_ (Z2 13 66 7 60 rfl (YC (aG c2) rfl)) (Z2 7 60 14 67 rfl (Pt (aG c2) rfl)) (aF (Z1 15 68 rfl (Rm rfl)) ?_ (Z1 16 69 rfl (YM (aG c3) rfl)) ?_ (aF (Z3 17 70 19 72 16 69 rfl (YI rR dU (aG c3) rfl rfl)) (Z2 20 73 16 69 rfl (YF DC (aG c3) rfl)) ?_ (Z1 16 69 rfl (YF DC (aG c3) rfl)) (aF ?_ ?_ (Z2 16 69 25 78 rfl (Pt (aG c3) rfl)) (Z1 26 79 rfl (Ra rfl)) cZ))))))) ?_
            · refine dM 7 60 rfl rfl fun _ a w G1 hG HT H fin=>?_;refine aH 1 H ?_;clear H;intro a H;exact fin H iJ (by show _=_;first|rfl|exact aB (fun A=>Value.slice A out.length vc) (M8 c2))
            · refine dP 9 62 7 60 rfl rfl fun _ a w G1 hG HT H fin=>?_;refine lC _ H (wg H rfl rfl (aG c2)) rfl rfl rfl (by omega) (by omega) rfl ?_;clear H;intro a H;exact fin H iJ (by show _=_;first|rfl|exact aB vi (by omega))
            · refine dP 12 65 7 60 rfl rfl fun _ a w G1 hG HT H fin=>?_;obtain ⟨_,_,_,_,_,_,rfl,_,_,_,_,_,_,_,_,hx⟩:=yx c2;refine iH bC H (wg H rfl rfl (aG c2)) rfl (hrw.at H.hp (fun x hx=>jT _ hx) (by rw [gX];exact hx 0 _ rfl)) rfl ?_;clear H;intro a H;exact fin H iJ rfl
            · refine dM 16 69 rfl rfl fun _ a w G1 hG HT H fin=>?_;refine aH 1 H ?_;clear H;intro a H;exact fin H iJ (by show _=_;first|rfl|exact aB (fun A=>Value.slice A out.length vc) (M8 c2))
            · refine dP 18 71 16 69 rfl rfl fun _ a w G1 hG HT H fin=>?_;refine lC _ H (wg H rfl rfl (aG c3)) rfl rfl rfl (by omega) (by omega) rfl ?_;clear H;intro a H;exact fin H iJ (by show _=_;first|rfl|exact aB vi (by omega))
            · refine dP 21 74 16 69 rfl rfl fun _ a w G1 hG HT H fin=>?_;obtain ⟨_,_,_,_,_,_,rfl,_,_,_,_,_,_,_,_,hx⟩:=yx c2
              refine aT gG (cs:=[pp,vi pk.1.marks.ins,vi pk.1.marks.move,pd,pl]) H (wg H rfl rfl (aG c3)) rfl rfl (fun j u hj=>hrw.at H.hp (fun x hx=>jT _ hx) (by
                  rw [gX,Nat.add_assoc];refine hx (4+j) u ?_
                  match j,hj with
                  | 0,hj=>exact hj
                  | 1,hj=>exact hj
                  | 2,hj=>exact hj
                  | 3,hj=>exact hj
                  | 4,hj=>exact hj)) rfl ?_;clear H;intro a H
              exact fin H iJ rfl
            · refine dP 23 76 16 69 rfl rfl fun _ a w G1 hG HT H fin=>?_;refine aT gG (cs:=[_,_,_,_,_]) H (wg H rfl rfl (aG c3)) rfl rfl (H.hp.cO 0 rfl rfl) rfl ?_;clear H;intro a H;exact fin H iJ rfl
            · refine tQ 22 75 24 77 16 69 rfl rfl fun _ a w G1 hG HT H fin=>?_;refine s_call Jt H (wg H rfl rfl (aG c3)) rfl (Jv _ _ H.ro pk.1 l[k].head _ _ _ _ _ _ (by obtain ⟨_,_,_,_,_,_,_,e,_,_,_,_,hh,_⟩:=yx c2;rw [e];exact hh.mono hG) (JM.mono fun b o h=>hG b o (H7 b o (Fb b o (oG b o h))))) rfl ?_;clear H;rintro v78 G78 a w rfl UR H;exact fin H UR (rfl)
            clear H;intro a w G lH H hv;have H:=H.aV (hv 27 52 rfl rfl) rfl;clear hv;refine aI ⟨rfl,?_⟩;refine ⟨(_,_),sB,?_⟩;(try dsimp only);refine ⟨fun h=>by first|exact absurd h (by decide)|exact ⟨c1,c2,c3,lQ h⟩,fun h=>?_,lH⟩
            first
              | exact absurd ((aG c4).symm.trans h) (by decide)
              | (rw [hos]
                 refine BM hnd fun o2 z2 e2 hj=>?_;rw [qH,hyk,J4] at hj;obtain ⟨j1,j2,j3⟩:=hj
                 first
                   | exact c1 j1
                   | (have c2':0 < (out.length:Int):=by rw [e2,jc,List.length_singleton];omega
                      obtain ⟨o,z,_,_,_,e,_,xU,_⟩:=yx c2';obtain ⟨-,ez⟩:=List.append_inj' (e2.symm.trans e) rfl
                      injection ez with ez
                      subst ez
                      first
                        | exact c2 c2'
                        | exact c3 (by rw [xU];exact j2)
                        | exact c4 (by rw [xU];exact j3)))
          refine dI hmx [[],[0],[0,1],[0,1,2],(ra 0 4),(ra 0 5),(ra 0 6),(ra 0 7),(ra 0 8),(ra 0 8),(ra 0 8++[9]),(ra 0 11),(ra 0 12),(ra 0 13),(ra 0 14),(ra 0 15),(ra 0 16),(ra 0 17),(ra 0 17),(ra 0 17++[18]),(ra 0 20),(ra 0 21),(ra 0 22),(ra 0 17),(ra 0 17++[23]),(ra 0 25),(ra 0 26),(ra 0 27)] [] (by kernel_rfl) [_,vi l[k].kind,_,_,_,_,_,_,.slice (some ⟨bo,0,none⟩) out.length vc,_,vi ((out.length - 1:Nat):Int),_,_,vi pk.2,_,_,_,undef,undef,undef,undef,undef,undef,undef,undef,undef,_,_] H (aF (Z0 rfl (Rf Cc rfl)) (Z1 0 53 rfl (Ro bC 0 rfl)) (Z1 1 54 rfl (Rc rfl)) (Z1 2 55 rfl (Rm rfl)) (aF (Z1 3 56 rfl (YM (aG c1) rfl)) (Z2 4 57 3 56 rfl (YC (aG c1) rfl)) (Z2 3 56 5 58 rfl (Pt (aG c1) rfl)) (Z1 6 59 rfl (Rm rfl)) (aF ?_ (Z1 7 60 rfl (YM (aG c2) rfl)) ?_ (Z3 8 61 10 63 7 60 rfl (YI rR dU (aG c2) rfl rfl)) (aF (Z2 11 64 7 60 rfl (YF Cc (aG c2) rfl)) ?_ (Z2 13 66 7 60 rfl (YC (aG c2) rfl)) (Z2 7 60 14 67 rfl (Pt (aG c2) rfl)) (aF (Z1 15 68 rfl (Rm rfl)) (aO 16 (aN c3) rfl rfl) (aO 16 (aN c3) rfl rfl) (aO 16 (aN c3) rfl rfl) (aF (aO 16 (aN c3) rfl rfl) (aO 16 (aN c3) rfl rfl) (aO 16 (aN c3) rfl rfl) (aO 16 (aN c3) rfl rfl) (aF (aO 16 (aN c3) rfl rfl) (aO 16 (aN c3) rfl rfl) (Z2 16 69 25 78 rfl (Pf (aN c3) rfl)) (Z1 26 79 rfl (Ra rfl)) cZ))))))) ?_
          · refine dM 7 60 rfl rfl fun _ a w G1 hG HT H fin=>?_;refine aH 1 H ?_;clear H;intro a H;exact fin H iJ (by show _=_;first|rfl|exact aB (fun A=>Value.slice A out.length vc) (M8 c2))
          · refine dP 9 62 7 60 rfl rfl fun _ a w G1 hG HT H fin=>?_;refine lC _ H (wg H rfl rfl (aG c2)) rfl rfl rfl (by omega) (by omega) rfl ?_;clear H;intro a H;exact fin H iJ (by show _=_;first|rfl|exact aB vi (by omega))
          · refine dP 12 65 7 60 rfl rfl fun _ a w G1 hG HT H fin=>?_;obtain ⟨_,_,_,_,_,_,rfl,_,_,_,_,_,_,_,_,hx⟩:=yx c2;refine iH bC H (wg H rfl rfl (aG c2)) rfl (hrw.at H.hp (fun x hx=>jT _ hx) (by rw [gX];exact hx 0 _ rfl)) rfl ?_;clear H;intro a H;exact fin H iJ rfl
          clear H;intro a w G lH H hv;have H:=H.aV (hv 27 52 rfl rfl) rfl;clear hv;refine aI ⟨rfl,?_⟩;refine ⟨(_,_),sB,?_⟩;(try dsimp only);refine ⟨fun h=>by first|exact absurd h (by decide)|exact ⟨c1,c2,c3,lQ h⟩,fun h=>?_,lH⟩
          first
            | exact absurd ((aG c4).symm.trans h) (by decide)
            | (rw [hos]
               refine BM hnd fun o2 z2 e2 hj=>?_;rw [qH,hyk,J4] at hj;obtain ⟨j1,j2,j3⟩:=hj
               first
                 | exact c1 j1
                 | (have c2':0 < (out.length:Int):=by rw [e2,jc,List.length_singleton];omega
                    obtain ⟨o,z,_,_,_,e,_,xU,_⟩:=yx c2';obtain ⟨-,ez⟩:=List.append_inj' (e2.symm.trans e) rfl
                    injection ez with ez
                    subst ez
                    first
                      | exact c2 c2'
                      | exact c3 (by rw [xU];exact j2)
                      | exact c4 (by rw [xU];exact j3)))
        refine dI hmx [[],[0],[0,1],[0,1,2],(ra 0 4),(ra 0 5),(ra 0 6),(ra 0 7),(ra 0 8),(ra 0 8),(ra 0 8++[9]),(ra 0 11),(ra 0 12),(ra 0 13),(ra 0 14),(ra 0 15),(ra 0 16),(ra 0 17),(ra 0 17),(ra 0 17++[18]),(ra 0 20),(ra 0 21),(ra 0 22),(ra 0 17),(ra 0 17++[23]),(ra 0 25),(ra 0 26),(ra 0 27)] [] (by kernel_rfl) [_,vi l[k].kind,_,_,_,_,_,_,undef,undef,undef,undef,undef,undef,undef,_,_,undef,undef,undef,undef,undef,undef,undef,undef,undef,_,_] H (aF (Z0 rfl (Rf Cc rfl)) (Z1 0 53 rfl (Ro bC 0 rfl)) (Z1 1 54 rfl (Rc rfl)) (Z1 2 55 rfl (Rm rfl)) (aF (Z1 3 56 rfl (YM (aG c1) rfl)) (Z2 4 57 3 56 rfl (YC (aG c1) rfl)) (Z2 3 56 5 58 rfl (Pt (aG c1) rfl)) (Z1 6 59 rfl (Rm rfl)) (aF (aO 7 (aN c2) rfl rfl) (aO 7 (aN c2) rfl rfl) (aO 7 (aN c2) rfl rfl) (aO 7 (aN c2) rfl rfl) (aF (aO 7 (aN c2) rfl rfl) (aO 7 (aN c2) rfl rfl) (aO 7 (aN c2) rfl rfl) (Z2 7 60 14 67 rfl (Pf (aN c2) rfl)) (aF (Z1 15 68 rfl (Rm rfl)) (aO 16 rfl rfl rfl) (aO 16 rfl rfl rfl) (aO 16 rfl rfl rfl) (aF (aO 16 rfl rfl rfl) (aO 16 rfl rfl rfl) (aO 16 rfl rfl rfl) (aO 16 rfl rfl rfl) (aF (aO 16 rfl rfl rfl) (aO 16 rfl rfl rfl) (Z2 16 69 25 78 rfl (Pf rfl rfl)) (Z1 26 79 rfl (Ra rfl)) cZ))))))) ?_
        clear H;intro a w G lH H hv;have H:=H.aV (hv 27 52 rfl rfl) rfl;clear hv;refine aI ⟨rfl,?_⟩;refine ⟨(_,_),sB,?_⟩;(try dsimp only);refine ⟨fun h=>by first|exact absurd h (by decide)|exact ⟨c1,c2,c3,lQ h⟩,fun h=>?_,lH⟩
        first
          | exact absurd ((aG c4).symm.trans h) (by decide)
          | (rw [hos]
             refine BM hnd fun o2 z2 e2 hj=>?_;rw [qH,hyk,J4] at hj;obtain ⟨j1,j2,j3⟩:=hj
             first
               | exact c1 j1
               | (have c2':0 < (out.length:Int):=by rw [e2,jc,List.length_singleton];omega
                  obtain ⟨o,z,_,_,_,e,_,xU,_⟩:=yx c2';obtain ⟨-,ez⟩:=List.append_inj' (e2.symm.trans e) rfl
                  injection ez with ez
                  subst ez
                  first
                    | exact c2 c2'
                    | exact c3 (by rw [xU];exact j2)
                    | exact c4 (by rw [xU];exact j3)))
      refine dI hmx [[],[0],[0,1],[0,1,2],(ra 0 4),(ra 0 5),(ra 0 6),(ra 0 7),(ra 0 8),(ra 0 8),(ra 0 8++[9]),(ra 0 11),(ra 0 12),(ra 0 13),(ra 0 14),(ra 0 15),(ra 0 16),(ra 0 17),(ra 0 17),(ra 0 17++[18]),(ra 0 20),(ra 0 21),(ra 0 22),(ra 0 17),(ra 0 17++[23]),(ra 0 25),(ra 0 26),(ra 0 27)] [] (by kernel_rfl) [_,vi l[k].kind,_,_,undef,undef,_,_,undef,undef,undef,undef,undef,undef,undef,_,_,undef,undef,undef,undef,undef,undef,undef,undef,undef,_,_] H (aF (Z0 rfl (Rf Cc rfl)) (Z1 0 53 rfl (Ro bC 0 rfl)) (Z1 1 54 rfl (Rc rfl)) (Z1 2 55 rfl (Rm rfl)) (aF (aO 3 (aN c1) rfl rfl) (aO 3 (aN c1) rfl rfl) (Z2 3 56 5 58 rfl (Pf (aN c1) rfl)) (Z1 6 59 rfl (Rm rfl)) (aF (aO 7 rfl rfl rfl) (aO 7 rfl rfl rfl) (aO 7 rfl rfl rfl) (aO 7 rfl rfl rfl) (aF (aO 7 rfl rfl rfl) (aO 7 rfl rfl rfl) (aO 7 rfl rfl rfl) (Z2 7 60 14 67 rfl (Pf rfl rfl)) (aF (Z1 15 68 rfl (Rm rfl)) (aO 16 rfl rfl rfl) (aO 16 rfl rfl rfl) (aO 16 rfl rfl rfl) (aF (aO 16 rfl rfl rfl) (aO 16 rfl rfl rfl) (aO 16 rfl rfl rfl) (aO 16 rfl rfl rfl) (aF (aO 16 rfl rfl rfl) (aO 16 rfl rfl rfl) (Z2 16 69 25 78 rfl (Pf rfl rfl)) (Z1 26 79 rfl (Ra rfl)) cZ))))))) ?_
      clear H;intro a w G lH H hv;have H:=H.aV (hv 27 52 rfl rfl) rfl;clear hv;refine aI ⟨rfl,?_⟩;refine ⟨(_,_),sB,?_⟩;(try dsimp only);refine ⟨fun h=>by first|exact absurd h (by decide)|exact ⟨c1,c2,c3,lQ h⟩,fun h=>?_,lH⟩
      first
        | exact absurd ((aG c4).symm.trans h) (by decide)
        | (rw [hos]
           refine BM hnd fun o2 z2 e2 hj=>?_;rw [qH,hyk,J4] at hj;obtain ⟨j1,j2,j3⟩:=hj
           first
             | exact c1 j1
             | (have c2':0 < (out.length:Int):=by rw [e2,jc,List.length_singleton];omega
                obtain ⟨o,z,_,_,_,e,_,xU,_⟩:=yx c2';obtain ⟨-,ez⟩:=List.append_inj' (e2.symm.trans e) rfl
                injection ez with ez
                subst ez
                first
                  | exact c2 c2'
                  | exact c3 (by rw [xU];exact j2)
                  | exact c4 (by rw [xU];exact j3)))
    clear H;rintro ⟨jb,g9⟩ a w hI H;dsimp only at hI H;obtain ⟨hjy,hjn,uL⟩:=hI;have aog:=P8.mono uL;have Ie:=acF.mono uL;have abX:∀ b o,G b=some o→g9 b=some o:=fun b o h=>uL b o (abW b o h);dsimp only [lca,aQ] at H;refine cK 0 H ?_ ?_ <;> clear H
    · intro p52
      obtain ⟨c1,c2,c3,c4⟩:=hjy (by assumption);obtain ⟨oo,z,x0,zf,zr,Qm,rfl,rfl,rfl,hxs,hxl,hc0,hhz,hfz,hrz,hxj⟩:=yx c2
      have hzt:z.text.size≤lX out:=by
        rw [Qm,IQ];simp only [lX];omega
      obtain ⟨cur,-,rfl,hcur,hset⟩:=hrw.set1;intro a H;refine dI hmx [[],[],[1],[0,1,2],(ra 0 4),(ra 0 5),[],[6],(ra 0 8),(ra 0 9),(ra 0 10),(ra 0 11)] [9,10,11] (by kernel_rfl) [_,_,vi ((out.length - 1:Nat):Int),_,_,.string z.text,_,.string l[k].text,.string (z.text++l[k].text)] H (aF (Z0 rfl (Rm rfl)) (Z0 rfl (Rm rfl)) ?_ (Z2 0 80 2 82 rfl (Ri rR dU rfl rfl)) (aF (Z1 3 83 rfl (Rf O7 rfl)) ?_ (Z0 rfl (Rf O7 rfl)) (Z1 6 86 rfl (Ro lY 0 rfl)) (aF ?_ (bS rfl) (bS rfl) (bS rfl) cZ))) ?_
      · refine dM 1 81 rfl rfl fun _ a w G1 hG HT H fin=>?_;refine aH 1 H ?_;clear H;intro a H;exact fin H iJ (by show _=_;first|rfl|exact aB vi (by omega))
      · refine dM 4 84 rfl rfl fun _ a w G1 hG HT H fin=>?_;refine iH lY H wn rfl (hrw.at H.hp (fun x hx=>jT _ hx) (by rw [gX];exact hxj 3 _ rfl)) rfl ?_;clear H;intro a H;exact fin H iJ rfl
      · refine dP 5 85 7 87 rfl rfl fun _ a w G1 hG HT H fin=>?_;refine atx H wn rfl rfl (by omega) rfl ?_;clear H;intro a H;exact fin H iJ rfl
      clear H;intro a w G oD H hv;have H:=H.aV (hv 0 80 rfl rfl) rfl;have H:=H.aV (hv 2 82 rfl rfl) rfl;have H:=H.aV (hv 8 88 rfl rfl) rfl;clear hv;refine kH H (Ri rR dU rfl rfl (Rf O7 rfl ?_));clear H;intro a H;refine bq lY 1 (c:=cur) (vs:=[.string (z.text++l[k].text)]) (cur.set ((out.length - 1)*11+3) (.string (z.text++l[k].text))) H wn rfl rfl rfl rfl rfl rfl (by simp;omega) (by rw [gX];rfl) ?_;clear H;intro w H;dsimp only [List.set] at H;have apA:=hset ((out.length - 1)*11+3) (.string (z.text++l[k].text))
      have hnj:uP l (k+1)=oo++[oI z y]:=by rw [hos,Qm];exact Lm hnd ⟨by rw [hyk];exact c1,c3,by rw [J4];exact c4⟩
      refine aI ⟨rfl,?_⟩;refine dW ?_;refine dG 3 H ?_;clear H;intro a H;refine aI ?_;refine bR ((k+1,_,xs.set ((out.length - 1)*11+3) (.string (z.text++l[k].text)),_,_)) (by exact (H.bY (Pl:=[_]) (bT:=[]) [] (by decide) rfl).sub ⟨rfl,rfl,rfl,rfl,aY⟩) ?_ ?_
      · (try dsimp only);exact ⟨by omega,by rw [hnj,show (oo++[oI z y]).length=out.length by rw [Qm];simp];exact apA,by rw [hnj,hxs,Qm];exact joined (hc0.mono fun b o h=>oD b o (uL b o h)) hxl (hhz.mono fun b o h=>oD b o (uL b o h)) (hfz.mono fun b o h=>oD b o (uL b o h)) (hrz.mono fun b o h=>oD b o (uL b o h)) (by rw [Na]),fun b o h=>oD b o (abX b o h)⟩
      first|omega|(dsimp only;omega)
    intro p52
    have hnx:=hjn (by assumption);refine aj 2 ?_;intro a H;refine aT dU (cs:=[_,_,_,_,_,_,_,_,_,_,_]) H wn rfl rfl (H.hp.cO 0 rfl rfl) rfl ?_;clear H;intro a H;refine iy rR dU [_,_,_,_,_,_,_,_,_,_,_] [_,_,_,_,_,_,_,_,_,_,_] H wn rfl rfl rfl rfl rfl (by intro i q h;match i,h with|0,h=>exact h|n+1,h=>simp at h) rfl rfl ?_;clear H;intro b30 a w awo H;refine oK (Li:=[_,_]) (Lo:=Lo) (news:=TD) rR dU rfl rfl H wn rfl rfl hrw (by rw [Qa];rfl) (by rw [Qa];exact H.hp.cO 0 rfl rfl) acF.one (by omega) (by omega) rfl ?_;clear H;intro v31 agK a w apu H;refine aH 5 H ?_;clear H;intro a H;refine aI ?_;refine bR ((k+1,v31,xs++TD,agK,_)) (by exact (H.bY (Pl:=[_,_]) (bT:=[]) [] (by decide) rfl).sub ⟨rfl,rfl,rfl,rfl,aY⟩) ?_ ?_
    · (try dsimp only);exact ⟨by omega,by rw [hnx,jc];exact apu,by rw [hnx,lg];exact (aog.snoc Ie (by rw [Qa];rfl)),abX⟩
    first|omega|(dsimp only;omega)
  intro kE
  refine aj 1 ?_
  obtain rfl:k=l.length:=by omega
  intro a H;obtain ⟨G',hm,hrep,H⟩:=H.vI (Li:=[]) hrw (rows:=out.map av.dat) (by simp) eU;refine wS 4 H ?_;rw [jC,← hout];exact hrep
theorem aeo:∀ n:Nat,n≤1073741825→GA n
 | 0,_=>fun _ _ _ _ _ _ _ h=>absurd h (by omega)
 | n+1,hn=>arL (aeo n (by omega)) (by omega)
theorem aep (G:GH) (w0:World) (hG:Hold G w0) (l:List av) (v:ak) (hv:ay G (.sl 11 (l.map av.dat)) v) (hne:vU l) (hz:aX l≤1073741824) :
  Calls prog 62 #[v] w0 (bB w0 G fun u G'=>ay G' (.sl 11 ((jC l).map av.dat)) u):=aeo 1073741825 (by omega) G w0 hG l v hv hne (by omega)
end
section
open Go.RowKit
section
variable {N:Nat} {D:List Deferred} {w0:World} {F:Nat→Prop} {G0 G:GH} {L:OL} {T:List (Nat × ak)}
variable {r:Option Nat} {P:Program} {ops:Array Oper} {Q:Exit→Act→World→Prop} {rest:List Oper} {a:Act} {w:World}
variable {d:Nat} {ty:TypeId} {pos:String} {aP:Array Edge} {g:Option (Nat × Bool)}
end
end
section
open Go.RowKit
def adG:Go.Shelf.Ren:=⟨fun|7=>59|10=>111|n=>n,fun|0=>0|3=>4|4=>4|23=>96|26=>3|27=>118|28=>119|33=>172|n=>n,fun n=>n⟩
theorem adF:Go.Proofs.SlLaysZI.n7 prog adG where
 mixed:=by kernel_rfl
 f7:=⟨f59.name,by kernel_rfl,func59.trans (aB some (by kernel_rfl))⟩
 f10:=⟨f111.name,by kernel_rfl,func111.trans (aB some (by kernel_rfl))⟩
 t0:=underlying0
 a0:=isAgg0
 z0:=sizeOf0
 v0:=zeroValue0
 t4:=underlying4
 a4:=isAgg4
 z4:=sizeOf4
 v4:=zeroValue4
 t23:=underlying96
 a23:=isAgg96
 z23:=sizeOf96
 v23:=zeroValue96
 t26:=underlying3
 a26:=isAgg3
 z26:=sizeOf3
 v26:=zeroValue3
 t27:=underlying118
 a27:=isAgg118
 z27:=sizeOf118
 v27:=zeroValue118
 t28:=underlying119
 a28:=isAgg119
 z28:=sizeOf119
 v28:=zeroValue119
 t33:=underlying172
 a33:=isAgg172
 z33:=sizeOf172
 v33:=zeroValue172
def afn:Go.Shelf.Ren:=⟨fun|6=>58|8=>109|9=>110|11=>165|n=>n,fun|0=>0|24=>52|26=>3|28=>119|33=>172|n=>n,fun n=>n⟩
theorem auy:Go.Proofs.SlLaysZI.n6 prog afn where
 mixed:=by kernel_rfl
 f6:=⟨f58.name,by kernel_rfl,func58.trans (aB some (by kernel_rfl))⟩
 f8:=⟨f109.name,by kernel_rfl,func109.trans (aB some (by kernel_rfl))⟩
 f11:=⟨f165.name,by kernel_rfl,func165.trans (aB some (by kernel_rfl))⟩
 t0:=underlying0
 a0:=isAgg0
 z0:=sizeOf0
 v0:=zeroValue0
 t24:=underlying52
 a24:=isAgg52
 z24:=sizeOf52
 v24:=zeroValue52
 t26:=underlying3
 a26:=isAgg3
 z26:=sizeOf3
 v26:=zeroValue3
 t28:=underlying119
 a28:=isAgg119
 z28:=sizeOf119
 v28:=zeroValue119
 i26:=by kernel_rfl
def auw:Go.Shelf.Ren:=⟨fun|5=>110|7=>166|8=>167|10=>207|11=>208|12=>209|13=>210|14=>211|15=>212|16=>118|17=>213|18=>214|19=>215|20=>216|30=>228|31=>229|32=>230|33=>231|34=>232|35=>173|40=>237|n=>n,fun|0=>0|3=>3|4=>4|5=>5|9=>9|22=>52|23=>52|25=>3|32=>65|35=>268|36=>269|41=>128|44=>275|46=>62|53=>293|57=>79|63=>302|64=>303|n=>n,fun n=>n⟩
theorem afm:Go.Proofs.SlLaysM.n5 prog auw where
 mixed:=by kernel_rfl
 f5:=⟨f110.name,by kernel_rfl,func110.trans (aB some (by kernel_rfl))⟩
 f7:=⟨f166.name,by kernel_rfl,func166.trans (aB some (by kernel_rfl))⟩
 f8:=func167.trans (aB some (by kernel_rfl))
 f10:=⟨f207.name,by kernel_rfl,func207.trans (aB some (by kernel_rfl))⟩
 f11:=⟨f208.name,by kernel_rfl,func208.trans (aB some (by kernel_rfl))⟩
 f12:=⟨f209.name,by kernel_rfl,func209.trans (aB some (by kernel_rfl))⟩
 f13:=⟨f210.name,by kernel_rfl,func210.trans (aB some (by kernel_rfl))⟩
 f14:=⟨f211.name,by kernel_rfl,func211.trans (aB some (by kernel_rfl))⟩
 f15:=⟨f212.name,by kernel_rfl,func212.trans (aB some (by kernel_rfl))⟩
 f16:=⟨f118.name,by kernel_rfl,func118.trans (aB some (by kernel_rfl))⟩
 f17:=⟨f213.name,by kernel_rfl,func213.trans (aB some (by kernel_rfl))⟩
 f18:=⟨f214.name,by kernel_rfl,func214.trans (aB some (by kernel_rfl))⟩
 f19:=func215.trans (aB some (by kernel_rfl))
 f20:=func216.trans (aB some (by kernel_rfl))
 f30:=⟨f228.name,by kernel_rfl,func228.trans (aB some (by kernel_rfl))⟩
 f31:=func229.trans (aB some (by kernel_rfl))
 f32:=func230.trans (aB some (by kernel_rfl))
 f33:=⟨f231.name,by kernel_rfl,func231.trans (aB some (by kernel_rfl))⟩
 f34:=⟨f232.name,by kernel_rfl,func232.trans (aB some (by kernel_rfl))⟩
 f35:=⟨f173.name,by kernel_rfl,func173.trans (aB some (by kernel_rfl))⟩
 f40:=⟨f237.name,by kernel_rfl,func237.trans (aB some (by kernel_rfl))⟩
 t0:=underlying0
 a0:=isAgg0
 z0:=sizeOf0
 v0:=zeroValue0
 t3:=underlying3
 a3:=isAgg3
 z3:=sizeOf3
 v3:=zeroValue3
 t4:=underlying4
 a4:=isAgg4
 z4:=sizeOf4
 v4:=zeroValue4
 t5:=underlying5
 a5:=isAgg5
 z5:=sizeOf5
 v5:=zeroValue5
 t9:=underlying9
 a9:=isAgg9
 z9:=sizeOf9
 v9:=zeroValue9
 t22:=underlying52
 a22:=isAgg52
 z22:=sizeOf52
 v22:=zeroValue52
 t23:=underlying52
 a23:=isAgg52
 z23:=sizeOf52
 v23:=zeroValue52
 t25:=underlying3
 a25:=isAgg3
 z25:=sizeOf3
 v25:=zeroValue3
 t32:=underlying65
 a32:=isAgg65
 z32:=sizeOf65
 v32:=zeroValue65
 t35:=underlying268
 a35:=isAgg268
 z35:=sizeOf268
 v35:=zeroValue268
 t36:=underlying269
 a36:=isAgg269
 z36:=sizeOf269
 v36:=zeroValue269
 t41:=underlying128
 a41:=isAgg128
 z41:=sizeOf128
 v41:=zeroValue128
 t44:=underlying275
 a44:=isAgg275
 z44:=sizeOf275
 v44:=zeroValue275
 t46:=underlying62
 a46:=isAgg62
 z46:=sizeOf62
 v46:=zeroValue62
 t53:=underlying293
 a53:=isAgg293
 z53:=sizeOf293
 v53:=zeroValue293
 t57:=underlying79
 a57:=isAgg79
 z57:=sizeOf79
 v57:=zeroValue79
 t63:=underlying302
 a63:=isAgg302
 z63:=sizeOf302
 v63:=zeroValue302
 t64:=underlying303
 a64:=isAgg303
 z64:=sizeOf303
 v64:=zeroValue303
end
section
open Go.RowKit Go.Maps
theorem aji:∀ args w,(callFunc 110 args).run prog w=.ok (.enter 110 args) w:=enters func110 rfl (by kernel_rfl)
theorem ajj:∀ args w,(callFunc 111 args).run prog w=.ok (.enter 111 args) w:=enters func111 rfl (by kernel_rfl)
theorem apd {G:GH} {w:World} (h:Hold G w) {b:Nat} (hb:w.heap.size≤b):G b=none:=by
 cases hg:G b with
 | none=>rfl
 | some o=>exact absurd (lt_of_heap (h b o hg)) (by omega)
theorem aaR {G:GH} {w w':World} (h:Hold G w) (hb:Below w.heap.size w w') {b:Nat} {o:Obj} (hn:w.heap.size≤b) (ho:w'.heap[b]?=some o):Ext w.heap.size G (G.add b o) w':=by
 refine ⟨fun k o' hk=>GH.EG G (apd h hn) k o' hk,fun k o' hk=>?_,fun k o' hk=>?_⟩
 ·unfold GH.add at hk
  split at hk
  ·rename_i e;exact .inr (e ▸ hn)
  exact .inl hk
 unfold GH.add at hk
 split at hk
 ·rename_i e;rw [e,ho,hk]
 exact (hb.block k (lt_of_heap (h k o' hk))).trans (h k o' hk)
theorem ard (G:GH) (w0:World) (hG:Hold G w0) (mb:Option Nat) :
  Calls prog 59 #[.map mb] w0 (bB w0 G fun u G'=>∃ bx,u=.func (.func 111) #[] #[(aK bx 0)]∧G' bx=some (.cells #[.map mb] 96 (0,0))):=by
 have h:CallsIn Fence.wide 5 prog 59 #[.map mb] w0 fun e w'=>e=.returned (.func (.func 111) #[] #[(aK w0.heap.size 0)])∧w'=w0.alloc (.cells #[.map mb] 96):=AnyZI.keys_in adF Fence.wide 5 trivial rfl mb w0;refine ((callsIn_wide (n:=5)).1 h).mono ?_;rintro e w' ⟨rfl,rfl⟩;have hb:Below w0.heap.size w0 (w0.alloc (.cells #[.map mb] 96)):=(Below.refl _ w0).alloc (bX _) _;exact ⟨_,_,rfl,hb,aaR hG hb (bX _) (show (w0.heap.push _)[w0.heap.size]?=_ by simp),_,rfl,GH.EH _ _ _⟩
def IG (_:ak):Option (DataW Unit × List MemPlace):=some (.nil,[])
theorem arX {w:World} {b clock:Nat} {es:Array MapEntry} {l:List Int} (hb:w.heap[b]?=some (.map es clock)) (hs:MapKept.Stamped es clock) (hk:es.toList.map (·.key)=l.map (Value.int .i64)) (hw:∀ k∈l,-9223372036854775808≤k∧k < 9223372036854775808) (hl:l.length≤4294967296) :
  ∃ D:DataW Unit,w.ownsMap prog 3 IG b l.length D∧(intKeys D).Perm l∧Maps.size D=l.length:=by
 have hlen:es.size=l.length:=by
  have:=aB List.length hk
  simpa using this
 have hml:maxLen=9223372036854775807:=rfl
 have hr:∀ x∈es.toList,∃ k∈l,Go.WideElems.rd prog 3 IG x=some (.int .i64 k,.nil):=by
  intro x hx
  have h1:x.key∈l.map (Value.int .i64):=by rw [← hk];exact List.mem_map_of_mem hx
  obtain ⟨k,h2,h3⟩:=List.mem_map.1 h1;obtain ⟨h4,h5⟩:=hw k h2
  have hwf:(Lit.int .i64 k).wf=true:=by
   show (decide (IntKind.i64.min≤k) && decide (k≤IntKind.i64.max))=true
   rw [show IntKind.i64.min=-9223372036854775808 by decide,show IntKind.i64.max=9223372036854775807 by decide]
   simp;omega
  refine ⟨k,h2,?_⟩
  unfold Go.WideElems.rd
  rw [← h3]
  have h6:keyOf prog 3 (.int .i64 k)=some (.int .i64 k):=by
   unfold keyOf mapKey
   rw [underlying3]
   simp [hwf]
  rw [h6]
  rfl
 refine ⟨_,⟨es,clock,hb,⟨by omega,hs,fun x hx=>?_⟩,by omega,rfl⟩,?_,?_⟩
 ·obtain ⟨k,-,h⟩:=hr x hx;exact ⟨_,h⟩
 ·show (((es.toList.map (Go.WideElems.rg prog 3 IG)).foldr DataW.insert []).map fun p=>Go.intOf p.1).Perm l
  refine ((Go.WideShapes.sorted_perm _).map _).trans ?_;rw [List.map_map]
  have h1:es.toList.map ((fun p:Lit × DataW Unit=>Go.intOf p.1) ∘ Go.WideElems.rg prog 3 IG)=l:=by
   have h2:es.toList.map ((fun p:Lit × DataW Unit=>Go.intOf p.1) ∘ Go.WideElems.rg prog 3 IG)=(es.toList.map (·.key)).map fun v=>match v with|.int _ a=>a|_=>0:=by
    rw [List.map_map];refine List.map_congr_left fun x hx=>?_;obtain ⟨k,hkl,h⟩:=hr x hx
    obtain ⟨k',h3,h4⟩:∃ k',Go.WideElems.rd prog 3 IG x=some (.int .i64 k',.nil)∧x.key=.int .i64 k':=by
     have h5:x.key∈l.map (Value.int .i64):=by rw [← hk];exact List.mem_map_of_mem hx
     obtain ⟨k',h6,h7⟩:=List.mem_map.1 h5;refine ⟨k,h,?_⟩;have h8:=Go.WideElems.rd_key h;obtain ⟨z,h9,h10,-⟩:=Maps.keyOf_i64 underlying3 h8
     cases h10
     exact h9
    simp only [Function.comp,Go.WideElems.rg_of h3,h4,Go.intOf]
   rw [h2,hk,List.map_map]
   simp [Function.comp_def]
  rw [h1]
 show ((es.toList.map (Go.WideElems.rg prog 3 IG)).foldr DataW.insert []).length=_
 rw [(Go.WideShapes.sorted_perm _).length_eq,bE,wJ,hlen]
theorem auA (m:Nat):AnyZI.SortsIn prog afn Fence.wide m :=
  ⟨fun blk off cap ss W hH hblk hsz=>callsIn_wide.2 (AnyM.slices_Sort_int afm blk off cap ss W hH hblk hsz),
   fun p cap W=>callsIn_wide.2 (AnyM.slices_Sort_int_none afm p cap W)⟩
def rJ (l:List Int):List Int:=l.mergeSort leI
theorem auz (G:GH) (w0:World) (hG:Hold G w0) (b bx clock:Nat) (es:Array MapEntry) (l:List Int) (hbx:G bx=some (.cells #[.map (some b)] 96 (0,0))) (hb:w0.heap[b]?=some (.map es clock)) (hs:MapKept.Stamped es clock) (hk:es.toList.map (·.key)=l.map (Value.int .i64))
  (hw:∀ k∈l,-9223372036854775808≤k∧k < 9223372036854775808) (hl:l.length≤4294967296) :
  Calls prog 58 #[.func (.func 111) #[] #[(aK bx 0)]] w0 (bB w0 G fun u G'=>ay G' (.sl 1 ((rJ l).map fun k=>[li k])) u):=by
 obtain ⟨D0,hown,hperm,hsize⟩:=arX hb hs hk hw hl;have hml:maxLen=9223372036854775807:=rfl
 have hseq:SeqGives Fence.wide 2 prog 111 #[(aK bx 0)] encZ (fun ss=>ss.Perm (intKeys D0)) (Maps.size D0) w0 :=
  AnyZI.keys_gives (ρ:=adG) { adF with } Fence.wide _ trivial rfl (by omega) bx b l.length D0 _ (lt_of_heap (hG _ _ hbx)) (by simp [World.cell?,hG _ _ hbx]) hown
 have cS:=AnyZI.sorted_in auy Fence.wide 5 trivial trivial trivial trivial rfl (by omega) (auA _) aji 111 #[(aK bx 0)] trivial ajj _ _ (by omega) (by omega) _ hseq
 change CallsIn _ _ prog 58 _ _ _ at cS
 refine ((callsIn_wide (n:=5)).1 cS).mono ?_;rintro e w' ⟨v,ss,rfl,hS,hrow,-,hbel⟩;have hS2:ss.mergeSort (fun x y=>decide (x≤y))=rJ l:=mergeSort_of_perm_i (hS.trans hperm);rw [hS2] at hrow
 have hlen:ss.length=(rJ l).length:=by rw [rJ,List.length_mergeSort,hS.length_eq,hperm.length_eq]
 have eU:∀ (G1:GH) (xs:List Int),bV G1 1 (xs.map fun k=>[li k]) (xs.map encZ):=by
  intro G1 xs
  induction xs with
  | nil=>exact bV.nil
  | cons x xs ih =>
   have h8:=((bV.nil (G:=G1) (sz:=1)).snoc (q:=[li x]) (cs:=[encZ x]) (by simp [aZ,ay,li,Value.oneCell']) rfl).append ih
   simpa using h8
 rcases hrow.2 with ⟨rfl,hz⟩|⟨gb,cap,cur,rfl,hbase,hgb,r1,r2,r3,r4⟩
 ·refine ⟨_,G,rfl,hbel,⟨fun _ _ h=>h,fun _ _ h=>.inl h,fun k o hk=>(hbel.block k (lt_of_heap (hG k o hk))).trans (hG k o hk)⟩,?_⟩;rw [List.eq_nil_of_length_eq_zero (by omega:(rJ l).length=0)]
  simp only [ay]
  exact ⟨none,0,by simp,by simp,by simp [maxLen],fun h=>absurd rfl h⟩
 exact ⟨_,_,rfl,hbel,aaR hG hbel hbase hgb,ay.eT (GH.EH G gb _) (by simp [hlen]) r1 r2 (by simpa using r4) (eU _ _)⟩
end
section
open Go.RowKit
abbrev ji (l:List Int):List (Int × ak):=l.map fun q=>(q,.bool true)
theorem afh (l:List Int):(ji l).map (·.1)=l:=by rw [List.map_map];simp [Function.comp_def]
theorem atX (l r:List Int):ji (l++r)=ji l++ji r:=lg
theorem WE:∀ (i:Nat) (l:List (Int × ak)),(iU i l).map (·.key)=l.map fun x=>Value.int .i64 x.1
 | _,[]=>rfl
 | i,(k,v) :: r=>by rw [iU,dR,dR,WE (i+1) r]
theorem WC:∀ (i:Nat) (l:List (Int × ak)),(iU i l).map (·.born)=List.range' i l.length
 | _,[]=>rfl
 | i,(k,v) :: r=>by rw [iU,dR,WC (i+1) r];rfl
theorem adY:∀ (i n:Nat) (l:List (Int × ak)),(iU i l)[n]?=(l[n]?).map fun x=>⟨.int .i64 x.1,x.2,i+n⟩
 | _,_,[]=>rfl
 | i,0,(k,v) :: r=>rfl
 | i,n+1,(k,v) :: r=>by rw [iU,List.getElem?_cons_succ,List.getElem?_cons_succ,adY (i+1) n r,show i+1+n=i+(n+1) by omega]
theorem arb {l:List (Int × ak)} (h:(l.map (·.1)).Nodup):MapKept.Stamped (iU 0 l).toArray l.length:=by
 refine ⟨fun x hx=>?_,?_,?_⟩
 ·have h1:=List.mem_map_of_mem (f:=(·.born)) hx
  rw [WC] at h1
  have:=List.mem_range'_1.1 h1
  omega
 ·show ((iU 0 l).map (·.born)).Nodup
  rw [WC];exact List.nodup_range'
 ·show ((iU 0 l).map (·.key)).Nodup
  rw [WE,show (fun x:Int × ak=>Value.int .i64 x.1)=Value.int .i64 ∘ (·.1) from rfl,← List.map_map]
  exact List.pairwise_map.2 (h.imp fun hne e=>hne (by injection e))
theorem Uu (x:Int):∀ (i j:Nat) (l:List Int),∃ an,Instr.findNow (.int .i64) (.int .i64 x) (iU i (ji l)) j=some an∧((x∈l∧∃ n,an=some (j+n,.bool true)∧l[n]?=some x)∨(x∉l∧an=none))
 | _,_,[]=>⟨none,rfl,.inr ⟨by simp,rfl⟩⟩
 | i,j,k :: r=>by
  by_cases e:k=x
  ·subst e
   exact ⟨some (j,.bool true),by simp only [ji,dR,iU,Instr.findNow,Instr.sameNow,au,beq_self_eq_true],.inl ⟨gP,0,rfl,rfl⟩⟩
  ·have hb:(x == k)=false:=by simp;exact fun h=>e h.symm
   obtain ⟨an,h1,h2⟩:=Uu x (i+1) (j+1) r
   refine ⟨an,by simpa only [ji,dR,iU,Instr.findNow,Instr.sameNow,au,hb] using h1,?_⟩
   rcases h2 with ⟨h3,n,h4,h5⟩|⟨h3,h4⟩
   ·exact .inl ⟨jT _ h3,n+1,by rw [h4,show j+1+n=j+(n+1) by omega],h5⟩
   ·exact .inr ⟨fun h=>(kZ.1 h).elim (fun h=>e h.symm) h3,h4⟩
theorem WG {α β:Type} (f:α→β):∀ (l:List α) (j:Nat),(l.eraseIdx j).map f=(l.map f).eraseIdx j
 | [],_=>rfl
 | x :: l,0=>rfl
 | x :: l,j+1=>by rw [List.eraseIdx_cons_succ,dR,dR,List.eraseIdx_cons_succ,WG f l j]
def yP (l:List Int) (x:Int):List Int:=if x∈l then l else l++[x]
theorem agW {l:List Int} {x y:Int}:y∈yP l x↔y∈l∨y=x:=by
 unfold yP
 split
 ·rename_i h
  exact ⟨.inl,fun h2=>h2.elim id fun e=>e ▸ h⟩
 ·simp
theorem agX {l:List Int} {x:Int} (h:l.Nodup):(yP l x).Nodup:=by
 unfold yP
 split
 ·exact h
 ·rename_i hx
  exact List.nodup_append.2 ⟨h,List.pairwise_singleton _ _,fun a ha b hb e=>hx (by rw [qO] at hb;rw [← hb,← e];exact ha)⟩
section
variable {N:Nat} {D:List Deferred} {w0:World} {F:Nat→Prop} {G0 G:GH} {L:OL} {T:List (Nat × ak)}
variable {r:Option Nat} {P:Program} {ops:Array Oper} {Q:Exit→Act→World→Prop} {rest:List Oper} {a:Act} {w:World}
variable {d:Nat} {ty:TypeId} {pos:String} {aP:Array Edge} {g:Option (Nat × Bool)}
theorem XD {t kt et:TypeId} {x y z:Operand} {b i:Nat} {l:List Int} {ky:Int} (hm:P.underlying t=some (.map kt et)) (hk:P.underlying kt=some (.int .i64)) (H:St N D w0 F G0 G L T a w)
  (hw:Region.wanted ⟨none,.mapUpdate t x y z,ty,pos,aP,g⟩ (yielded ops a.tmps)=true) (hx:ev T x=some (.map (some b))) (hy:ev T y=some (.int .i64 ky)) (hzv:ev T z=some (.bool true)) (hi:L[i]?=some (b,eP (ji l)))
  (k:∀ w',St N D w0 F G0 G (L.set i (b,eP (ji (yP l ky)))) T a w'→WL r P ops Q rest a w'):WL r P ops Q (⟨none,.mapUpdate t x y z,ty,pos,aP,g⟩ :: rest) a w:=by
 obtain ⟨an,hf,han⟩:=Uu ky 0 0 l
 rcases han with ⟨hm2,n,rfl,hn⟩|⟨hm2,rfl⟩
 ·have hkey:MapKept.IsKey (.int .i64) (.int .i64 ky):=by trivial
  have hb:w.heap[b]?=some (.map (iU 0 (ji l)).toArray (ji l).length):=H.hp.own _ (mg hi)
  have h1:=MapKept.run_checkKey (P:=P) (w:=w) hk hkey false 9999
  have h2:=MapKept.run_findKey (P:=P) (w:=w) (l:=(iU 0 (ji l)).toArray.toList) hk (by simpa using hf)
  have h3:=MapKept.run_keyThatStays (P:=P) (w:=w) hkey
  have hgn:(iU 0 (ji l))[n]?=some ⟨.int .i64 ky,.bool true,0+n⟩:=by
   rw [adY];unfold ji;rw [om,hn];rfl
  have hg:((iU 0 (ji l)).toArray[n]?.map (·.key)).getD (.int .i64 ky)=.int .i64 ky:=by
   rw [List.getElem?_toArray,hgn];rfl
  have hmod:(iU 0 (ji l)).toArray.modify n (fun e=>{ e with key:=.int .i64 ky,val:=.bool true })=(iU 0 (ji l)).toArray:=by
   apply Array.ext_getElem?
   intro j
   rw [Array.getElem?_modify]
   by_cases hij:n=j
   ·subst hij
    rw [au rfl,List.getElem?_toArray,hgn];rfl
   ·rw [ah hij]
  have ha:yP l ky=l:=by unfold yP;rw [au hm2]
  rw [ha] at k
  refine Yk (w':={ w with heap:=w.heap.setIfInBounds b (eP (ji l)) }) hw rfl ?_ (k _ (H.move (H.hp.upd hi (Yf hb))))
  show (execOp a.eval _).run P w=.ok _ { w with heap:=w.heap.setIfInBounds b (.map (iU 0 (ji l)).toArray (ji l).length) }
  generalize (iU 0 (ji l)).toArray=es at hb h2 hg hmod ⊢
  simp [execOp,Instr.mapUpdate,H.ev hx,H.ev hy,H.ev hzv,dX,nO hm,MapKept.run_getObj_map hb,h1,h2,hg,h3,hmod,MapKept.run_setObj_map _ hb,Result.andThen]
 ·refine NC hm hk H hw hx hy hzv hi (Nf (by rw [afh];exact hm2)) fun w' H'=>k w' ?_
  have ha:yP l ky=l++[ky]:=by unfold yP;rw [ah hm2]
  rw [ha,atX]
  exact H'
theorem atz {t kt et:TypeId} {x y:Operand} {b i:Nat} {l:List Int} {ky:Int} (hm:P.underlying t=some (.map kt et)) (hk:P.underlying kt=some (.int .i64)) (hnd:l.Nodup) (H:St N D w0 F G0 G L T a w)
  (hw:Region.wanted ⟨none,.call { callee:=.builtin .delete,args:=#[x,y],argTypes:=#[t,kt] },ty,pos,aP,g⟩ (yielded ops a.tmps)=true) (hx:ev T x=some (.map (some b))) (hy:ev T y=some (.int .i64 ky)) (hi:L[i]?=some (b,eP (ji l)))
  (k:∀ es clock w',MapKept.Stamped es clock→es.toList.map (·.key)=(l.filter fun q=>decide (q≠ky)).map (Value.int .i64)→St N D w0 F G0 G (L.set i (b,.map es clock)) T a w'→WL r P ops Q rest a w'):WL r P ops Q (⟨none,.call { callee:=.builtin .delete,args:=#[x,y],argTypes:=#[t,kt] },ty,pos,aP,g⟩ :: rest) a w:=by
 obtain ⟨an,hf,han⟩:=Uu ky 0 0 l
 have hkey:MapKept.IsKey (.int .i64) (.int .i64 ky):=by trivial
 have hb:w.heap[b]?=some (.map (iU 0 (ji l)).toArray (ji l).length):=H.hp.own _ (mg hi)
 have hst:=arb (l:=ji l) (by rw [afh];exact hnd)
 have hks:(iU 0 (ji l)).toArray.toList.map (·.key)=l.map (Value.int .i64):=by
  show (iU 0 (ji l)).map (·.key)=_
  rw [WE,List.map_map];rfl
 have h2:=fun es':Array MapEntry=>Yf (o:=.map es' (ji l).length) hb
 have h3:=MapKept.run_findKey (P:=P) (w:=w) (l:=(iU 0 (ji l)).toArray.toList) hk (by simpa using hf)
 rcases han with ⟨hm2,n,rfl,hn⟩|⟨hm2,rfl⟩
 ·have hnl:n < l.length:=(jr.1 hn).1
  have hln:l[n]=ky:=(jr.1 hn).2
  have hsz:n < (iU 0 (ji l)).toArray.size:=by
   have:=aB List.length hks
   simp at this
   simp;omega
  have aoy:((iU 0 (ji l)).toArray.eraseIdxIfInBounds n).toList=(iU 0 (ji l)).toArray.toList.eraseIdx n:=by
   unfold Array.eraseIdxIfInBounds
   rw [dif_pos hsz]
   simp
  refine fQ (v:=.tuple #[]) (w':={ w with heap:=w.heap.setIfInBounds b (.map ((iU 0 (ji l)).toArray.eraseIdxIfInBounds n) (ji l).length) }) hw rfl ?_
   (k _ _ _ (MapKept.stamped_erase hst n) ?_ (H.move (H.hp.upd hi (h2 _))))
  ·generalize (iU 0 (ji l)).toArray=es at hb h3 ⊢
   have h1:=MapKept.run_checkKey (P:=P) (w:=w) hk hkey es.isEmpty 9999
   simp [execOp,resolve,invoke,builtin,Builtin.delete_,H.ev hx,H.ev hy,dX,nO hm,MapKept.run_getObj_map hb,h1,h3,MapKept.run_setObj_map _ hb,Result.andThen]
  ·rw [aoy,WG,hks,← WG]
   congr 1
   have he:l.erase ky=l.eraseIdx n:=by
    have:=hnd.idxOf_getElem n hnl
    rw [hln] at this
    rw [← this];exact List.erase_eq_eraseIdx_of_idxOf rfl
   rw [← he,hnd.erase_eq_filter]
   exact List.filter_congr fun x _=>by by_cases h:x=ky <;> simp [h]
 ·refine fQ (v:=.tuple #[]) (w':={ w with heap:=w.heap.setIfInBounds b (.map (iU 0 (ji l)).toArray (ji l).length) }) hw rfl ?_ (k _ _ _ hst ?_ (H.move (H.hp.upd hi (h2 _))))
  ·generalize (iU 0 (ji l)).toArray=es at hb h3 ⊢
   have h1:=MapKept.run_checkKey (P:=P) (w:=w) hk hkey es.isEmpty 9999
   simp [execOp,resolve,invoke,builtin,Builtin.delete_,H.ev hx,H.ev hy,dX,nO hm,MapKept.run_getObj_map hb,h1,h3,MapKept.run_setObj_map _ hb,Result.andThen]
  ·rw [hks,List.filter_eq_self.2 fun x hx=>eZ (show ¬ x=ky from fun e=>hm2 (e ▸ hx))]
end
end
section
open Go.RowKit
theorem ald:∀ args w,(callFunc 59 args).run prog w=.ok (.enter 59 args) w:=enters func59 rfl (by kernel_rfl)
theorem alc:∀ args w,(callFunc 58 args).run prog w=.ok (.enter 58 args) w:=enters func58 rfl (by kernel_rfl)
end
section
open Go.RowKit
theorem aaJ:∀ args w,(callFunc 60 args).run prog w=.ok (.enter 60 args) w:=enters func60 rfl (by kernel_rfl)
theorem akJ:∀ args w,(callFunc 22 args).run prog w=.ok (.enter 22 args) w:=enters func22 rfl (by kernel_rfl)
def refs (h:cu):List Int:=h.marks.ins :: (h.marks.bg.map iK.rev++h.marks.layers.map iO.rev)
def sW (K l:List Int):List Int:=l.foldl yP K
theorem Oi (K l r:List Int):sW K (l++r)=sW (sW K l) r:=List.foldl_append
theorem Ta {l:List Int}:∀ {K:List Int} {y:Int},y∈sW K l↔y∈K∨y∈l:=by
 induction l with
 | nil=>intro K y;simp [sW]
 | cons x l ih =>
  intro K y
  show y∈sW (yP K x) l↔_
  rw [ih,agW,kZ,or_assoc]
theorem Zb {l:List Int}:∀ {K:List Int},K.Nodup→(sW K l).Nodup:=by
 induction l with
 | nil=>intro K h;exact h
 | cons x l ih=>intro K h;exact ih (agX h)
theorem agY {K:List Int} {x:Int} {α:Type} {f:α→Int} {A:List α} {k:Nat} (hk:k < A.length):yP (sW K (x :: (A.take k).map f)) (f A[k])=sW K (x :: (A.take (k+1)).map f):=by
 rw [gI hk,lg,← kr,Oi];rfl
theorem agZ {K B:List Int} {x:Int} {α:Type} {f:α→Int} {A:List α} {k:Nat} (hk:k < A.length):yP (sW K (x :: (B++(A.take k).map f))) (f A[k])=sW K (x :: (B++(A.take (k+1)).map f)):=by
 rw [gI hk,lg,show x :: (B++((A.take k).map f++[A[k]].map f))=(x :: (B++(A.take k).map f))++[f A[k]] from by simp,Oi];rfl
abbrev CV (b3 bm:Nat) (K:List Int):OL:=[(b3,.cells #[.map (some bm)] 96 (0,0)),(bm,eP (ji K))]
theorem aer (G:GH) (w0:World) (b3 bm:Nat) (K:List Int) (h:cu) (p d y:Option Addr × Nat × Nat) (hR:gW G h (aM p) (aM d) (aM y)) (hO:fM G (CV b3 bm K) w0) :
  Calls prog 60 #[.agg #[aM p,vi h.marks.ins,vi h.marks.move,aM d,aM y],(aK b3 0)] w0 (fB w0 G (CV b3 bm K) fun _ G' L'=>L'=CV b3 bm (sW K (refs h))):=by
 obtain ⟨dA,dn,dc⟩:=d;obtain ⟨yA,yn,yc⟩:=y;have hml:maxLen=9223372036854775807:=rfl;have hd:=hR.bg;have hy:=hR.layers;dsimp only [aM] at hd hy;have e1:=hd.len;have e2:=hy.len;rw [bE] at e1 e2;subst e1 e2;obtain ⟨_,_,hu1,hd1,hd2,-⟩:=hd.slice;obtain ⟨_,_,hu2,hy1,hy2,-⟩:=hy.slice
 injection hu1 with q1 q2 q3
 subst q1 q3
 injection hu2 with q1 q2 q3
 subst q1 q3;rw [bE] at hd1 hy1;refine iM (N:=35) (T:=[(0,_),(1,_)]) func60 rfl ntmps60 rfl rfl hO ?_;refine aj 1 ?_;intro a H;refine dN (cs:=[_,_,_,_,_]) H wn rfl rfl rfl ?_;clear H;intro b2 a w hb2 H;refine aH 6 H ?_;clear H;intro a H;refine XD (i:=2) xG lZ H wn rfl rfl rfl rfl ?_;clear H;intro w H;dsimp only [List.set] at H;refine aH 10 H ?_;clear H;intro a H;refine dD (ι:=Nat) (Tc:=[(1,_),(2,_),(13,_),(14,_)]) (Lc:=[(_,_),(_,_)]) (fun gh=>[(15,vi gh)]) (fun gh=>[(bm,eP (ji (sW K (h.marks.ins :: (h.marks.bg.take gh).map iK.rev))))]) (fun gh=>G) (fun gh=>gh≤h.marks.bg.length) (fun gh=>h.marks.bg.length - gh) (0) sB ?_ ?_
 ·exact eG _
 clear H;intro i a w hI H;have hi:=hI;dsimp only [lca,aQ] at H;refine cK 4 H ?_ ?_ <;> clear H
 ·intro p16
  have hi2:i < h.marks.bg.length:=by omega
  obtain ⟨b,o,rfl,hrow⟩:=Jp hd hi2;refine aj 5 ?_;intro a H;refine aT sQ (cs:=[_,_]) H wn rfl rfl (fun j v hj=>H.hp.aC (hrow j v hj)) rfl ?_;clear H;intro a H;refine dx sQ H wn rfl ?_;clear H;intro b4 a w hb4 H;refine bq sQ 0 (vs:=[_,_]) _ H wn rfl rfl rfl rfl rfl rfl rfl rfl ?_;clear H;intro w H;dsimp only [List.set,setRow] at H;refine aH 5 H ?_;clear H;intro a H;refine XD (i:=3) xG lZ H wn rfl rfl rfl rfl ?_;clear H;intro w H;dsimp only [List.set] at H;rw [agY hi2] at H;refine aH 4 H ?_;clear H;intro a H;refine aI ?_;refine bR (i+1) (by exact (H.bY (Pl:=[_,_,_,_]) (bT:=[_,_,_]) [1,2,3] (by decide) rfl).sub ⟨rfl,rfl,rfl,rfl,rfl,aY⟩) ?_ ?_
  ·omega
  first|omega|(dsimp only;omega)
 intro p16
 obtain rfl:i=h.marks.bg.length:=by omega
 intro a H;rw [wL] at H;refine dG 9 H ?_;clear H;intro a H;refine dD (ι:=Nat) (Tc:=[(1,_),(25,_),(26,_)]) (Lc:=[(_,_),(_,_)]) (fun gh=>[(27,vi gh)]) (fun gh=>[(bm,eP (ji (sW K (h.marks.ins :: (h.marks.bg.map iK.rev++(h.marks.layers.take gh).map iO.rev)))))]) (fun gh=>G) (fun gh=>gh≤h.marks.layers.length) (fun gh=>h.marks.layers.length - gh) (0) (by exact (by rw [List.take_zero,vB,lD];exact (H.sub ⟨rfl,rfl,rfl,rfl,aY⟩))) ?_ ?_
 ·exact eG _
 clear H;intro k a w hI H;have hk:=hI;dsimp only [lca,aQ] at H;refine cK 4 H ?_ ?_ <;> clear H
 ·intro p28
  have hk2:k < h.marks.layers.length:=by omega
  obtain ⟨b,o,rfl,hrow⟩:=J7 hy hk2;refine aj 5 ?_;intro a H;refine aT rO (cs:=[_,_,_,_]) H wn rfl rfl (fun j v hj=>H.hp.aC (hrow j v hj)) rfl ?_;clear H;intro a H;refine dx rO H wn rfl ?_;clear H;intro b6 a w hb6 H;refine bq rO 0 (vs:=[_,_,_,_]) _ H wn rfl rfl rfl rfl rfl rfl rfl rfl ?_;clear H;intro w H;dsimp only [List.set,setRow] at H;refine aH 5 H ?_;clear H;intro a H;refine XD (i:=3) xG lZ H wn rfl rfl rfl rfl ?_;clear H;intro w H;dsimp only [List.set] at H;rw [agZ hk2] at H;refine aH 4 H ?_;clear H;intro a H;refine aI ?_;refine bR (k+1) (by exact (H.bY (Pl:=[_,_,_,_]) (bT:=[_,_,_]) [1,2,3] (by decide) rfl).sub ⟨rfl,rfl,rfl,rfl,aY⟩) ?_ ?_
  ·omega
  first|omega|(dsimp only;omega)
 intro p28
 obtain rfl:k=h.marks.layers.length:=by omega
 intro a H;rw [wL] at H;refine Au ?_;refine (leave0 H results60 ?_).2;exact H.hp.bU (L':=CV b3 bm _) (by repeat (first|exact bZ _|apply List.Sublist.cons)) rfl
def Ef (d:iW):List Int:=(kU d.flow).flatMap refs++refs d.fin
def oM (d:iW):List Int:=(sW [] (Ef d)).filter fun q=>decide (q≠0)
theorem arO {G:GH} {b3 bm:Nat} {hs:List cu}:Yw prog (.func (.func 60) #[] #[(aK b3 0)]) G (hs.map HZ) fun k _ L=>L=CV b3 bm (sW [] ((hs.take k).flatMap refs)):=by
 rintro k args G1 L w ⟨p,hp,h⟩ hG rfl hO;rw [om] at hp;obtain ⟨x,hx,rfl⟩:=oO.1 hp;obtain ⟨q1,q2,q3,rfl,hR⟩:=h;obtain ⟨hk,rfl⟩:=jr.1 hx;refine jM (caps:=[(aK b3 0)]) aaJ ((aer G1 w b3 bm _ hs[k] q1 q2 q3 hR hO).mono ?_);rintro e w' ⟨v,G',L',rfl,hc,rfl⟩;exact ⟨v,G',_,rfl,hc,by show CV b3 bm _=CV b3 bm (sW [] ((hs.take (k+1)).flatMap refs));rw [gI hk,List.flatMap_append,Oi];simp⟩
theorem aiT (G:GH) (w0:World) (hG:Hold G w0) (D:gM) (d:iW) (hR:mJ G D d) (hz:aX d.flow≤4294967296) (hw:∀ k∈oM d,-9223372036854775808≤k∧k < 9223372036854775808) (hl:(oM d).length≤4294967296) :
  Calls prog 22 #[D.val] w0 (bB w0 G fun u G'=>ay G' (.sl 1 ((rJ (oM d)).map fun k=>[li k])) u):=by
 refine eN [(0,_)] func22 rfl ntmps22 rfl rfl hG ?_;refine aj 1 ?_;intro a H;refine dN (cs:=[_,_,_,_,_,_,_,_,_,_,_]) H wn rfl rfl rfl ?_;clear H;intro b1 a w hb1 H;refine aH 2 H ?_;clear H;intro a H;obtain ⟨Ga,hma,hb1',HQ⟩:=H.dS;clear H;have H:=HQ;clear HQ;have hga:=fun j v hj=>nE hb1' 0 D.cells rfl j v hj
 have hgd:∀ j v,[aM D.p,vi d.fin.marks.ins,vi d.fin.marks.move,aM D.d,aM D.y][j]?=some v→aC Ga b1 (1+j)=some v:=fun j v hj=>by rw [← hR.ins,← hR.mv] at hj;exact nE hb1' 1 [aM D.p,vi D.ins,vi D.move,aM D.d,aM D.y] rfl j v hj
 replace hR:=hR.mono hma;refine tq ?_;refine IK H wn rfl ?_;clear H;intro b5 a w hb5 H;refine dx FM H wn rfl ?_;clear H;intro b3 a w hb3 H;refine bq FM 0 (vs:=[_]) _ H wn rfl rfl rfl rfl rfl rfl rfl rfl ?_;clear H;intro w H;dsimp only [List.set,setRow] at H;refine aH 2 H ?_;clear H;intro a H;refine pK H wn rfl rfl ?_;clear H;refine aj 4 ?_;intro a H;refine iH zB H wn rfl (H.hp.aC (hga 0 _ rfl)) rfl ?_;clear H;refine aj 1 ?_;intro a H;refine fu Uc (Li:=[]) (L:=CV b3 b5 []) H wn rfl (abO 4294967297 (by omega) _ Ga ((kU d.flow).map HZ) (fun k _ L=>L=CV b3 b5 (sW [] (((kU d.flow).take k).flatMap refs))) Ga _ _ 0 d.flow _ (fun _ _ h=>h) arO (fun _ _ _ _ _ h=>h) rfl (Hp.owns (Li:=[]) H.hp) hR.fl (by omega) (fun i a h=>by rw [gX,om,h];rfl)) rfl ?_;clear H;rintro v10 Ak L10 a w rfl oF H;rw [gX,wL] at H;dsimp only [List.nil_append] at H;refine aH 4 H ?_;clear H;intro a H;refine aT gG (cs:=[aM D.p,vi d.fin.marks.ins,vi d.fin.marks.move,aM D.d,aM D.y]) H wn rfl rfl (fun j v hj=>H.hp.aC (aD oF (hgd j v hj))) rfl ?_;clear H;intro a H;refine tL (Li:=[]) (L:=CV b3 b5 _) H wn rfl rfl (jM (caps:=[(aK b3 0)]) aaJ (aer _ _ b3 b5 _ d.fin D.p D.d D.y (hR.hd.mono oF) (Hp.owns (Li:=[]) H.hp))) rfl ?_;clear H;rintro v14 qo L14 a w rfl Cr H;rw [← Oi] at H;dsimp only [List.nil_append] at H;refine aH 3 H ?_;clear H;intro a H;refine atz (i:=1) xG lZ (Zb List.nodup_nil) H wn rfl rfl rfl ?_;clear H;intro es clock w hst hks H;dsimp only [List.set] at H;refine aH 3 H ?_;clear H;intro a H;refine s_call ald H wn rfl (ard _ _ H.ro _) rfl ?_;clear H;rintro v17 Al a w ⟨bx,rfl,hbx⟩ nJ H;refine s_call alc H wn rfl (auz _ _ H.ro b5 bx clock es (oM d) hbx (H.hp.own (b5,.map es clock) (by simp)) hst hks hw hl) rfl ?_;clear H;rintro v18 Sw a w Qu hm18 H;refine gK 2 H ?_;exact Qu
end
section
open Go.RowKit
theorem alg:∀ args w,(callFunc 66 args).run prog w=.ok (.enter 66 args) w:=enters func66 rfl (by kernel_rfl)
theorem ale:∀ args w,(callFunc 63 args).run prog w=.ok (.enter 63 args) w:=enters func63 rfl (by kernel_rfl)
theorem alh:∀ args w,(callFunc 67 args).run prog w=.ok (.enter 67 args) w:=enters func67 rfl (by kernel_rfl)
theorem alf:∀ args w,(callFunc 65 args).run prog w=.ok (.enter 65 args) w:=enters func65 rfl (by kernel_rfl)
theorem avl {G:GH} {b3:Nat} {us:List Int} {uv:ak} (hb:aC G b3 0=some uv) (hu:ay G (.sl 1 (us.map fun k=>[li k])) uv) (hl:us.length≤4294967296) (x:bD):rV (.func (.func 65) #[] #[(aK b3 0)]) G x.dat (!vK us x.id):=by
 intro G1 w0 cs hm hG hr;obtain rfl:=Rx hr;replace hb:=aD hm hb;replace hu:=hu.mono hm;obtain ⟨uA,uc,rfl,-,-,-⟩:=hu.slice;refine jM (caps:=[(aK b3 0)]) alf ?_;refine eN [(0,_),(1,_)] func65 rfl ntmps65 rfl rfl hG ?_;refine aj 1 ?_;intro a H;refine dN (cs:=[_,_,_]) H wn rfl rfl rfl ?_;clear H;intro b2 a w hb2 H;refine aH 6 H ?_;clear H;intro a H;refine s_call alg H wn rfl (ahn _ _ H.ro us x.id _ hu hl) rfl ?_;clear H;rintro v10 Ak a w ⟨rfl,rfl⟩ oF H;refine aH 1 H ?_;clear H;intro a H;(iterate 2 refine qK H wn rfl rfl rfl ?_;clear H;intro a H);refine gK 8 H ?_;exact rfl
def mq (d:iW):iW:=⟨jC d.flow,d.fin,d.revs,d.iD⟩
def nD (d:iW):iW:=⟨jC d.flow,d.fin,d.revs.filter fun r=>vK (rJ (oM (mq d))) r.id,d.iD⟩
theorem ata (G:GH) (l:List bD):bV G 3 (l.map bD.dat) (nY l):=by
 have h:∀ (B A:List bD),bV G 3 (A.map bD.dat) (nY A)→bV G 3 ((A++B).map bD.dat) (nY (A++B)):=by
  intro B
  induction B with
  | nil=>intro A h;rw [lD];exact h
  | cons x B ih =>
   intro A h;have h2:=h.snoc (Ry G x) rfl;have h3:=ih (A++[x]) (by rw [Xx,lg];exact h2)
   simpa using h3
 exact h l [] bV.nil
set_option maxRecDepth 8000 in
theorem aaf (G:GH) (w0:World) (hG:Hold G w0) (D:gM) (d:iW) (hR:mJ G D d) (hz:zJ d) (hne:vU d.flow) (hz2:aX (jC d.flow)≤1073741824) (hw:∀ k∈oM (mq d),-9223372036854775808≤k∧k < 9223372036854775808) (hl:(oM (mq d)).length≤4294967296) :
  Calls prog 24 #[D.val] w0 (bB w0 G fun u G'=>∃ D':gM,u=D'.val∧mJ G' D' (nD d)):=by
 obtain ⟨df,dp,dd,dy,dr,d1,d2,d3,d4,ins,mv⟩:=D;obtain ⟨zf,zh,zr,zt,zs,F5⟩:=hz;refine eN [(0,_)] func24 rfl ntmps24 rfl rfl hG ?_;refine aj 1 ?_;intro a H;refine dN (cs:=[_,_,_,_,_,_,_,_,_,_,_]) H wn rfl rfl rfl ?_;clear H;intro b1 a w hb1 H;refine dx iY H wn rfl ?_;clear H;intro b2 a w hb2 H;refine aH 4 H ?_;clear H;intro a H;refine s_call OY H wn rfl (aep _ _ H.ro d.flow _ hR.fl hne zf) rfl ?_;clear H;rintro v6 G6 a w hv6 Cv H;obtain ⟨fA,fn,fc,rfl⟩:=hv6.form;have pq:mJ G6 ⟨(fA,fn,fc),dp,dd,dy,dr,d1,d2,d3,d4,ins,mv⟩ (mq d):=⟨hv6,hR.hd.mono Cv,hR.ins,hR.mv,hR.rv.mono Cv,hR.st.mono Cv⟩;refine aH 1 H ?_;clear H;intro a H;refine bq zB 1 (vs:=[_]) _ H wn rfl rfl rfl rfl rfl rfl rfl rfl ?_;clear H;intro w H;dsimp only [List.set,setRow] at H;refine aH 2 H ?_;clear H;intro a H;refine aT iY (cs:=(⟨(fA,fn,fc),dp,dd,dy,dr,d1,d2,d3,d4,ins,mv⟩:gM).cells) H wn rfl rfl (H.hp.cO 1 rfl rfl) rfl ?_;clear H;intro a H;refine s_call akJ H wn rfl (aiT _ _ H.ro _ _ pq (by show aX (jC d.flow)≤_;omega) hw hl) rfl ?_;clear H;rintro v9 G9 a w Qv ze H;obtain ⟨uA,un,uc,rfl⟩:=Qv.form;refine dx NP H wn rfl ?_;clear H;intro b3 a w hb3 H;refine bq NP 0 (vs:=[_]) _ H wn rfl rfl rfl rfl rfl rfl rfl rfl ?_;clear H;intro w H;dsimp only [List.set,setRow] at H;refine aI ?_;refine dW ?_;obtain ⟨Gb,hmb,uJ,H⟩:=H.dS;have hq3:aC Gb b3 0=some (.slice uA un uc):=nE uJ 0 [.slice uA un uc] rfl 0 _ rfl;replace Qv:=Qv.mono hmb;replace pq:=(pq.mono ze).mono hmb;refine dG 3 H ?_;clear H;intro a H;refine fu aaK (Li:=[_,_]) (L:=[]) H wn rfl (ZQ _ _ (zo H.ro) _ _ _ _ pq.rv (by simpa [mq] using zr)) rfl ?_;clear H;rintro v12 C9 L12 a w ⟨axR,JW,aod⟩ A9 H;obtain rfl:=atb aod;rw [bE] at JW;obtain ⟨rA,rc,rfl,-,-⟩:=JW.shape;refine pK H wn rfl rfl ?_;clear H;intro a H;refine fu ale (Li:=[_,_]) (L:=L12) H wn rfl (aiO d.revs (fun r=>!vK (rJ (oM (mq d))) r.id) (Hp.owns (Li:=[_,_]) H.hp) JW (fun x _=>avl (aD A9 hq3) (Qv.mono A9) (by rw [rJ,List.length_mergeSort];exact hl) x)) rfl ?_;clear H;rintro v14 qo L14 a w M0 Cr H
 simp only [Bool.not_not] at M0
 obtain ⟨Gr,hmr,acK,H⟩:=St.vI (Li:=[_,_]) H M0 (rows:=(nD d).revs.map bD.dat) (by simp [nD]) (ata _ _);obtain ⟨rB,rn,rd,rfl⟩:=acK.form;replace pq:=((pq.mono A9).mono Cr).mono hmr;have hR2:mJ Gr ⟨(fA,fn,fc),dp,dd,dy,(rB,rn,rd),d1,d2,d3,d4,ins,mv⟩ (nD d):=⟨pq.fl,pq.hd,pq.ins,pq.mv,acK,pq.st⟩;refine aH 1 H ?_;clear H;intro a H;refine bq uW 1 (vs:=[_]) _ H wn rfl rfl rfl rfl rfl rfl rfl rfl ?_;clear H;intro w H;dsimp only [List.set,setRow] at H;refine aH 2 H ?_;clear H;intro a H;refine aT iY (cs:=(⟨(fA,fn,fc),dp,dd,dy,(rB,rn,rd),d1,d2,d3,d4,ins,mv⟩:gM).cells) H wn rfl rfl (H.hp.cO 1 rfl rfl) rfl ?_;clear H;intro a H;refine fu alh (Li:=[_,_]) (L:=[]) H wn rfl (aiR _ _ (zo H.ro) _ _ hR2 ⟨by show aX (jC d.flow)≤_;omega,zh,Nat.le_trans (List.length_filter_le _ _) zr,fun x hx=>zt x (List.mem_filter.1 hx).1,zs,F5⟩) rfl ?_;clear H;rintro v17 Al L17 a w ⟨D',rfl,xf,Lf,xr,Lr,rfl,JY,Vi,JZ,Vj,aoC,aoE,aoV,hst'⟩ nJ H;obtain ⟨Gs,hms,aps,H⟩:=St.vI (Li:=[_,_]++Lf) (by rw [fT];exact H) JZ (rows:=(nD d).revs.map bD.dat) (by simp) Vj;obtain ⟨Gt,hmt,aoz,H⟩:=St.vI (Li:=[_,_]) H JY (rows:=(nD d).flow.map av.dat) (by simp) (Vi.mono hms);refine bq iY 0 (vs:=[_,_,_,_,_,_,_,_,_,_,_]) _ H wn rfl rfl rfl rfl rfl rfl rfl rfl ?_;clear H;intro w H;dsimp only [List.set,setRow] at H;refine aI ?_;refine dW ?_;refine dw ?_;refine (leave1 H results24 (.cons (xD iY (cs:=[_,_,_,_,_,_,_,_,_,_,_]) H rfl rfl (H.hp.cO 0 rfl rfl)) .nil) ?_).1;exact H.rt ⟨D',rfl,aoz,(aoC.mono hms).mono hmt,aoE,aoV,aps.mono hmt,(hst'.mono hms).mono hmt⟩
end
section
open Go.RowKit
theorem Ua:∀ args w,(callFunc 41 args).run prog w=.ok (.enter 41 args) w:=enters func41 rfl (by kernel_rfl)
theorem aaG:∀ args w,(callFunc 42 args).run prog w=.ok (.enter 42 args) w:=enters func42 rfl (by kernel_rfl)
theorem aaN:∀ args w,(callFunc 92 args).run prog w=.ok (.enter 92 args) w:=enters func92 rfl (by kernel_rfl)
theorem auL {s:qN} (h:fU s.styles≠0):jU s=fU s.styles:=by rw [jU,bP,au h]
theorem XP {s:qN} (h0:fU s.styles=0) (h:wM s.lists≠0):jU s=wM s.lists:=by rw [jU,bP,ah (by rw [h0];decide),bP,au h]
theorem IL {s:qN} (h0:fU s.styles=0) (h1:wM s.lists=0) (h:um s.comments≠0):jU s=um s.comments:=by rw [jU,bP,ah (by rw [h0];decide),bP,ah (by rw [h1];decide),bP,au h]
theorem Kt {s:qN} (h0:fU s.styles=0) (h1:wM s.lists=0) (h2:um s.comments=0):jU s=zQ s.vars:=by
 rw [jU,bP,ah (by rw [h0];decide),bP,ah (by rw [h1];decide),bP,ah (by rw [h2];decide),bP,bP]
 split
 ·rfl
 rename_i h;exact (fD.1 h).symm
theorem QL {E:Nat→Int} {n m:Nat} (h:(m:Int) < n):bP [bK (decide ((m:Int) < (n:Int))) 9,fV E (min n m)]=9:=by
 rw [eZ h];rfl
theorem QK {E:Nat→Int} {n m:Nat} (h:¬ (m:Int) < n):bP [bK (decide ((m:Int) < (n:Int))) 9,fV E (min n m)]=fV E n:=by
 rw [gD h,bP,ah (by decide),bP,bP,show min n m=n by omega]
 split
 ·rfl
 rename_i h;exact (fD.1 h).symm
theorem yR {E:Nat→Int} {n k:Nat} (hk:k < n) (he:bP (((List.range n).map E).drop k)=fV E n) (h:E k≠0):fV E n=E k:=by
 rw [← he,qp hk,au h]
theorem Oo {E:Nat→Int} {n k:Nat} (hk:k < n) (he:bP (((List.range n).map E).drop k)=fV E n) (h:E k=0):bP (((List.range n).map E).drop (k+1))=fV E n:=by
 rw [← he,qp hk,ah (by rw [h];decide)]
theorem Om {E:Nat→Int} {n k:Nat} (hk:n≤k) (he:bP (((List.range n).map E).drop k)=fV E n):fV E n=0:=by
 rw [← he,eX (by simpa using hk)];rfl
theorem wP {l:List Int} {e:Int} (h:e≠0):bP (e :: l)=e:=by rw [bP,au h]
theorem iF {l:List Int} {e:Int} (h:e=0):bP (e :: l)=bP l:=by rw [bP,ah (by rw [h];decide)]
theorem afl {α:Type} {l:List α} {p:α→Bool} {j:Nat} (h:j < l.length):((l.take (j+1)).findIdx? p).isSome=(((l.take j).findIdx? p).isSome || p l[j]):=by
 rw [gI h,List.findIdx?_append]
 cases (l.take j).findIdx? p <;> simp [List.findIdx?_cons] <;> split <;> simp_all
theorem ari (G:GH) (w0:World) (hG:Hold G w0) (s:qN) (a b c d:ak) (hR:tV G s a b c d) (hz:Ll s) :
  Calls prog 40 #[.agg #[a,b,c,d]] w0 (bB w0 G fun u G'=>u=vi (jU s)):=by
 obtain ⟨sA,sc,rfl,-,-,-⟩:=hR.st.slice;obtain ⟨lA,lc,rfl,-,hlc,-⟩:=hR.li.slice;obtain ⟨cA,cc,rfl,-,hcc,-⟩:=hR.cm.slice;obtain ⟨vA,vc,rfl,-,hvc,-⟩:=hR.va.slice;have hml:maxLen=9223372036854775807:=rfl;have hl1:=hz.ln;have hl2:=hz.cn;have hl3:=hz.vn;refine eN [(0,_)] func40 rfl ntmps40 rfl rfl hG ?_;refine aj 1 ?_;intro a H;refine dN (cs:=[_,_,_,_]) H wn rfl rfl rfl ?_;clear H;intro b1 a w hb1 H;refine aH 3 H ?_;clear H;intro a H;obtain ⟨Ga,hma,hb1',H⟩:=H.dS
 simp only [bE] at hb1' hR
 have hc0:aC Ga b1 0=some (.slice sA s.styles.length sc):=by unfold aC;rw [hb1'];rfl
 have hc1:aC Ga b1 1=some (.slice lA s.lists.length lc):=by unfold aC;rw [hb1'];rfl
 have hc2:aC Ga b1 2=some (.slice cA s.comments.length cc):=by unfold aC;rw [hb1'];rfl
 have hc3:aC Ga b1 3=some (.slice vA s.vars.length vc):=by unfold aC;rw [hb1'];rfl
 have wW:=hR.li.mono hma;have hcm:=hR.cm.mono hma;have hva:=hR.va.mono hma;refine dG 3 H ?_;clear H;intro a H;refine s_call aaL H wn rfl (ZL _ _ H.ro s.styles _ (hR.st.mono hma) hz.sn) rfl ?_;clear H;rintro v19 F9 a w rfl oG H;replace hc1:=aD oG hc1;replace hc2:=aD oG hc2;replace hc3:=aD oG hc3;replace wW:=wW.mono oG;replace hcm:=hcm.mono oG;replace hva:=hva.mono oG;refine eO 6 H ?_ ?_ <;> clear H
 ·intro nN
  have e:jU s=fU s.styles:=auL nN;refine aJ 4 ?_;exact (aB vi e.symm)
 intro nN
 have e0:fU s.styles=0:=fD.1 nN;refine goB 8 ?_ ?_
 ·intro p26
  have e:jU s=9:=by
   have h:wM s.lists=9:=QL (m:=64) (by omega);rw [XP e0 (by rw [h];decide),h]
  refine aJ 3 ?_;exact (aB vi e.symm)
 intro p26
 have Cn:wM s.lists=fV (yE s.lists) s.lists.length:=QK (m:=64) (by omega);refine aj 6 ?_;intro a H;refine dD (ι:=Nat × GH) (Tc:=[(1,_)]) (Lc:=[]) (fun gh=>[(4,vi gh.1)]) (fun gh=>[]) (fun gh=>gh.2) (fun gh=>gh.1≤s.lists.length∧bP (((List.range s.lists.length).map (yE s.lists)).drop gh.1)=fV (yE s.lists) s.lists.length∧(∀ b o,F9 b=some o→gh.2 b=some o)) (fun gh=>s.lists.length - gh.1) ((0,F9)) sB ?_ ?_
 ·exact ⟨eG _,rfl,fun _ _ h=>h⟩
 clear H;rintro ⟨k,g⟩ a w hI H;dsimp only at hI H;obtain ⟨hk,he,hgm⟩:=hI;have anY:=aD hgm hc1;have acd:=wW.mono hgm;dsimp only [lca,aQ] at H;refine cK 8 H ?_ ?_ <;> clear H
 ·intro p31
  have hk2:k < s.lists.length:=by omega
  have hk1:k - 1 < s.lists.length:=by omega
  obtain ⟨lb,lo,B,d,rfl,hrow,hlv⟩:=Ir acd hk2;obtain ⟨_,_,_,_,HY,hrow',-⟩:=Ir acd hk1
  intro a H;injection HY with HY
  injection HY with e1 e2
  subst e1;subst e2
  have hek:yE s.lists k=bP [jJ (fun k=>(s.lists[k]?.map dz.id).getD 0) k,dZ s.lists[k].levels]:=by unfold yE;rw [dV hk2];rfl
  have hinc:xq s.lists[k].id s.lists[k - 1].id (decide ((k:Int)=0))=jJ (fun k=>(s.lists[k]?.map dz.id).getD 0) k:=by
   rw [← Wp];(try dsimp only);rw [dV hk2,dV hk1];simp
  refine dG 8 H ?_;clear H;intro a H;refine aT og (cs:=[vi s.lists[k].id,.slice B s.lists[k].levels.length d]) H wn rfl rfl (fun j v hj=>H.hp.aC (hrow j v hj)) rfl ?_;clear H;intro a H;refine dx og H wn rfl ?_;clear H;intro b5 a w hb5 H;refine bq og 0 (vs:=[_,_]) _ H wn rfl rfl rfl rfl rfl rfl rfl rfl ?_;clear H;intro w H;dsimp only [List.set,setRow] at H;refine aH 3 H ?_;clear H;intro a H;refine dI hmx [[],[0],[],[2],[],[4],[4,5],(ra 2 5),(ra 2 6),(ra 2 7),[],[10],(ra 0 12),(ra 0 13)] [13] (by kernel_rfl) [_,vi s.lists[k].id,_,_,_,_,vi ((k - 1:Nat):Int),_,_,_,_,_,vi (jJ (fun k=>(s.lists[k]?.map dz.id).getD 0) k)] H (aF (Z0 rfl (Rf Dx rfl)) (Z1 0 39 rfl (Ro bC 0 rfl)) (Z0 rfl (Rf vG rfl)) (X1 2 41 rfl fun hG=>Rg oL rfl (aD hG anY)) (aF (Z0 rfl (Rm rfl)) (Z1 4 43 rfl (Rs rfl)) ?_ (Z2 3 42 6 45 rfl (Ri pQ og rfl rfl)) (aF (Z1 7 46 rfl (Rf Dx rfl)) (X1 8 47 rfl fun hG=>Rg bC rfl (aD hG (hrow' 0 _ rfl))) (Z0 rfl (Rm rfl)) (Z1 10 49 rfl (Rc rfl)) (aW ?_ (aW (bS rfl) cZ))))) ?_
  ·refine dM 5 44 rfl rfl fun _ a w G1 hG HT H fin=>?_;refine FJ H wn rfl rfl rfl ?_;clear H;intro a H;exact fin H iJ (aB vi (by omega))
  ·refine tQ 1 40 9 48 11 50 rfl rfl fun _ a w G1 hG HT H fin=>?_;refine s_call Ua H wn rfl (Wq _ _ H.ro s.lists[k].id s.lists[k - 1].id (decide ((k:Int)=0))) rfl ?_;clear H;rintro v51 G51 a w ⟨rfl,-⟩ ano H;exact fin H ano (aB vi hinc)
  clear H;intro a w G nV H hv;have H:=H.aV (hv 12 51 rfl rfl) rfl;clear hv;refine t1 6 H ?_;clear H;refine goB 0 ?_ ?_
  ·intro p53
   have e:jU s=jJ (fun k=>(s.lists[k]?.map dz.id).getD 0) k:=by
    have h1:yE s.lists k=jJ (fun k=>(s.lists[k]?.map dz.id).getD 0) k:=by rw [hek,wP p53]
    have h2:wM s.lists=jJ (fun k=>(s.lists[k]?.map dz.id).getD 0) k:=by rw [Cn,yR hk2 he (by rw [h1];exact p53),h1]
    rw [XP e0 (by rw [h2];exact p53),h2]
   refine aJ 4 ?_;exact (aB vi e.symm)
  intro p53
  refine aj 4 ?_;intro a H;refine s_call aaM H wn rfl (ZJ _ _ H.ro s.lists[k].levels _ (hlv.mono nV) (hz.lt _ (iq hk2))) rfl ?_;clear H;rintro v57 G57 a w rfl aoM H;refine eO 6 H ?_ ?_ <;> clear H
  ·intro p59
   have e:jU s=dZ s.lists[k].levels:=by
    have h1:yE s.lists k=dZ s.lists[k].levels:=by rw [hek,iF (fD.1 p53),wP p59]
    have h2:wM s.lists=dZ s.lists[k].levels:=by rw [Cn,yR hk2 he (by rw [h1];exact p59),h1]
    rw [XP e0 (by rw [h2];exact p59),h2]
   refine aJ 4 ?_;exact (aB vi e.symm)
  intro p59
  refine aj 5 ?_;intro a H;refine aI ?_;refine bR ((k+1,G57)) (by exact (H.bY (Pl:=[_]) (bT:=[]) [] (by decide) rfl).sub ⟨rfl,rfl,aY⟩) ?_ ?_
  ·(try dsimp only);exact ⟨by omega,Oo hk2 he (by rw [hek,iF (fD.1 p53),iF (fD.1 p59)];rfl),fun b o h=>aoM b o (nV b o (hgm b o h))⟩
  first|omega|(dsimp only;omega)
 intro p31
 refine aj 2 ?_
 have yZ:wM s.lists=0:=by rw [Cn,Om (by omega) he]
 have anZ:=aD hgm hc2;have aob:=aD hgm hc3;replace hcm:=hcm.mono hgm;replace hva:=hva.mono hgm;refine goB 6 ?_ ?_
 ·intro p64
  have e:jU s=9:=by
   have h:um s.comments=9:=QL (m:=1024) (by omega);rw [IL e0 yZ (by rw [h];decide),h]
  refine aJ 3 ?_;exact (aB vi e.symm)
 intro p64
 have Ho:um s.comments=fV (uw s.comments) s.comments.length:=QK (m:=1024) (by omega);refine aj 6 ?_;intro a H;refine dD (ι:=Nat × GH) (Tc:=[(1,_)]) (Lc:=[]) (fun gh=>[(8,vi gh.1)]) (fun gh=>[]) (fun gh=>gh.2) (fun gh=>gh.1≤s.comments.length∧bP (((List.range s.comments.length).map (uw s.comments)).drop gh.1)=fV (uw s.comments) s.comments.length∧(∀ b o,g b=some o→gh.2 b=some o)) (fun gh=>s.comments.length - gh.1) ((0,g)) sB ?_ ?_
 ·exact ⟨eG _,rfl,fun _ _ h=>h⟩
 clear H;rintro ⟨i,g2⟩ a w hI H;dsimp only at hI H;obtain ⟨hi,hce,jI⟩:=hI;have abG:=aD jI anZ;have Vl:=hcm.mono jI;dsimp only [lca,aQ] at H;refine cK 8 H ?_ ?_ <;> clear H
 ·intro p69
  have hi2:i < s.comments.length:=by omega
  have hi1:i - 1 < s.comments.length:=by omega
  obtain ⟨cb,co,rfl,abL,-⟩:=Jm Vl hi2;obtain ⟨_,_,Vm,aop,-⟩:=Jm Vl hi1
  intro a H;injection Vm with Vm
  injection Vm with e1 e2
  subst e1;subst e2;have hte:=hz.ct _ (iq hi2);obtain ⟨x,hx⟩:∃ x,x=s.comments[i]:=⟨_,rfl⟩
  have Hz:uw s.comments i=Av s.comments i x:=by unfold uw;rw [dV hi2,hx]
  have aoD:xq x.id s.comments[i - 1].id (decide ((i:Int)=0))=jJ (fun k=>(s.comments[k]?.map eY.id).getD 0) i:=by
   rw [← Wp];(try dsimp only);rw [dV hi2,dV hi1,hx];simp
  rw [← hx] at abL hte;refine dG 8 H ?_;clear H;intro a H;refine aT uV (cs:=x.cells) H wn rfl rfl (fun j v hj=>H.hp.aC (abL j v hj)) rfl ?_;clear H;intro a H;refine dx uV H wn rfl ?_;clear H;intro b9 a w qE H;refine bq uV 0 (vs:=[_,_,_,_,_,_]) _ H wn rfl rfl rfl rfl rfl rfl rfl rfl ?_;clear H;intro w H;dsimp only [List.set,setRow] at H;refine aH 3 H ?_;clear H;intro a H;refine dI hmx [[],[0],[],[2],[],[4],[4,5],(ra 2 5),(ra 2 6),(ra 2 7),[],[10],(ra 0 12),(ra 0 13)] [13] (by kernel_rfl) [_,vi x.id,_,_,_,_,vi ((i - 1:Nat):Int),_,_,_,_,_,vi (jJ (fun k=>(s.comments[k]?.map eY.id).getD 0) i)] H (aF (Z0 rfl (Rf Un rfl)) (Z1 0 77 rfl (Ro bC 0 rfl)) (Z0 rfl (Rf Mc rfl)) (X1 2 79 rfl fun hG=>Rg Bw rfl (aD hG abG)) (aF (Z0 rfl (Rm rfl)) (Z1 4 81 rfl (Rs rfl)) ?_ (Z2 3 80 6 83 rfl (Ri Ai uV rfl rfl)) (aF (Z1 7 84 rfl (Rf Un rfl)) (X1 8 85 rfl fun hG=>Rg bC rfl (aD hG (aop 0 _ rfl))) (Z0 rfl (Rm rfl)) (Z1 10 87 rfl (Rc rfl)) (aW ?_ (aW (bS rfl) cZ))))) ?_
  ·refine dM 5 82 rfl rfl fun _ a w G1 hG HT H fin=>?_;refine FJ H wn rfl rfl rfl ?_;clear H;intro a H;exact fin H iJ (aB vi (by omega))
  ·refine tQ 1 78 9 86 11 88 rfl rfl fun _ a w G1 hG HT H fin=>?_;refine s_call Ua H wn rfl (Wq _ _ H.ro x.id s.comments[i - 1].id (decide ((i:Int)=0))) rfl ?_;clear H;rintro v89 YU a w ⟨rfl,-⟩ anr H;exact fin H anr (aB vi aoD)
  clear H;intro a w G vJ H hv;have H:=H.aV (hv 12 89 rfl rfl) rfl;clear hv;refine t1 6 H ?_;clear H;refine goB 0 ?_ ?_
  ·intro zu
   have e:jU s=jJ (fun k=>(s.comments[k]?.map eY.id).getD 0) i:=by
    have h1:uw s.comments i=jJ (fun k=>(s.comments[k]?.map eY.id).getD 0) i:=by rw [Hz,Av,wP zu]
    have h2:um s.comments=jJ (fun k=>(s.comments[k]?.map eY.id).getD 0) i:=by rw [Ho,yR hi2 hce (by rw [h1];exact zu),h1]
    rw [IL e0 yZ (by rw [h2];exact zu),h2]
   refine aJ 4 ?_;exact (aB vi e.symm)
  intro zu
  refine aj 12 ?_;intro a H;refine dD (ι:=Nat × Bool × GH) (Tc:=[(1,_),(8,_),(9,_)]) (Lc:=[(_,_)]) (fun gh=>[(11,.bool gh.2.1),(12,vi gh.1)]) (fun gh=>[]) (fun gh=>gh.2.2) (fun gh=>gh.1≤i∧gh.2.1=(decide (x.parent=0) || ((s.comments.take gh.1).findIdx? fun y=>decide (y.id=x.parent)).isSome)∧(∀ b o,g2 b=some o→gh.2.2 b=some o)) (fun gh=>i - gh.1) ((0,decide (x.parent=0),_)) sB ?_ ?_
  ·exact ⟨eG _,by simp,vJ⟩
  clear H;rintro ⟨j,fb,g3⟩ a w hI H;dsimp only at hI H;obtain ⟨hj,Vr,ru⟩:=hI;have aoa:=aD ru abG;dsimp only [lca,aQ] at H;refine cK 6 H ?_ ?_ <;> clear H
  ·intro Nw
   have hj2:j < i:=by omega
   have hj1:j < s.comments.length:=by omega
   obtain ⟨_,_,Vn,aoq,-⟩:=Jm (Vl.mono ru) hj1
   intro a H;injection Vn with Vn
   injection Vn with e1 e2
   subst e1;subst e2;refine dG 3 H ?_;clear H
   intro a H;by_cases f0:fb=true
   ·refine dI hmx [[],[0],[0,1],[0,1,2],[0,1],(ra 0 5),(ra 0 6),(ra 0 7),[0,1],[0,1,8],(ra 0 10),(ra 0 11),(ra 0 12)] [12] (by kernel_rfl) [_,.bool (decide (fb=true)),undef,undef,undef,undef,undef,undef,undef,undef,undef,.bool (fb || decide (s.comments[j].id=x.parent))] H (aF (Z0 rfl (Rm rfl)) ?_ (aO 1 (aG f0) rfl rfl) (aO 1 (aG f0) rfl rfl) (aF (aO 1 (aG f0) rfl rfl) (aO 1 (aG f0) rfl rfl) (aO 1 (aG f0) rfl rfl) (aO 1 (aG f0) rfl rfl) (aF (aO 1 (aG f0) rfl rfl) (aO 1 (aG f0) rfl rfl) (aO 1 (aG f0) rfl rfl) ?_ (aW (bS rfl) cZ)))) ?_
    ·refine dM 0 101 rfl rfl fun _ a w G1 hG HT H fin=>?_;refine aH 1 H ?_;clear H;intro a H;exact fin H iJ (by show _=_;simp)
    ·refine dP 1 102 10 111 rfl rfl fun _ a w G1 hG HT H fin=>?_;refine aH 1 H ?_;clear H;intro a H;exact fin H iJ (dJ (by first|(rw [f0];rfl)|(rw [Bool.eq_false_iff.2 f0];rfl)))
    clear H;intro a w G Hr H hv;have H:=H.aV (hv 11 112 rfl rfl) rfl;clear hv;refine t1 6 H ?_;clear H;intro a H;refine aI ?_;refine bR ((j+1,_,_)) sB ?_ ?_
    ·try dsimp only
     exact ⟨by omega,by rw [afl hj1,← Bool.or_assoc,← Vr];cases fb <;> rfl,fun b o h=>Hr b o (ru b o h)⟩
    first|omega|(dsimp only;omega)
   refine dI hmx [[],[0],[0,1],[0,1,2],[0,1],(ra 0 5),(ra 0 6),(ra 0 7),[0,1],[0,1,8],(ra 0 10),(ra 0 11),(ra 0 12)] [12] (by kernel_rfl) [_,.bool (decide (fb=true)),_,_,_,_,_,_,_,vi x.parent,_,.bool (fb || decide (s.comments[j].id=x.parent))] H (aF (Z0 rfl (Rm rfl)) ?_ (Z1 1 102 rfl (YF Mc (aN f0) rfl)) (X2 2 103 1 102 rfl fun hG=>YR Bw (aN f0) rfl (aD hG aoa)) (aF (Z1 1 102 rfl (YM (aN f0) rfl)) (Z3 3 104 4 105 1 102 rfl (YI Ai uV (aN f0) rfl rfl)) (Z2 5 106 1 102 rfl (YF Un (aN f0) rfl)) (X2 6 107 1 102 rfl fun hG=>YR bC (aN f0) rfl (aD hG (aoq 0 _ rfl))) (aF (Z1 1 102 rfl (YF ame (aN f0) rfl)) (Z2 8 109 1 102 rfl (YO bC 0 (aN f0) rfl)) (Z3 7 108 9 110 1 102 rfl (YC (aN f0) rfl)) ?_ (aW (bS rfl) cZ)))) ?_
   ·refine dM 0 101 rfl rfl fun _ a w G1 hG HT H fin=>?_;refine aH 1 H ?_;clear H;intro a H;exact fin H iJ (by show _=_;simp)
   ·refine dP 1 102 10 111 rfl rfl fun _ a w G1 hG HT H fin=>?_;refine aH 1 H ?_;clear H;intro a H;exact fin H iJ (dJ (by first|(rw [f0];rfl)|(rw [Bool.eq_false_iff.2 f0];rfl)))
   clear H;intro a w G Hr H hv;have H:=H.aV (hv 11 112 rfl rfl) rfl;clear hv;refine t1 6 H ?_;clear H;intro a H;refine aI ?_;refine bR ((j+1,_,_)) sB ?_ ?_
   ·try dsimp only
    exact ⟨by omega,by rw [afl hj1,← Bool.or_assoc,← Vr];cases fb <;> rfl,fun b o h=>Hr b o (ru b o h)⟩
   first|omega|(dsimp only;omega)
  intro Nw
  refine aj 3 ?_
  have hbef:fb=EM s.comments i x:=by rw [Vr,show j=i by omega];rfl
  refine goC 5 ?_ ?_
  ·intro Pm
   have e:jU s=8:=by
    have h1:uw s.comments i=8:=by rw [Hz,Av,iF (fD.1 zu),← hbef,show (!fb)=true from Pm];rfl
    have h2:um s.comments=8:=by rw [Ho,yR hi2 hce (by rw [h1];decide),h1]
    rw [IL e0 yZ (by rw [h2];decide),h2]
   refine aJ 3 ?_;exact (aB vi e.symm)
  intro Pm
  try have CG:=dF Pm
  have w8:bK (!EM s.comments i x) 8=0:=by rw [← hbef,show (!fb)=false from Pm];rfl
  refine aj 3 ?_;intro a H;refine s_call aaG H wn rfl (Zf _ _ H.ro x.author hte.1) rfl ?_;clear H;rintro axu _ a w ⟨rfl,rfl⟩ - H;refine fE 3 H ?_ ?_ <;> clear H
  ·intro h116
   have e:jU s=39:=by
    have h1:uw s.comments i=39:=by rw [Hz,Av,iF (fD.1 zu),iF w8,show (!oq x.author)=true from h116];rfl
    have h2:um s.comments=39:=by rw [Ho,yR hi2 hce (by rw [h1];decide),h1]
    rw [IL e0 yZ (by rw [h2];decide),h2]
   refine aJ 3 ?_;exact (aB vi e.symm)
  intro h116
  try have Q0:=dF h116
  have FX:bK (!oq x.author) 39=0:=by rw [show (!oq x.author)=false from h116];rfl
  refine gV 5 125 ?_ ?_
  ·intro aeE
   refine aj 7 ?_
   have e:jU s=40:=by
    have h1:uw s.comments i=40:=by rw [Hz,Av,iF (fD.1 zu),iF w8,iF FX,gD (by omega)];rfl
    have h2:um s.comments=40:=by rw [Ho,yR hi2 hce (by rw [h1];decide),h1]
    rw [IL e0 yZ (by rw [h2];decide),h2]
   refine aJ 3 ?_;exact (aB vi e.symm)
  intro aeE
  refine goB 6 ?_ ?_
  ·intro asa
   have e:jU s=40:=by
    have h1:uw s.comments i=40:=by rw [Hz,Av,iF (fD.1 zu),iF w8,iF FX,gD (by omega)];rfl
    have h2:um s.comments=40:=by rw [Ho,yR hi2 hce (by rw [h1];decide),h1]
    rw [IL e0 yZ (by rw [h2];decide),h2]
   refine aJ 3 ?_;exact (aB vi e.symm)
  intro asa
  refine aj 1 ?_
  have Sc:bK (!decide (0≤x.time∧x.time≤1099511627776)) 40=0:=by rw [eZ (by omega)];rfl
  refine aj 3 ?_;intro a H;refine s_call aaN H wn rfl (afz _ _ H.ro x.text hte.2) rfl ?_;clear H;rintro axy _ a w ⟨rfl,rfl⟩ - H;refine eO 6 H ?_ ?_ <;> clear H
  ·intro Nq
   have e:jU s=sP x.text:=by
    have h1:uw s.comments i=sP x.text:=by rw [Hz,Av,iF (fD.1 zu),iF w8,iF FX,iF Sc,wP Nq]
    have h2:um s.comments=sP x.text:=by rw [Ho,yR hi2 hce (by rw [h1];exact Nq),h1]
    rw [IL e0 yZ (by rw [h2];exact Nq),h2]
   refine aJ 4 ?_;exact (aB vi e.symm)
  intro Nq
  refine aj 5 ?_;intro a H;refine aI ?_;refine bR ((i+1,g3)) (by exact (H.bY (Pl:=[_]) (bT:=[]) [] (by decide) rfl).sub ⟨rfl,rfl,aY⟩) ?_ ?_
  ·(try dsimp only);exact ⟨by omega,Oo hi2 hce (by rw [Hz,Av,iF (fD.1 zu),iF w8,iF FX,iF Sc,iF (fD.1 Nq)];rfl),fun b o h=>ru b o (jI b o h)⟩
  first|omega|(dsimp only;omega)
 intro p69
 refine aj 2 ?_
 have Jz:um s.comments=0:=by rw [Ho,Om (by omega) hce]
 have aoc:=aD jI aob;replace hva:=hva.mono jI;refine goB 6 ?_ ?_
 ·intro asf
  have e:jU s=9:=by
   have h:zQ s.vars=9:=QL (m:=128) (by omega);rw [Kt e0 yZ Jz,h]
  refine aJ 3 ?_;exact (aB vi e.symm)
 intro asf
 have MG:zQ s.vars=fV (xH s.vars) s.vars.length:=QK (m:=128) (by omega);refine aj 6 ?_;intro a H;refine dD (ι:=Nat × GH) (Tc:=[(1,_)]) (Lc:=[]) (fun gh=>[(14,vi gh.1)]) (fun gh=>[]) (fun gh=>gh.2) (fun gh=>gh.1≤s.vars.length∧bP (((List.range s.vars.length).map (xH s.vars)).drop gh.1)=fV (xH s.vars) s.vars.length∧(∀ b o,g2 b=some o→gh.2 b=some o)) (fun gh=>s.vars.length - gh.1) ((0,g2)) sB ?_ ?_
 ·exact ⟨eG _,rfl,fun _ _ h=>h⟩
 clear H;rintro ⟨n,g4⟩ a w hI H;dsimp only at hI H;obtain ⟨hn,hne,vM⟩:=hI;have abH:=aD vM aoc;have adg:=hva.mono vM;dsimp only [lca,aQ] at H;refine cK 8 H ?_ ?_ <;> clear H
 ·intro Nr
  have hn2:n < s.vars.length:=by omega
  have hn1:n - 1 < s.vars.length:=by omega
  obtain ⟨vb,vo,rfl,adj⟩:=Sb adg hn2;obtain ⟨_,_,Vo,V8⟩:=Sb adg hn1
  intro a H;injection Vo with Vo
  injection Vo with e1 e2
  subst e1;subst e2;have hte:=hz.vt _ (iq hn2);obtain ⟨x,hx⟩:∃ x,x=s.vars[n]:=⟨_,rfl⟩;obtain ⟨y,hy⟩:∃ y,y=s.vars[n - 1]:=⟨_,rfl⟩
  have M9:xH s.vars n=FT n x y.name:=by unfold xH;rw [dV hn2,dV hn1,hx,hy];rfl
  rw [← hx] at adj hte;rw [← hy] at V8;refine dG 8 H ?_;clear H;intro a H;refine aT rP (cs:=x.cells) H wn rfl rfl (fun j v hj=>H.hp.aC (adj j v hj)) rfl ?_;clear H;intro a H;refine dx rP H wn rfl ?_;clear H;intro b15 a w Va H;refine bq rP 0 (vs:=[_,_]) _ H wn rfl rfl rfl rfl rfl rfl rfl rfl ?_;clear H;intro w H;dsimp only [List.set,setRow] at H;refine aI ?_;refine dW ?_;refine oQ (ι:=GH) (Tc:=[(1,_),(14,_),(15,_)]) (Lc:=[]) (fun gh=>[]) (fun gh=>[(b15,.cells x.cells.toArray 167 (0,0))]) (fun gh=>gh) (fun gh=>bK (!oU x.name) 13=0∧bK (decide (0 < (n:Int)) && (x.name.toList == y.name.toList)) 7=0∧bK (decide (0 < (n:Int)) && Op.bytesLess x.name.toList y.name.toList) 6=0∧(∀ b o,g4 b=some o→gh b=some o)) sB ?_ ?_
  ·refine dG 4 H ?_;clear H;intro a H;refine s_call LY H wn rfl (LP _ _ H.ro x.name hte.1) rfl ?_;clear H;rintro axB _ a w ⟨rfl,rfl⟩ - H;refine fE 3 H ?_ ?_ <;> clear H
   ·intro Px
    have e:jU s=13:=by
     have h1:xH s.vars n=13:=by rw [M9,FT,show (!oU x.name)=true from Px];rfl
     have h2:zQ s.vars=13:=by rw [MG,yR hn2 hne (by rw [h1];decide),h1]
     rw [Kt e0 yZ Jz,h2]
    refine aJ 3 ?_;exact (aB vi e.symm)
   intro Px
   try have axi:=dF Px
   have I4:bK (!oU x.name) 13=0:=by rw [show (!oU x.name)=false from Px];rfl
   refine aj 1 ?_
   intro a H;by_cases c0:0 < (n:Int)
   ·refine dI hmx [[],[0],[0,1],[0,1,2],(ra 0 4),[0,1,2],[0,1,2,5],[0,1,2],[0,1,2,7],[0,1,2,5,6,7,8],[0,1,2,5,6,7,8,9],([0,1,2]++ra 5 6),(ra 0 12),(ra 0 13),(ra 0 14)] [] (by kernel_rfl) [_,_,_,_,.string x.name,_,_,_,vi ((n - 1:Nat):Int),_,_,_,.bool ((x.name.toList == y.name.toList)),_,_] H (aF (Z0 rfl (Rm rfl)) (Z1 0 158 rfl (Rc rfl)) (Z1 1 159 rfl (Rm rfl)) (Z1 2 160 rfl (YF BZ (aG c0) rfl)) (aF (Z2 3 161 2 160 rfl (YO lY 0 (aG c0) rfl)) (Z1 2 160 rfl (YF Md (aG c0) rfl)) (X2 5 163 2 160 rfl fun hG=>YR sS (aG c0) rfl (aD hG abH)) (Z1 2 160 rfl (YM (aG c0) rfl)) (aF ?_ (Z3 6 164 8 166 2 160 rfl (YI sU rP (aG c0) rfl rfl)) (Z2 9 167 2 160 rfl (YF BZ (aG c0) rfl)) (X2 10 168 2 160 rfl fun hG=>YR lY (aG c0) rfl (aD hG (V8 0 _ rfl))) (aW ?_ (aW (Z2 2 160 12 170 rfl (Pt (aG c0) rfl)) (aW (Z1 13 171 rfl (Ra rfl)) cZ)))))) ?_
    ·refine dP 7 165 2 160 rfl rfl fun _ a w G1 hG HT H fin=>?_;refine lC _ H (wg H rfl rfl (aG c0)) rfl rfl rfl (by omega) (by omega) rfl ?_;clear H;intro a H;exact fin H iJ (by show _=_;first|rfl|exact aB vi (by omega))
    ·refine tQ 4 162 11 169 2 160 rfl rfl fun _ a w G1 hG HT H fin=>?_;refine CQ H (wg H rfl rfl (aG c0)) rfl rfl rfl ?_;clear H;intro a H;exact fin H iJ rfl
    clear H;intro a w G DR H hv;have H:=H.aV (hv 14 157 rfl rfl) rfl;clear hv;refine t0 1 H ?_;clear H;refine goC 0 ?_ ?_
    ·intro Mg
     have e:jU s=7:=by
      have h1:xH s.vars n=7:=by rw [M9,FT,iF I4,eZ c0,tY,Mg];rfl
      have h2:zQ s.vars=7:=by rw [MG,yR hn2 hne (by rw [h1];decide),h1]
      rw [Kt e0 yZ Jz,h2]
     refine aJ 3 ?_;exact (aB vi e.symm)
    intro Mg
    try have axk:=dF Mg
    refine aj 1 ?_
    have z7:bK (decide (0 < (n:Int)) && (x.name.toList == y.name.toList)) 7=0:=by first|(rw [eZ c0,tY,Mg];rfl)|(rw [gD c0,uf];rfl)
    have c1:0 < (n:Int):=c0;intro a H;refine dI hmx [[],[0],[0,1],[0,1,2],(ra 0 4),[0,1,2],[0,1,2,5],[0,1,2],[0,1,2,7],[0,1,2,5,6,7,8],[0,1,2,5,6,7,8,9],([0,1,2]++ra 5 6),(ra 0 12),(ra 0 13),(ra 0 14)] [] (by kernel_rfl) [_,_,_,_,.string x.name,_,_,_,vi ((n - 1:Nat):Int),_,_,_,.bool (Op.bytesLess x.name.toList y.name.toList),_,_] H (aF (Z0 rfl (Rm rfl)) (Z1 0 173 rfl (Rc rfl)) (Z1 1 174 rfl (Rm rfl)) (Z1 2 175 rfl (YF BZ (aG c1) rfl)) (aF (Z2 3 176 2 175 rfl (YO lY 0 (aG c1) rfl)) (Z1 2 175 rfl (YF Md (aG c1) rfl)) (X2 5 178 2 175 rfl fun hG=>YR sS (aG c1) rfl (aD hG (aD DR abH))) (Z1 2 175 rfl (YM (aG c1) rfl)) (aF ?_ (Z3 6 179 8 181 2 175 rfl (YI sU rP (aG c1) rfl rfl)) (Z2 9 182 2 175 rfl (YF BZ (aG c1) rfl)) (X2 10 183 2 175 rfl fun hG=>YR lY (aG c1) rfl (aD hG (aD DR (V8 0 _ rfl)))) (aW ?_ (aW (Z2 2 175 12 185 rfl (Pt (aG c1) rfl)) (aW (Z1 13 186 rfl (Ra rfl)) cZ)))))) ?_
    ·refine dP 7 180 2 175 rfl rfl fun _ a w G1 hG HT H fin=>?_;refine lC _ H (wg H rfl rfl (aG c1)) rfl rfl rfl (by omega) (by omega) rfl ?_;clear H;intro a H;exact fin H iJ (by show _=_;first|rfl|exact aB vi (by omega))
    ·refine tQ 4 177 11 184 2 175 rfl rfl fun _ a w G1 hG HT H fin=>?_;refine afb H (wg H rfl rfl (aG c1)) rfl rfl rfl ?_;clear H;intro a H;exact fin H iJ rfl
    clear H;intro a w G UM H hv;have H:=H.aV (hv 14 172 rfl rfl) rfl;clear hv;refine t0 1 H ?_;clear H;refine goC 0 ?_ ?_
    ·intro Mh
     have e:jU s=6:=by
      have h1:xH s.vars n=6:=by rw [M9,FT,iF I4,iF z7,eZ c0,tY,Mh];rfl
      have h2:zQ s.vars=6:=by rw [MG,yR hn2 hne (by rw [h1];decide),h1]
      rw [Kt e0 yZ Jz,h2]
     refine aJ 3 ?_;exact (aB vi e.symm)
    intro Mh
    try have axn:=dF Mh
    intro a H;refine iE ?_;refine ⟨_,sB,?_⟩;exact ⟨I4,z7,by first|(rw [eZ c0,tY,Mh];rfl)|(rw [gD c0,uf];rfl),fun b o h=>UM b o (DR b o h)⟩
   refine dI hmx [[],[0],[0,1],[0,1,2],(ra 0 4),[0,1,2],[0,1,2,5],[0,1,2],[0,1,2,7],[0,1,2,5,6,7,8],[0,1,2,5,6,7,8,9],([0,1,2]++ra 5 6),(ra 0 12),(ra 0 13),(ra 0 14)] [] (by kernel_rfl) [_,_,_,undef,undef,undef,undef,undef,undef,undef,undef,undef,undef,_,_] H (aF (Z0 rfl (Rm rfl)) (Z1 0 158 rfl (Rc rfl)) (Z1 1 159 rfl (Rm rfl)) (aO 2 (aN c0) rfl rfl) (aF (aO 2 (aN c0) rfl rfl) (aO 2 (aN c0) rfl rfl) (aO 2 (aN c0) rfl rfl) (aO 2 (aN c0) rfl rfl) (aF (aO 2 (aN c0) rfl rfl) (aO 2 (aN c0) rfl rfl) (aO 2 (aN c0) rfl rfl) (aO 2 (aN c0) rfl rfl) (aW (aO 2 (aN c0) rfl rfl) (aW (Z2 2 160 12 170 rfl (Pf (aN c0) rfl)) (aW (Z1 13 171 rfl (Ra rfl)) cZ)))))) ?_
   clear H;intro a w G DR H hv;have H:=H.aV (hv 14 157 rfl rfl) rfl;clear hv;refine t0 3 H ?_;clear H
   have z7:bK (decide (0 < (n:Int)) && (x.name.toList == y.name.toList)) 7=0:=by first|(rw [eZ c0,tY,Mg];rfl)|(rw [gD c0,uf];rfl)
   have c1:¬ (0 < (n:Int)):=c0;intro a H;refine dI hmx [[],[0],[0,1],[0,1,2],(ra 0 4),[0,1,2],[0,1,2,5],[0,1,2],[0,1,2,7],[0,1,2,5,6,7,8],[0,1,2,5,6,7,8,9],([0,1,2]++ra 5 6),(ra 0 12),(ra 0 13),(ra 0 14)] [] (by kernel_rfl) [_,_,_,undef,undef,undef,undef,undef,undef,undef,undef,undef,undef,_,_] H (aF (Z0 rfl (Rm rfl)) (Z1 0 173 rfl (Rc rfl)) (Z1 1 174 rfl (Rm rfl)) (aO 2 (aN c1) rfl rfl) (aF (aO 2 (aN c1) rfl rfl) (aO 2 (aN c1) rfl rfl) (aO 2 (aN c1) rfl rfl) (aO 2 (aN c1) rfl rfl) (aF (aO 2 (aN c1) rfl rfl) (aO 2 (aN c1) rfl rfl) (aO 2 (aN c1) rfl rfl) (aO 2 (aN c1) rfl rfl) (aW (aO 2 (aN c1) rfl rfl) (aW (Z2 2 175 12 185 rfl (Pf (aN c1) rfl)) (aW (Z1 13 186 rfl (Ra rfl)) cZ)))))) ?_
   clear H;intro a w G UM H hv;have H:=H.aV (hv 14 172 rfl rfl) rfl;clear hv;refine t0 2 H ?_;clear H;intro a H;refine iE ?_;refine ⟨_,sB,?_⟩;exact ⟨I4,z7,by first|(rw [eZ c0,tY,Mh];rfl)|(rw [gD c0,uf];rfl),fun b o h=>UM b o (DR b o h)⟩
  clear H;intro g5 a w hI H;obtain ⟨I4,z7,z6,aoA⟩:=hI;dsimp only [lca,aQ] at H;refine dG 3 H ?_;clear H;intro a H;refine s_call aaN H wn rfl (afz _ _ H.ro x.value hte.2) rfl ?_;clear H;rintro axE _ a w ⟨rfl,rfl⟩ - H;refine eO 6 H ?_ ?_ <;> clear H
  ·intro Q7
   have e:jU s=sP x.value:=by
    have h1:xH s.vars n=sP x.value:=by rw [M9,FT,iF I4,iF z7,iF z6,wP Q7]
    have h2:zQ s.vars=sP x.value:=by rw [MG,yR hn2 hne (by rw [h1];exact Q7),h1]
    rw [Kt e0 yZ Jz,h2]
   refine aJ 4 ?_;exact (aB vi e.symm)
  intro Q7
  refine aj 5 ?_;intro a H;refine aI ?_;refine bR ((n+1,g5)) (by exact (H.bY (Pl:=[_]) (bT:=[]) [] (by decide) rfl).sub ⟨rfl,rfl,aY⟩) ?_ ?_
  ·(try dsimp only);exact ⟨by omega,Oo hn2 hne (by rw [M9,FT,iF I4,iF z7,iF z6,iF (fD.1 Q7)];rfl),fun b o h=>aoA b o (vM b o h)⟩
  first|omega|(dsimp only;omega)
 intro Nr
 refine aj 1 ?_
 have e:jU s=0:=by rw [Kt e0 yZ Jz,MG,Om (by omega) hne]
 refine aJ 3 ?_;exact (aB vi e.symm)
end
end Go.Proofs.YthmanofbmnfemaaGreat
