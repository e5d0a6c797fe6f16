/-
  What the claim stands on, part 6: Mus Usd Mud Rf13 Kt K13 Kn13 Mid Mhd Mow Mro Mfl Sms13 Par It Div Cl Rc Nrm Pas L14 L14b L14c L14d L14e Sl Txt Sec K14 K14b Sml.
-/
import Derived.Test.YthmanofbmnfemaaGreatWae
namespace Go.Proofs.YthmanofbmnfemaaGreat
open Go.Proofs.Tryz
section
open Go.RowKit
theorem Ev:prog.underlying 112=some (.slice 29):=by kernel_rfl
theorem abC (G:GH) (k:Int):aB G (li k) (vi k):=by simp [aB,li,Value.oneCell']
def rH (r:bH):List dz:=r.head :: r.cells.map bq.head
def mH (x:aC):List dz:=x.head :: (if x.kind=7 then x.rows.flatMap rH else [])
def pH (p:jT):List dz:=p.items.flatMap mH
def Ap (l:List aC) (h:dz):List dz:=h :: (lS l).flatMap pH
abbrev hS (f:dz→Nat) (L:List dz):Nat:=(L.map f).sum
theorem Bw (f:dz→Nat) (A B:List dz):hS f (A++B)=hS f A+hS f B:=by simp [hS]
theorem Bz (f:dz→Nat) (x:dz) (A:List dz):hS f (x :: A)=f x+hS f A:=by simp [hS]
theorem amH (k c i:Int) (tx:ByteArray) (h:dz) (fl:List aC) (r:List bH):mH (.mk k c i tx h fl r)=h :: (if k=7 then r.flatMap rH else []):=rfl
mutual
theorem alo (f:dz→Nat) (g:Int) (t:Nat) (note:Bool) (tt:Int):∀ x:aC,hS f (mH x)+hS f ((Dt g t note tt x).flatMap pH)=hS f (DY x)
 | .mk k c i tx h fl r=>by
  have hf:=Ph f i true tt 0 fl;have hr:=aaR f g t note (tt+1) r;rw [Dt,DY,amH]
  by_cases h6:k=6
  ·have h7:¬ k=7:=by omega
   rw [ah h7,au h6,au h6,ah h7,mW,List.flatMap_cons,Bz,Bz,Bw]
   show f h+hS f []+(hS f (fl.flatMap mH)+_)=_
   have:hS f []=0:=rfl
   omega
  by_cases h7:k=7
  ·rw [au h7,ah h6,au h7,ah h6,au h7,jB,Bz,Bz]
   omega
  rw [ah h7,ah h6,ah h7,ah h6,ah h7];rfl
theorem Ph (f:dz→Nat) (g:Int) (note:Bool) (tt:Int):∀ (t:Nat) (l:List aC),hS f (l.flatMap mH)+hS f ((qF g note tt t l).flatMap pH)=hS f (mh l)
 | _,[]=>by rw [qF,mh];rfl
 | t,x :: l=>by
  have h1:=alo f g t note tt x;have h2:=Ph f g note tt (t+n1 x) l;rw [qF,mh,List.flatMap_cons,List.flatMap_append,Bw,Bw,Bw];omega
theorem alp (f:dz→Nat) (g:Int) (t:Nat) (note:Bool) (tt:Int):∀ x:bH,hS f (rH x)+hS f ((Du g t note tt x).flatMap pH)=hS f (DZ x)
 | .mk h cs=>by
  have hc:=aaP f g t note tt cs;rw [Du,DZ]
  unfold rH
  dsimp only [bH.head,bH.cells];rw [Bz,Bz];omega
theorem aaR (f:dz→Nat) (g:Int) (t:Nat) (note:Bool) (tt:Int):∀ l:List bH,hS f (l.flatMap rH)+hS f ((rW g t note tt l).flatMap pH)=hS f (vK l)
 | []=>by rw [rW,vK];rfl
 | x :: l=>by
  have h1:=alp f g t note tt x;have h2:=aaR f g t note tt l;rw [rW,vK,List.flatMap_cons,List.flatMap_append,Bw,Bw,Bw];omega
theorem aln (f:dz→Nat) (g:Int) (t:Nat) (note:Bool) (tt:Int):∀ x:bq,f x.head+hS f ((EW g t note tt x).flatMap pH)=hS f (DW x)
 | .mk i h fl=>by
  have hf:=Ph f i note tt 0 fl;rw [X5,DW];dsimp only [bq.id,bq.flow,bq.head];rw [List.flatMap_cons,Bz,Bw]
  show f h+(hS f (fl.flatMap mH)+_)=_
  omega
theorem aaP (f:dz→Nat) (g:Int) (t:Nat) (note:Bool) (tt:Int):∀ l:List bq,hS f (l.map bq.head)+hS f ((vk g t note tt l).flatMap pH)=hS f (wQ l)
 | []=>by rw [vk,wQ];rfl
 | x :: l=>by
  have h1:=aln f g t note tt x;have h2:=aaP f g t note tt l;rw [vk,wQ,dW,List.flatMap_append,Bz,Bw,Bw];omega
end
theorem aaQ (L:List dz):hS (fun _=>1) L=L.length:=by
 induction L with
 | nil=>rfl
 | cons x L ih=>rw [Bz,ih,jZ];omega
mutual
theorem ajf:∀ x:aC,(DY x).length < dh x.dat
 | .mk k c i tx h fl r=>by
  have h4:=oN (.mk k c i tx h fl r);have hf:=OE fl;have hr:=ZT r;dsimp only [aC.text,aC.head,aC.flow,aC.rows] at h4;rw [DY,jZ,jC]
  split <;> split <;> (try simp only [List.length_nil]) <;> omega
theorem OE:∀ l:List aC,(mh l).length≤bB l
 | []=>by simp [mh]
 | x :: l=>by
  have h1:=ajf x;have h2:=OE l;rw [mh,jC]
  simp only [bB,dW,eu] at *;omega
theorem ajp:∀ x:bH,(DZ x).length≤dh x.dat
 | .mk h cs=>by
  have h4:=tY (.mk h cs);have hc:=ZH cs;dsimp only [bH.head,bH.cells] at h4;rw [DZ,jZ];omega
theorem ZT:∀ l:List bH,(vK l).length≤eG l
 | []=>by simp [vK]
 | x :: l=>by
  have h1:=ajp x;have h2:=ZT l;rw [vK,jC]
  simp only [eG,dW,eu] at *;omega
theorem aiH:∀ x:bq,(DW x).length≤dh x.dat
 | .mk i h fl=>by
  have h4:=uX (.mk i h fl);have hf:=OE fl;dsimp only [bq.head,bq.flow] at h4;rw [DW,jZ];omega
theorem ZH:∀ l:List bq,(wQ l).length≤iC l
 | []=>by simp [wQ]
 | x :: l=>by
  have h1:=aiH x;have h2:=ZH l;rw [wQ,jC]
  simp only [iC,dW,eu] at *;omega
end
theorem aaO (f:dz→Nat) (l:List aC) (h:dz):hS f (Ap l h)=f h+hS f (mh l):=by
 have h1:=Ph f 0 false 0 0 l
 unfold Ap
 rw [Bz,← h1]
 show f h+hS f (pH ⟨0,l,-1,0,false,0⟩++(qF 0 false 0 0 l).flatMap pH)=_
 rw [Bw]
 rfl
theorem abJ (l:List aC) (h:dz):(Ap l h).length≤1+bB l:=by
 have h1:=aaO (fun _=>1) l h;have h2:=OE l;rw [aaQ,aaQ] at h1
 omega
theorem aaf {G:GH} {h:dz} {p d y:aj} (hR:nS G h p d y):bM G h.dat [p,vi h.marks.ins,vi h.marks.move,d,y] :=
 ⟨_,_,rfl,hR.props,_,_,rfl,abC G _,_,_,rfl,abC G _,_,_,rfl,hR.bJ,_,_,rfl,hR.layers,rfl⟩
structure BU (g:GH) (v:aj) (R:List dz) (xs:List aj) (Lo:OL):Prop where
 row:gJ 29 5 v R.length xs Lo
 cat:gP g 5 (R.map dz.dat) xs
theorem BU.snoc {g:GH} {v v':aj} {R:List dz} {xs:List aj} {Lo jR:OL} {h:dz} {p d y:aj} (hr:BU g v R xs Lo) (hh:nS g h p d y) (h2:gJ 29 5 v' (R.length+1) (xs++[p,vi h.marks.ins,vi h.marks.move,d,y]) jR):BU g v' (R++[h]) (xs++[p,vi h.marks.ins,vi h.marks.move,d,y]) jR :=
 ⟨by rw [jC];exact h2,by rw [kZ];exact hr.cat.snoc (aaf hh) rfl⟩
theorem akh {e b:Nat} {xs:List aj} (h:xs.length=5):gJ e 5 (.slice (some ⟨b,0,none⟩) 1 1) 1 xs [(b,.cells xs.toArray e (0,0))]:=⟨by rw [h],.inr ⟨b,1,xs.toArray,rfl,rfl,dB _,by decide,by simp [h],by simp [← h]⟩⟩
theorem amR (G:GH) (w0:World) (hG:Hold G w0) (D:jP) (l:List aC) (hv:aB G (.sl 11 (l.map aC.dat)) (bg D.f)) (hz:bB l≤1073741824) :
  Calls prog 15 #[D.val] w0 (bV w0 G fun u G'=>u=vi (og (gK l))):=by
 have hml:maxLen=9223372036854775807:=rfl;have hbw:=GL l
 have hbl:(gK l).length≤1073741825:=by
  have hn:=Ew false 0 l;rw [gK,jZ];omega
 refine eN [(0,_)] func15 rfl ntmps15 rfl rfl hG ?_;intro a H;refine cO (fun _ K1=>?_);refine fD (cs:=[_,_,_,_,_,_,_,_,_,_,_]) H wn rfl rfl rfl ?_;clear H;intro b1 a w hb1 H;refine kH H (ak K1 rfl (SR fun _ K2=>ak K2 rfl (SR fun _ K3=>?_)));clear H K1 K2;intro a H;refine bK lV (cs:=[_,_,_,_,_,_,_,_,_,_,_]) H wn rfl rfl (H.hp.fG 0 rfl rfl) rfl ?_;clear H;intro a H;refine s_call RD H wn rfl (Sz _ _ H.ro D l hv (by omega)) rfl ?_;clear H;rintro v9 G9 a w MH JL H;obtain ⟨A4,n4,c4,rfl⟩:=MH.form;have JQ:=MH.len;rw [bN] at JQ;obtain rfl:n4=(lS l).length:=JQ;refine kH H (ak K3 rfl (SQ fun _ K4=>SR fun _ K5=>ak K5 rfl (SB ?_)));clear H K3 K5;intro a H;skip;refine dV (ι:=Nat) (Tc:=[(4,_)]) (Lc:=[(_,_)]) (fun gh=>[(3,vi (og ((gK l).take gh))),(5,vi gh)]) (fun gh=>[]) (fun gh=>G9) (fun gh=>gh≤(lS l).length) (fun gh=>(lS l).length - gh) (0) (by exact (H).sub ⟨rfl,rfl,rfl,av⟩) ?_ ?_
 ·exact fQ _
 clear H;intro i a w hI H;have hi:=hI;dsimp only [lca,aO] at H;refine kP H (SQ fun _ K6=>SR fun _ K7=>Rm rfl (Rm rfl (Rl Db rfl (Rc rfl (Kz K7 (Cd rfl ?_ ?_)))))) <;> clear H K7
 ·intro eO a H
  try have nZ:=dT eO
  have hi2:i < (lS l).length:=by omega
  have hi3:i < (gK l).length:=by omega
  obtain ⟨b,o,vv,rfl,hrow,hit⟩:=Q6 MH hi2;obtain ⟨-,e2⟩:=Yc hi2;rw [e2] at hit;have TY:=ady l hz (i+1) (by omega);rw [Ni hi3] at TY;obtain ⟨qA,qn,qc,rfl⟩:=hit.form;refine kP H (Kc K6 (SQ fun _ K8=>SB (SR fun _ K9=>Rm rfl (Rm rfl (Ri Db FU rfl rfl (Rf GY rfl (Rg jy rfl (hrow 1 _ rfl) ?_)))))));clear H K6;intro a H;refine s_call Jm H wn rfl (J4 _ _ H.ro (gK l)[i].items _ hit (Nat.le_trans (Ow (jD hi3)) (by omega))) rfl ?_;clear H;rintro v22 _ a w ⟨rfl,rfl⟩ - H;refine kH H (Rm rfl ?_);clear H;intro a H;(iterate 2 refine nQ H wn rfl rfl rfl ?_;clear H;intro a H);refine kH H (Ra rfl (ak K9 rfl (SC (Rm rfl (Rm rfl (Rd rfl ?_))))));clear H K9;intro a H;rw [← Ni hi3] at H;refine kH H (aL K8 rfl (SC (Rm rfl (Rd rfl (Ra rfl ?_)))));clear H K8;intro a H;refine aH ?_;refine cB (i+1) (by exact (H).sub ⟨rfl,rfl,rfl,av⟩) ?_ ?_
  ·omega
  first|omega|(dsimp only;omega)
 intro eO a H
 try have nZ:=dF eO
 obtain rfl:i=(lS l).length:=by omega
 rw [hbw,zZ] at H;refine dJ ?_;refine K4 _ _ ?_;clear K4;exact kP H (SR fun _ aU=>Rm rfl (ak aU rfl (LR results15 rfl fun H=>H.rt rfl)))
theorem acw {l m:List aj} {j:Nat} {v:aj} (h:l[j]?=some v):(l++m)[j]?=some v:=by
 rw [Ce (kG.1 h).1];exact h
theorem amW {l m:List aj} {x v:aj} {j:Nat} (h:l[j]?=some v):(x :: (l++m))[1+j]?=some v:=by
 rw [Nat.add_comm,List.getElem?_cons_succ];exact acw h
theorem BU.len {g:GH} {v:aj} {R S M:List dz} {xs:List aj} {Lo:OL} (_:BU g v R xs Lo) (h:R++S=M):R.length≤M.length:=by
 rw [← h,jC];omega
set_option maxHeartbeats 2000000 in
theorem amK (G:GH) (w0:World) (hG:Hold G w0) (D:jP) (d:oC) (hR:yO G D d) (hz:bB d.flow≤1073741824) :
  Calls prog 56 #[D.val] w0 (bV w0 G fun u G'=>aB G' (.sl 5 ((Ap d.flow d.fin).map dz.dat)) u):=by
 have hml:maxLen=9223372036854775807:=rfl;have hbw:=GL d.flow;have TN:=abJ d.flow d.fin
 have hbl:(gK d.flow).length≤1073741825:=by
  have hn:=Ew false 0 d.flow;rw [gK,jZ];omega
 obtain ⟨M,hM⟩:∃ M,M=Ap d.flow d.fin:=⟨_,rfl⟩;rw [← hM] at TN ⊢;refine eN [(0,_)] func56 rfl ntmps56 rfl rfl hG ?_;intro a H;refine cO (fun _ K1=>?_);refine fD (cs:=[_,_,_,_,_,_,_,_,_,_,_]) H wn rfl rfl rfl ?_;clear H;intro b1 a w hb1 H;refine kH H (ak K1 rfl (SQ fun _ K2=>?_));clear H K1;intro a H;obtain ⟨Ga,hma,hb1',H⟩:=H.eD;have hga:=fun j v hj=>Ae hb1' 0 D.cells rfl j v hj
 have hgd:∀ j v,[bg D.p,vi d.fin.marks.ins,vi d.fin.marks.move,bg D.d,bg D.y][j]?=some v→aF Ga b1 (1+j)=some v:=fun j v hj=>by rw [← hR.ins,← hR.mv] at hj;exact Ae hb1' 1 [bg D.p,vi D.ins,vi D.move,bg D.d,bg D.y] rfl j v hj
 replace hR:=hR.mono hma;refine kP H (SC (Rf DF rfl ?_));clear H;intro a H;refine bK lU (cs:=[bg D.p,vi d.fin.marks.ins,vi d.fin.marks.move,bg D.d,bg D.y]) H wn rfl rfl (fun j v hj=>H.hp.aF (by rw [ng];exact hgd j v hj)) rfl ?_;clear H;intro a H;refine jd Ev lU [_,_,_,_,_] [_,_,_,_,_] H wn rfl rfl rfl rfl rfl (by intro i q h;match i,h with|0,h=>exact h|n+1,h=>simp at h) rfl rfl ?_;clear H;intro b12 a w D5 H;refine kH H (aL K2 rfl (SR fun _ K3=>?_));clear H K2;intro a H;refine bK lV (cs:=D.cells) H wn rfl rfl (fun j v hj=>H.hp.aF (hga j v hj)) rfl ?_;clear H;intro a H;refine s_call RD H wn rfl (Sz _ _ H.ro D d.flow hR.fl (by omega)) rfl ?_;clear H;rintro v14 tZ a w UM Fv H;obtain ⟨A4,n4,c4,rfl⟩:=UM.form;have JQ:=UM.len;rw [bN] at JQ;obtain rfl:n4=(lS d.flow).length:=JQ;refine kH H (ak K3 rfl (SQ fun _ K4=>SQ fun _ K5=>?_));clear H K3;intro a H;have hr0:BU tZ (.slice (some ⟨b12,0,none⟩) 1 1) [d.fin] [bg D.p,vi d.fin.marks.ins,vi d.fin.marks.move,bg D.d,bg D.y] [(b12,.cells [bg D.p,vi d.fin.marks.ins,vi d.fin.marks.move,bg D.d,bg D.y].toArray 29 (0,0))]:=⟨akh rfl,by simpa using (gP.nil (G:=tZ) (sz:=5)).snoc (aaf (hR.hd.mono Fv)) rfl⟩;refine kP H (SC (aL K5 rfl (SB ?_)));clear H K5;intro a H;skip;refine dV (ι:=Nat × List dz × aj × List aj × OL) (Tc:=[(4,_)]) (Lc:=[]) (fun gh=>[(3,gh.2.2.1),(5,vi gh.1)]) (fun gh=>[]++gh.2.2.2.2) (fun gh=>tZ) (fun gh=>gh.1≤(lS d.flow).length∧BU tZ gh.2.2.1 gh.2.1 gh.2.2.2.1 gh.2.2.2.2∧gh.2.1++((lS d.flow).drop gh.1).flatMap pH=M) (fun gh=>(lS d.flow).length - gh.1) ((0,[d.fin],.slice (some ⟨b12,0,none⟩) 1 1,[bg D.p,vi d.fin.marks.ins,vi d.fin.marks.move,bg D.d,bg D.y],[(b12,.cells [bg D.p,vi d.fin.marks.ins,vi d.fin.marks.move,bg D.d,bg D.y].toArray 29 (0,0))])) (by exact (H).sub ⟨rfl,rfl,rfl,av⟩) ?_ ?_
 ·exact ⟨fQ _,hr0,by rw [hM];rfl⟩
 clear H;rintro ⟨i,R,v3,xs,Lo⟩ a w hI H;dsimp only at hI H;obtain ⟨hi,hr1,hX⟩:=hI;obtain ⟨v3A,v3c,rfl,-,-⟩:=hr1.row.shape;dsimp only [lca,aO] at H;refine kP H (SQ fun _ K6=>SR fun _ K7=>Rm rfl (Rm rfl (Rl Db rfl (Rc rfl (Kz K7 (Cd rfl ?_ ?_)))))) <;> clear H K7
 ·intro h18 a H
  try have tQ:=dT h18
  have hi2:i < (lS d.flow).length:=by omega
  obtain ⟨b,o,vv,rfl,hrow,hit⟩:=Q6 UM hi2;obtain ⟨-,e2⟩:=Yc hi2;have hzP:=Ow (jD (show i < (gK d.flow).length by omega));rw [← e2] at hzP;rw [jw hi2,List.flatMap_cons] at hX;obtain ⟨P,hP⟩:∃ P,P=(lS d.flow)[i]:=⟨_,rfl⟩;rw [← hP] at hrow hit hzP hX;have hpl:=Dg P.items;obtain ⟨qA,qn,qc,rfl⟩:=hit.form
  obtain rfl:qn=P.items.length:=by simpa using hit.len
  have q1:aF tZ b (o+i*6+1)=some (.slice qA P.items.length qc):=hrow 1 _ rfl;refine kP H (Kc K6 (SQ fun _ K8=>SB (SR fun _ K9=>ak K9 rfl (SB ?_))));clear H K6 K9;intro a H;skip;refine dV (ι:=Nat × List dz × aj × List aj × OL) (Tc:=[(4,_),(5,_)]) (Lc:=[]) (fun gh=>[(3,gh.2.2.1),(6,vi gh.1)]) (fun gh=>[]++gh.2.2.2.2) (fun gh=>tZ) (fun gh=>gh.1≤P.items.length∧BU tZ gh.2.2.1 gh.2.1 gh.2.2.2.1 gh.2.2.2.2∧gh.2.1++((P.items.drop gh.1).flatMap mH++((lS d.flow).drop (i+1)).flatMap pH)=M) (fun gh=>P.items.length - gh.1) ((0,R,_,xs,Lo)) (by exact (H).sub ⟨rfl,rfl,rfl,rfl,av⟩) ?_ ?_
  ·exact ⟨fQ _,hr1,hX⟩
  clear H;rintro ⟨k,R2,v4,xs2,Nz⟩ a w hI H;dsimp only at hI H;obtain ⟨hk,hr2,hX2⟩:=hI;obtain ⟨v4A,v4c,rfl,-,-⟩:=hr2.row.shape;dsimp only [lca,aO] at H;refine kP H (SQ fun _ aU=>SR fun _ bD=>Rm rfl (Rm rfl (Rm rfl (Ri Db FU rfl rfl (Rf GY rfl (Rg jy rfl (by assumption) ?_))))));clear H;intro a H;refine kH H (Rl jM rfl (Rc rfl (Kz bD (Cd rfl ?_ ?_)))) <;> clear H bD
  ·intro iK a H
   try have p28:=dT iK
   have hk2:k < P.items.length:=by omega
   obtain ⟨b0,o0,pA,pn,pc,dA,dn,dc,yA,yn,yc,fA,fn,fc,rA,rn,rc,rfl,aaH,hhd,hfl,hrw⟩:=Bl hk2 hit.at_;have hrn:=hrw.len;rw [bN] at hrn;subst hrn;have hzs:=Qy hk2;have hzi:=oN P.items[k];have Ee:=KG (jD hk2);rw [jw hk2,List.flatMap_cons,iQ] at hX2;obtain ⟨x,hx⟩:∃ x,x=P.items[k]:=⟨_,rfl⟩;rw [← hx] at aaH hhd hfl hrw hzs hzi Ee hX2;have hrl:=Dh x.rows;obtain ⟨rest,hrest⟩:∃ r,r=(P.items.drop (k+1)).flatMap mH++((lS d.flow).drop (i+1)).flatMap pH:=⟨_,rfl⟩;rw [← hrest] at hX2;have hl2:=hr2.len hX2;refine kP H (Kc aU (SQ fun _ bE=>SB (SR fun _ bQ=>Rm rfl (Rm rfl (Ri Db FU rfl rfl (Rf GY rfl (Rg jy rfl (by assumption) ?_)))))));clear H aU;intro a H;refine kH H (Rm rfl (Ri jM eH rfl rfl ?_));clear H;intro a H;refine bK eH (cs:=[vi x.kind,vi x.code,vi x.id,.string x.text,.slice pA pn pc,vi x.head.marks.ins,vi x.head.marks.move,.slice dA dn dc,.slice yA yn yc,.slice fA fn fc,.slice rA x.rows.length rc]) H wn rfl rfl (fun j v hj=>H.hp.aF (aaH j v hj)) rfl ?_;clear H;intro a H;refine dY eH H wn rfl ?_;clear H;intro b7 a w yg H;refine bT eH 0 (vs:=[_,_,_,_,_,_,_,_,_,_,_]) _ H wn rfl rfl rfl rfl rfl rfl rfl rfl ?_;clear H;intro w H;dsimp only [List.set,setRow] at H;refine bQ _ _ ?_;clear bQ;refine kP H (SR fun _ bR=>Rm rfl (Rf GZ rfl ?_));clear H;intro a H;refine bK lU (cs:=[_,_,_,_,_]) H wn rfl rfl (H.hp.fG 0 rfl rfl) rfl ?_;clear H;intro a H;refine jd Ev lU [_,_,_,_,_] [_,_,_,_,_] H wn rfl rfl rfl rfl rfl (by intro i q h;match i,h with|0,h=>exact h|n+1,h=>simp at h) rfl rfl ?_;clear H;intro b42 a w arv H;refine Aw (Li:=[_,_]) (Lo:=Nz) (news:=[.slice pA pn pc,vi x.head.marks.ins,vi x.head.marks.move,.slice dA dn dc,.slice yA yn yc]) Ev lU rfl rfl H wn rfl rfl hr2.row rfl (H.hp.fG 0 rfl rfl) rfl (by omega) (by omega) rfl ?_;clear H;intro v43 KS a w MI H;have aaD:=hr2.snoc hhd MI;obtain ⟨asT,asU,rfl,-,-⟩:=MI.shape;refine kH H (ak bR rfl (SR fun _ bW=>ak bW rfl (SB ?_)));clear H bR bW;intro a H;skip;refine dV (ι:=Nat × List dz × aj × List aj × OL) (Tc:=[(4,_),(5,_),(6,_),(7,_)]) (Lc:=[(_,_)]) (fun gh=>[(3,gh.2.2.1),(8,vi gh.1)]) (fun gh=>[]++gh.2.2.2.2) (fun gh=>tZ) (fun gh=>gh.1≤x.rows.length∧BU tZ gh.2.2.1 gh.2.1 gh.2.2.2.1 gh.2.2.2.2∧gh.2.1++((if x.kind=7 then (x.rows.drop gh.1).flatMap rH else [])++rest)=M) (fun gh=>x.rows.length - gh.1) ((0,R2++[x.head],_,xs2++[.slice pA pn pc,vi x.head.marks.ins,vi x.head.marks.move,.slice dA dn dc,.slice yA yn yc],KS)) (by exact (H.dx (Pl:=[_,_]) (bZ:=[_]) [1] (by decide) rfl).sub ⟨rfl,rfl,rfl,rfl,rfl,rfl,av⟩) ?_ ?_
   ·exact ⟨fQ _,by first|exact aaD|simpa using aaD,by rw [← hX2,iQ];unfold mH;rfl⟩
   clear H;rintro ⟨rk,R3,v6,Ey,Gm⟩ a w hI H;dsimp only at hI H;obtain ⟨JU,hr3,JD⟩:=hI;obtain ⟨v6A,v6c,rfl,-,-⟩:=hr3.row.shape;dsimp only [lca,aO] at H;refine kP H (SQ fun _ cK=>SR fun _ bY=>aR gH aD 0 rfl rfl (Rc rfl (Rm rfl (Sp 47 rfl ?_ ?_)))) <;> clear H
   ·intro h47 a H
    try have p47:=dT h47
    refine kH H (YM h47 rfl (YF qH h47 rfl (YO qR 0 h47 rfl (YL jG h47 rfl (YC h47 rfl (Pt h47 rfl (Kz bY (Cd rfl ?_ ?_)))))))) <;> clear H bY
    ·intro dS a H
     try have p53:=dT dS
     have hk3:rk < x.rows.length:=by omega
     have JJ:x.kind=7:=by first|assumption|omega
     obtain ⟨b2,o2,VO,VP,qc2,eA,en,ec,zA,zn,zc,cA,cn,cc,rfl,hrow2,vN,hcl⟩:=CW hk3 hrw.at_;have hcn:=hcl.len;rw [bN] at hcn;subst hcn;have hcs:=Dc x.rows[rk].cells;have MK:=Qz hk3;have ML:=tY x.rows[rk];have hsz2:=IU hk3;rw [au JJ,jw hk3,List.flatMap_cons,iQ] at JD;obtain ⟨y,hy⟩:∃ y,y=x.rows[rk]:=⟨_,rfl⟩;rw [← hy] at hrow2 vN hcl hcs MK ML hsz2 JD;have hl3:=hr3.len JD;have r5:aF tZ b2 (o2+rk*6+5)=some (.slice cA y.cells.length cc):=hrow2 5 _ rfl;refine kP H (Kc cK (SQ fun _ dG=>SB (SR fun _ dN=>Rm rfl (aR qH qR 0 rfl rfl (Rm rfl (Ri jG jJ rfl rfl (Rf GU rfl ?_)))))));clear H cK;intro a H;refine bK lU (cs:=[.slice VO VP qc2,vi y.head.marks.ins,vi y.head.marks.move,.slice eA en ec,.slice zA zn zc]) H wn rfl rfl (fun j v hj=>H.hp.aF (hrow2 j v (acw (m:=[_]) hj))) rfl ?_;clear H;intro a H;refine jd Ev lU [_,_,_,_,_] [_,_,_,_,_] H wn rfl rfl rfl rfl rfl (by intro i q h;match i,h with|0,h=>exact h|n+1,h=>simp at h) rfl rfl ?_;clear H;intro b63 a w arz H;refine Aw (Li:=[_,_]) (Lo:=Gm) (news:=[.slice VO VP qc2,vi y.head.marks.ins,vi y.head.marks.move,.slice eA en ec,.slice zA zn zc]) Ev lU rfl rfl H wn rfl rfl hr3.row rfl (H.hp.fG 0 rfl rfl) rfl (by omega) (by omega) rfl ?_;clear H;intro v64 aex a w aaL H;have aaF:=hr3.snoc vN aaL;obtain ⟨asV,asW,rfl,-,-⟩:=aaL.shape;refine kH H (ak dN rfl (SR fun _ dH=>ak dH rfl (SB ?_)));clear H dN dH;intro a H;skip;refine dV (ι:=Nat × List dz × aj × List aj × OL) (Tc:=[(4,_),(5,_),(6,_),(7,_),(8,_)]) (Lc:=[(_,_)]) (fun gh=>[(3,gh.2.2.1),(9,vi gh.1)]) (fun gh=>[]++gh.2.2.2.2) (fun gh=>tZ) (fun gh=>gh.1≤y.cells.length∧BU tZ gh.2.2.1 gh.2.1 gh.2.2.2.1 gh.2.2.2.2∧gh.2.1++((y.cells.drop gh.1).map bq.head++((x.rows.drop (rk+1)).flatMap rH++rest))=M) (fun gh=>y.cells.length - gh.1) ((0,R3++[y.head],_,Ey++[.slice VO VP qc2,vi y.head.marks.ins,vi y.head.marks.move,.slice eA en ec,.slice zA zn zc],aex)) (by exact (H.dx (Pl:=[_,_]) (bZ:=[_]) [1] (by decide) rfl).sub ⟨rfl,rfl,rfl,rfl,rfl,rfl,rfl,av⟩) ?_ ?_
     ·exact ⟨fQ _,by first|exact aaF|simpa using aaF,by rw [← JD,iQ];rfl⟩
     clear H;rintro ⟨ck,R4,v7,Ez,KR⟩ a w hI H;dsimp only at hI H;obtain ⟨hck,hr4,Mq⟩:=hI;obtain ⟨v7A,v7c,rfl,-,-⟩:=hr4.row.shape;dsimp only [lca,aO] at H;refine kP H (SQ fun _ dP=>SR fun _ eT=>Rm rfl (aR qH qR 0 rfl rfl (Rm rfl (Ri jG jJ rfl rfl (Rf qh rfl (Rg qy rfl (by assumption) ?_))))));clear H;intro a H;refine kH H (Rl lQ rfl (Rc rfl (Kz eT (Cd rfl ?_ ?_)))) <;> clear H eT
     ·intro jW a H
      try have p73:=dT jW
      have hk4:ck < y.cells.length:=by omega
      obtain ⟨b3,o3,sA,sn,sc,tA,tn,tc,uA,un,uc,gA,gn,gc,rfl,hrow3,hch,hcf⟩:=AY hk4 hcl.at_;rw [jw hk4,dW,mE] at Mq;obtain ⟨z,hzy⟩:∃ z,z=y.cells[ck]:=⟨_,rfl⟩;rw [← hzy] at hrow3 hch Mq;have hl4:=hr4.len Mq;refine kP H (Kc dP (SQ fun _ fP=>SB (SC (Rm rfl (aR qH qR 0 rfl rfl (Rm rfl (Ri jG jJ rfl rfl (Rf qh rfl (Rg qy rfl (by assumption) ?_)))))))));clear H dP;intro a H;refine kH H (Rm rfl (Ri lQ jK rfl rfl (Rf LM rfl ?_)));clear H;intro a H;refine bK lU (cs:=[.slice sA sn sc,vi z.head.marks.ins,vi z.head.marks.move,.slice tA tn tc,.slice uA un uc]) H wn rfl rfl (fun j v hj=>H.hp.aF (by rw [Nat.add_assoc];exact hrow3 (1+j) v (amW (m:=[_]) hj))) rfl ?_;clear H;intro a H;refine jd Ev lU [_,_,_,_,_] [_,_,_,_,_] H wn rfl rfl rfl rfl rfl (by intro i q h;match i,h with|0,h=>exact h|n+1,h=>simp at h) rfl rfl ?_;clear H;intro b87 a w arC H;refine Aw (Li:=[_,_]) (Lo:=KR) (news:=[.slice sA sn sc,vi z.head.marks.ins,vi z.head.marks.move,.slice tA tn tc,.slice uA un uc]) Ev lU rfl rfl H wn rfl rfl hr4.row rfl (H.hp.fG 0 rfl rfl) rfl (by omega) (by omega) rfl ?_;clear H;intro v88 aez a w aaM H;have aaG:=hr4.snoc hch aaM;obtain ⟨asZ,ata,rfl,-,-⟩:=aaM.shape;refine kH H (aL fP rfl (SC (Rm rfl (Rd rfl (Ra rfl ?_)))));clear H fP;intro a H;refine aH ?_;refine cB ((ck+1,R4++[z.head],_,Ez++[.slice sA sn sc,vi z.head.marks.ins,vi z.head.marks.move,.slice tA tn tc,.slice uA un uc],aez)) (by exact (H.dx (Pl:=[_,_]) (bZ:=[_]) [1] (by decide) rfl).sub ⟨rfl,rfl,rfl,rfl,rfl,rfl,rfl,av⟩) ?_ ?_
      ·(try dsimp only);exact ⟨by omega,by first|exact aaG|simpa using aaG,by rw [← Mq,iQ];rfl⟩
      first|omega|(dsimp only;omega)
     intro jW a H
     try have p73:=dF jW
     refine dJ ?_;refine dG _ _ ?_;clear dG;refine kP H (SC (Rm rfl (Rd rfl (Ra rfl ?_))));clear H;intro a H;refine aH ?_;refine cB ((rk+1,R4,_,Ez,KR)) (by exact (H).sub ⟨rfl,rfl,rfl,rfl,rfl,rfl,av⟩) ?_ ?_
     ·(try dsimp only);exact ⟨by omega,hr4,by rw [← Mq,eU (show y.cells.length≤ck by omega),au JJ];rfl⟩
     first|omega|(dsimp only;omega)
    intro dS a H
    try have p53:=dF dS
    refine dJ ?_;refine bE _ _ ?_;clear bE;refine kP H (SC (Rm rfl (Rd rfl (Ra rfl ?_))));clear H;intro a H;refine aH ?_;refine cB ((k+1,R3,_,Ey,Gm)) (by exact (H.dx (Pl:=[_]) (bZ:=[]) [] (by decide) rfl).sub ⟨rfl,rfl,rfl,rfl,av⟩) ?_ ?_
    ·try dsimp only
     exact ⟨by omega,hr3,by
      rw [← JD,hrest]
      by_cases h7:x.kind=7
      ·rw [au h7,eU (l:=x.rows) (i:=rk) (by first|omega|(exfalso;simp_all;done))];rfl
      rw [ah h7];rfl⟩
    first|omega|(dsimp only;omega)
   intro h47 a H
   try have p47:=dF h47
   refine kH H (aZ h47 rfl (aT h47 rfl (Pf h47 rfl (Kz bY (Cf rfl rfl ?_)))));clear H bY;intro a H;refine dJ ?_;refine bE _ _ ?_;clear bE;refine kP H (SC (Rm rfl (Rd rfl (Ra rfl ?_))));clear H;intro a H;refine aH ?_;refine cB ((k+1,R3,_,Ey,Gm)) (by exact (H.dx (Pl:=[_]) (bZ:=[]) [] (by decide) rfl).sub ⟨rfl,rfl,rfl,rfl,av⟩) ?_ ?_
   ·try dsimp only
    exact ⟨by omega,hr3,by
     rw [← JD,hrest]
     by_cases h7:x.kind=7
     ·rw [au h7,eU (l:=x.rows) (i:=rk) (by first|omega|(exfalso;simp_all;done))];rfl
     rw [ah h7];rfl⟩
   first|omega|(dsimp only;omega)
  intro iK a H
  try have p28:=dF iK
  refine dJ ?_;refine K8 _ _ ?_;clear K8;refine kP H (SC (Rm rfl (Rd rfl (Ra rfl ?_))));clear H;intro a H;refine aH ?_;refine cB ((i+1,R2,_,xs2,Nz)) (by exact (H).sub ⟨rfl,rfl,rfl,av⟩) ?_ ?_
  ·(try dsimp only);exact ⟨by omega,hr2,by rw [← hX2,eU (show P.items.length≤k by omega)];rfl⟩
  first|omega|(dsimp only;omega)
 intro h18 a H
 try have tQ:=dF h18
 rw [eU (by omega),List.flatMap_nil,mW] at hX;refine dJ ?_;refine K4 _ _ ?_;clear K4;refine kP H (SR fun _ gq=>Rm rfl (ak gq rfl ?_));clear H gq;intro a H;refine dK ?_;obtain ⟨Gr,hmr,hrep,H⟩:=St.DL (Li:=[]) H hr1.row (rows:=R.map dz.dat) (by simp) hr1.cat;refine lv H results56 rfl ?_;exact H.rt (by rw [← hX];exact hrep)
end
section
open Go.RowKit
theorem Zd:∀ args w,(callFunc 60 args).run prog w=.ok (.enter 60 args) w:=enters func60 rfl (by kernel_rfl)
theorem Y2:∀ args w,(callFunc 22 args).run prog w=.ok (.enter 22 args) w:=enters func22 rfl (by kernel_rfl)
def refs (h:dz):List Int:=h.marks.ins :: (h.marks.bJ.map kV.rev++h.marks.layers.map lF.rev)
def sU (K l:List Int):List Int:=l.foldl yS K
theorem NG (K l r:List Int):sU K (l++r)=sU (sU K l) r:=List.foldl_append
theorem XR {l:List Int}:∀ {K:List Int} {y:Int},y∈sU K l↔y∈K∨y∈l:=by
 induction l with
 | nil=>intro K y;simp [sU]
 | cons x l ih =>
  intro K y
  show y∈sU (yS K x) l↔_
  rw [ih,aeG,nG,or_assoc]
theorem XT {l:List Int}:∀ {K:List Int},K.Nodup→(sU K l).Nodup:=by
 induction l with
 | nil=>intro K h;exact h
 | cons x l ih=>intro K h;exact ih (aeH h)
theorem aeI {K:List Int} {x:Int} {α:Type} {f:α→Int} {A:List α} {k:Nat} (hk:k < A.length):yS (sU K (x :: (A.take k).map f)) (f A[k])=sU K (x :: (A.take (k+1)).map f):=by
 rw [lG hk,kZ,← mE,NG];rfl
theorem aeJ {K B:List Int} {x:Int} {α:Type} {f:α→Int} {A:List α} {k:Nat} (hk:k < A.length):yS (sU K (x :: (B++(A.take k).map f))) (f A[k])=sU K (x :: (B++(A.take (k+1)).map f)):=by
 rw [lG hk,kZ,show x :: (B++((A.take k).map f++[A[k]].map f))=(x :: (B++(A.take k).map f))++[f A[k]] from by simp,NG];rfl
abbrev C8 (b3 bm:Nat) (K:List Int):OL:=[(b3,.cells #[.map (some bm)] 96 (0,0)),(bm,fF (jf K))]
set_option maxHeartbeats 2000000 in
theorem abZ (G:GH) (w0:World) (b3 bm:Nat) (K:List Int) (h:dz) (p d y:Option Addr × Nat × Nat) (hR:nS G h (bg p) (bg d) (bg y)) (hO:iT G (C8 b3 bm K) w0) :
  Calls prog 60 #[.agg #[bg p,vi h.marks.ins,vi h.marks.move,bg d,bg y],(aP b3 0)] w0 (iE w0 G (C8 b3 bm K) fun _ G' L'=>L'=C8 b3 bm (sU K (refs h))):=by
 obtain ⟨dA,dn,dc⟩:=d;obtain ⟨yA,yn,yc⟩:=y;have hml:maxLen=9223372036854775807:=rfl;have hd:=hR.bJ;have hy:=hR.layers;dsimp only [bg] at hd hy;have e1:=hd.len;have e2:=hy.len;rw [bN] at e1 e2;subst e1 e2;obtain ⟨_,_,hu1,hd1,hd2,-⟩:=hd.slice;obtain ⟨_,_,hu2,hy1,hy2,-⟩:=hy.slice
 injection hu1 with q1 q2 q3
 subst q1 q3
 injection hu2 with q1 q2 q3
 subst q1 q3;rw [bN] at hd1 hy1;refine kS (N:=35) (T:=[(0,_),(1,_)]) func60 rfl ntmps60 rfl rfl hO ?_;intro a H;refine cO (fun _ K1=>?_);refine fD (cs:=[_,_,_,_,_]) H wn rfl rfl rfl ?_;clear H;intro b2 a w hb2 H;refine K1 _ _ ?_;clear K1;refine kP H (SR fun _ K2=>Ro qU 1 rfl (Rf vD rfl (aR uG aD 0 rfl rfl ?_)));clear H;intro a H;refine VZ (i:=2) xB nD H wn rfl rfl rfl rfl ?_;clear H;intro w H;dsimp only [List.set] at H;refine K2 _ _ ?_;clear K2;refine kP H (SQ fun _ K3=>SR fun _ K4=>Rf vD rfl (aR mJ mR 0 rfl rfl (Rl lW rfl (Rm rfl (Kz K4 (SB ?_))))));clear H K4;intro a H;skip;refine dV (ι:=Nat) (Tc:=[(1,_),(2,_),(13,_),(14,_)]) (Lc:=[(_,_),(_,_)]) (fun gh=>[(15,vi gh)]) (fun gh=>[(bm,fF (jf (sU K (h.marks.ins :: (h.marks.bJ.take gh).map kV.rev))))]) (fun gh=>G) (fun gh=>gh≤h.marks.bJ.length) (fun gh=>h.marks.bJ.length - gh) (0) (by exact (H).sub ⟨rfl,rfl,rfl,rfl,rfl,av⟩) ?_ ?_
 ·exact fQ _
 clear H;intro i a w hI H;have hi:=hI;dsimp only [lca,aO] at H;refine kP H (SR fun _ K5=>Rc rfl (Kz K5 (SQ fun _ K6=>Cd rfl ?_ ?_))) <;> clear H K5
 ·intro h16 a H
  try have p16:=dT h16
  have hi2:i < h.marks.bJ.length:=by omega
  obtain ⟨b,o,rfl,hrow⟩:=Jk hd hi2;refine kP H (Kc K6 (SQ fun _ K7=>SB (SR fun _ K8=>Ri lW rR rfl rfl ?_)));clear H K6;intro a H;refine bK rR (cs:=[_,_]) H wn rfl rfl (fun j v hj=>H.hp.aF (hrow j v hj)) rfl ?_;clear H;intro a H;refine dY rR H wn rfl ?_;clear H;intro b4 a w hb4 H;refine bT rR 0 (vs:=[_,_]) _ H wn rfl rfl rfl rfl rfl rfl rfl rfl ?_;clear H;intro w H;dsimp only [List.set,setRow] at H;refine K8 _ _ ?_;clear K8;refine kP H (SC (Ro qU 2 rfl (aR Ad aD 0 rfl rfl ?_)));clear H;intro a H;refine VZ (i:=3) xB nD H wn rfl rfl rfl rfl ?_;clear H;intro w H;dsimp only [List.set] at H;rw [aeI hi2] at H;refine kH H (Kn K7 (SC (Rd rfl (Rm rfl ?_))));clear H K7;intro a H;refine aH ?_;refine cB (i+1) (by exact (H.dx (Pl:=[_,_,_,_]) (bZ:=[_,_,_]) [1,2,3] (by decide) rfl).sub ⟨rfl,rfl,rfl,rfl,rfl,av⟩) ?_ ?_
  ·omega
  first|omega|(dsimp only;omega)
 intro h16 a H
 try have p16:=dF h16
 obtain rfl:i=h.marks.bJ.length:=by omega
 rw [zZ] at H;refine dJ ?_;refine K3 _ _ ?_;clear K3;refine kP H (SR fun _ K9=>Rf vD rfl (aR wF xk 0 rfl rfl (Rl tX rfl (Rm rfl (Kz K9 (SB ?_))))));clear H K9;intro a H;skip;refine dV (ι:=Nat) (Tc:=[(1,_),(25,_),(26,_)]) (Lc:=[(_,_),(_,_)]) (fun gh=>[(27,vi gh)]) (fun gh=>[(bm,fF (jf (sU K (h.marks.ins :: (h.marks.bJ.map kV.rev++(h.marks.layers.take gh).map lF.rev)))))]) (fun gh=>G) (fun gh=>gh≤h.marks.layers.length) (fun gh=>h.marks.layers.length - gh) (0) (by exact (by rw [List.take_zero,sZ,mW];exact (H.sub ⟨rfl,rfl,rfl,rfl,av⟩))) ?_ ?_
 ·exact fQ _
 clear H;intro k a w hI H;have hk:=hI;dsimp only [lca,aO] at H;refine kP H (SR fun _ aU=>Rc rfl (Kz aU (SQ fun _ bD=>Cd rfl ?_ ?_))) <;> clear H aU
 ·intro iK a H
  try have p28:=dT iK
  have hk2:k < h.marks.layers.length:=by omega
  obtain ⟨b,o,rfl,hrow⟩:=J3 hy hk2;refine kP H (Kc bD (SQ fun _ bE=>SB (SR fun _ bQ=>Ri tX uU rfl rfl ?_)));clear H bD;intro a H;refine bK uU (cs:=[_,_,_,_]) H wn rfl rfl (fun j v hj=>H.hp.aF (hrow j v hj)) rfl ?_;clear H;intro a H;refine dY uU H wn rfl ?_;clear H;intro b6 a w hb6 H;refine bT uU 0 (vs:=[_,_,_,_]) _ H wn rfl rfl rfl rfl rfl rfl rfl rfl ?_;clear H;intro w H;dsimp only [List.set,setRow] at H;refine bQ _ _ ?_;clear bQ;refine kP H (SC (Ro qU 2 rfl (aR Oj aD 0 rfl rfl ?_)));clear H;intro a H;refine VZ (i:=3) xB nD H wn rfl rfl rfl rfl ?_;clear H;intro w H;dsimp only [List.set] at H;rw [aeJ hk2] at H;refine kH H (Kn bE (SC (Rd rfl (Rm rfl ?_))));clear H bE;intro a H;refine aH ?_;refine cB (k+1) (by exact (H.dx (Pl:=[_,_,_,_]) (bZ:=[_,_,_]) [1,2,3] (by decide) rfl).sub ⟨rfl,rfl,rfl,rfl,av⟩) ?_ ?_
  ·omega
  first|omega|(dsimp only;omega)
 intro iK a H
 try have p28:=dF iK
 obtain rfl:k=h.marks.layers.length:=by omega
 rw [zZ] at H;refine dJ ?_;refine (leave0 H results60 ?_).2;exact H.hp.bU (L':=C8 b3 bm _) (by repeat (first|exact cu _|apply List.Sublist.cons)) rfl
def VQ (d:oC):List Int:=(mh d.flow).flatMap refs++refs d.fin
def xC (d:oC):List Int:=(sU [] (VQ d)).filter fun q=>decide (q≠0)
theorem anm {G:GH} {b3 bm:Nat} {hs:List dz}:WU prog (.func (.func 60) #[] #[(aP b3 0)]) G (hs.map H7) fun k _ L=>L=C8 b3 bm (sU [] ((hs.take k).flatMap refs)):=by
 rintro k args G1 L w ⟨p,hp,h⟩ hG rfl hO;rw [oQ] at hp;obtain ⟨x,hx,rfl⟩:=oD.1 hp;obtain ⟨q1,q2,q3,rfl,hR⟩:=h;obtain ⟨hk,rfl⟩:=kG.1 hx;refine nk (caps:=[(aP b3 0)]) Zd ((abZ G1 w b3 bm _ hs[k] q1 q2 q3 hR hO).mono ?_);rintro e w' ⟨v,G',L',rfl,hc,rfl⟩;exact ⟨v,G',_,rfl,hc,by show C8 b3 bm _=C8 b3 bm (sU [] ((hs.take (k+1)).flatMap refs));rw [lG hk,List.flatMap_append,NG];simp⟩
theorem YJ (G:GH) (w0:World) (hG:Hold G w0) (D:jP) (d:oC) (hR:yO G D d) (hz:bB d.flow≤4294967296) (hw:∀ k∈xC d,-9223372036854775808≤k∧k < 9223372036854775808) (hl:(xC d).length≤4294967296) :
  Calls prog 22 #[D.val] w0 (bV w0 G fun u G'=>aB G' (.sl 1 ((sP (xC d)).map fun k=>[li k])) u):=by
 refine eN [(0,_)] func22 rfl ntmps22 rfl rfl hG ?_;intro a H;refine cO (fun _ K1=>?_);refine fD (cs:=[_,_,_,_,_,_,_,_,_,_,_]) H wn rfl rfl rfl ?_;clear H;intro b1 a w hb1 H;refine kH H (ak K1 rfl (SQ fun _ K2=>?_));clear H K1;intro a H;obtain ⟨Ga,hma,hb1',HQ⟩:=H.eD;clear H;have H:=HQ;clear HQ;have hga:=fun j v hj=>Ae hb1' 0 D.cells rfl j v hj
 have hgd:∀ j v,[bg D.p,vi d.fin.marks.ins,vi d.fin.marks.move,bg D.d,bg D.y][j]?=some v→aF Ga b1 (1+j)=some v:=fun j v hj=>by rw [← hR.ins,← hR.mv] at hj;exact Ae hb1' 1 [bg D.p,vi D.ins,vi D.move,bg D.d,bg D.y] rfl j v hj
 replace hR:=hR.mono hma;refine rz ?_;refine FQ H wn rfl ?_;clear H;intro b5 a w hb5 H;refine dY qU H wn rfl ?_;clear H;intro b3 a w hb3 H;refine bT qU 0 (vs:=[_]) _ H wn rfl rfl rfl rfl rfl rfl rfl rfl ?_;clear H;intro w H;dsimp only [List.set,setRow] at H;refine aH ?_;refine K2 _ _ ?_;clear K2;refine cO (fun _ K3=>?_);refine pO H wn rfl rfl ?_;clear H;intro a H;refine kH H (ak K3 rfl (SR fun _ K4=>Rf Bf rfl (Rg jy rfl (hga 0 _ rfl) (Rm rfl ?_))));clear H K3;intro a H;refine gW RX (Li:=[]) (L:=C8 b3 b5 []) H wn rfl (Z6 4294967297 (by omega) _ Ga ((mh d.flow).map H7) (fun k _ L=>L=C8 b3 b5 (sU [] (((mh d.flow).take k).flatMap refs))) Ga _ _ 0 d.flow _ (fun _ _ h=>h) anm (fun _ _ _ _ _ h=>h) rfl (Hp.owns (Li:=[]) H.hp) hR.fl (by omega) (fun i a h=>by rw [ng,oQ,h];rfl)) rfl ?_;clear H;rintro v10 Nq L10 a w rfl Cx H;rw [ng,zZ] at H;dsimp only [List.nil_append] at H;refine K4 _ _ ?_;clear K4;refine kP H (SR fun _ K5=>Rm rfl (Rf DF rfl ?_));clear H;intro a H;refine bK lU (cs:=[bg D.p,vi d.fin.marks.ins,vi d.fin.marks.move,bg D.d,bg D.y]) H wn rfl rfl (fun j v hj=>H.hp.aF (aJ Cx (hgd j v hj))) rfl ?_;clear H;intro a H;refine rP (Li:=[]) (L:=C8 b3 b5 _) H wn rfl rfl (nk (caps:=[(aP b3 0)]) Zd (abZ _ _ b3 b5 _ d.fin D.p D.d D.y (hR.hd.mono Cx) (Hp.owns (Li:=[]) H.hp))) rfl ?_;clear H;rintro v14 tZ L14 a w rfl Fv H;rw [← NG] at H;dsimp only [List.nil_append] at H;refine K5 _ _ ?_;clear K5;refine kP H (SR fun _ K6=>Ro qU 0 rfl ?_);clear H;intro a H;refine aoI (i:=1) xB nD (XT List.nodup_nil) H wn rfl rfl rfl ?_;clear H;intro es clock w hst hks H;dsimp only [List.set] at H;refine K6 _ _ ?_;clear K6;refine kP H (SR fun _ K7=>Ro qU 0 rfl ?_);clear H;intro a H;refine s_call Zc H wn rfl (abR _ _ H.ro _) rfl ?_;clear H;rintro v17 WZ a w ⟨bx,rfl,hbx⟩ Fw H;refine s_call Zb H wn rfl (acV _ _ H.ro b5 bx clock es (xC d) hbx (H.hp.own (b5,.map es clock) (by simp)) hst hks hw hl) rfl ?_;clear H;rintro v18 Nr a w Pm hm18 H;exact kH H (ak K7 rfl (LR results22 rfl fun H=>H.rt Pm))
theorem anR (G:GH) (w0:World) (hG:Hold G w0) (D:jP) (d:oC) (hR:yO G D d) (hz:bB d.flow≤4294967296) (hw:∀ k∈xC d,-9223372036854775808≤k∧k < 9223372036854775808) (hl:(xC d).length≤4294967296) :
  Calls prog 23 #[D.val] w0 (bV w0 G fun u G'=>u=.bool (decide ((xC d).length=0))):=by
 refine eN [(0,_)] func23 rfl ntmps23 rfl rfl hG ?_;intro a H;refine cO (fun _ K1=>?_);refine fD (cs:=[_,_,_,_,_,_,_,_,_,_,_]) H wn rfl rfl rfl ?_;clear H;intro b1 a w hb1 H;refine kH H (ak K1 rfl (SR fun _ K2=>?_));clear H K1;intro a H;refine bK lV (cs:=[_,_,_,_,_,_,_,_,_,_,_]) H wn rfl rfl (H.hp.fG 0 rfl rfl) rfl ?_;clear H;intro a H;refine s_call Y2 H wn rfl (YJ _ _ H.ro D d hR hz hw hl) rfl ?_;clear H;rintro v4 G4 a w hv4 OU H;obtain ⟨A,n,c,rfl⟩:=hv4.form;have hn:=hv4.len;rw [bN,sP,List.length_mergeSort] at hn;subst hn;exact kH H (Rl jN rfl (Rc rfl (ak K2 rfl (LR results23 rfl fun H=>H.rt (aM (decide_eq_decide.2 (by omega)))))))
end
section
open Go.RowKit
theorem ahI:∀ args w,(callFunc 56 args).run prog w=.ok (.enter 56 args) w:=enters func56 rfl (by kernel_rfl)
def AL (rv:List dU) (M:List dz):List Int:=(rv.map dU.id).filter fun q=>decide (q∈M.flatMap refs)
theorem abU {A:List Int} {q x:Int}:decide (q∈A++[x])=(decide (q∈A) || decide (x=q)):=by
 rw [ru];simp only [qY,Bool.or_eq_true,rU,um,@eq_comm _ q x]
theorem J8 {A:List Int} {q x:Int} {f:Bool} (hf:f=decide (q∈A)) (h:f=true):true=decide (q∈A++[x]):=by rw [abU,← hf,h];rfl
theorem J7 {A:List Int} {q x:Int} {f:Bool} (hf:f=decide (q∈A)) (h:f=false):decide (x=q)=decide (q∈A++[x]):=by rw [abU,← hf,h];rfl
theorem akg {G:GH} {l:List dz} {A:Option Addr} {n c k:Nat} (hv:aB G (.sl 5 (l.map dz.dat)) (.slice A n c)) (hk:k < l.length) :
  ∃ b o p dA dn dc yA yn yc,A=some ⟨b,o,none⟩∧(∀ j u,[p,vi l[k].marks.ins,vi l[k].marks.move,.slice dA dn dc,.slice yA yn yc][j]?=some u→aF G b (o+k*5+j)=some u)∧nS G l[k] p (.slice dA dn dc) (.slice yA yn yc):=by
 obtain ⟨b,o,cs,h1,-,h3,h4⟩:=hv.at_ k l[k].dat (by simp [hk])
 simp only [dz.dat,yR.dat,bM] at h4
 obtain ⟨p,_,rfl,hp,v5,_,rfl,h5,v6,_,rfl,h6,d,_,rfl,hd,l,_,rfl,hl,rfl⟩:=h4;obtain ⟨dA,dn,dc,rfl⟩:=hd.form;obtain ⟨lA,ln,lc,rfl⟩:=hl.form
 simp only [aB] at h5 h6
 obtain ⟨rfl,-⟩:=h5;obtain ⟨rfl,-⟩:=h6;exact ⟨b,o,p,dA,dn,dc,lA,ln,lc,h1,h3,⟨hp,hd,hl⟩⟩
theorem aiy {M:List dz} {k:Nat} (hk:k < M.length):(M.take (k+1)).flatMap refs=(M.take k).flatMap refs++[M[k].marks.ins]++M[k].marks.bJ.map kV.rev++M[k].marks.layers.map lF.rev:=by
 rw [lG hk,List.flatMap_append,List.flatMap_cons,List.flatMap_nil,mW,iQ,iQ];rfl
theorem adk {α:Type} {f:α→Int} {B:List Int} {l:List α} {k:Nat} (hk:k < l.length):B++(l.take (k+1)).map f=(B++(l.take k).map f)++[f l[k]]:=by
 rw [lG hk,kZ,iQ];rfl
theorem Qt {rv:List dU} {M:List dz} {i:Nat} (hi:i < rv.length):AL (rv.take (i+1)) M=AL (rv.take i) M++(if decide (rv[i].id∈M.flatMap refs) then [rv[i].id] else []):=by
 rw [AL,lG hi,kZ,List.filter_append];simp only [dW,sZ,List.filter_cons,List.filter_nil];rfl
set_option maxHeartbeats 2000000 in
theorem amS (G:GH) (w0:World) (hG:Hold G w0) (D:jP) (d:oC) (hR:yO G D d) (hz:bB d.flow≤1073741824) (hr:d.revs.length≤4294967296) :
  Calls prog 17 #[D.val] w0 (bV w0 G fun u G'=>aB G' (.sl 1 ((AL d.revs (Ap d.flow d.fin)).map fun q=>[li q])) u):=by
 have hml:maxLen=9223372036854775807:=rfl;have TN:=abJ d.flow d.fin;obtain ⟨M,hM⟩:∃ M,M=Ap d.flow d.fin:=⟨_,rfl⟩;rw [← hM] at TN;rw [← hM];have Pk:∀ i,(AL (d.revs.take i) M).length≤i:=fun i=>Nat.le_trans (List.length_filter_le _ _) (by rw [bN,List.length_take];omega);refine eN [(0,_)] func17 rfl ntmps17 rfl rfl hG ?_;intro a H;refine cO (fun _ K1=>?_);refine fD (cs:=[_,_,_,_,_,_,_,_,_,_,_]) H wn rfl rfl rfl ?_;clear H;intro b1 a w hb1 H;refine kH H (ak K1 rfl (SQ fun _ K2=>?_));clear H K1;intro a H;obtain ⟨Ga,hma,hb1',H⟩:=H.eD;have hga:=fun j v hj=>Ae hb1' 0 D.cells rfl j v hj;replace hR:=hR.mono hma;refine rz ?_;refine bK lV (cs:=D.cells) H wn rfl rfl (fun j v hj=>H.hp.aF (hga j v hj)) rfl ?_;clear H;intro a H;refine s_call ahI H wn rfl (amK _ _ H.ro D d hR hz) rfl ?_;clear H;rintro v13 qB a w O9 ql H;rw [← hM] at O9;obtain ⟨A3,n3,c3,rfl⟩:=O9.form
 obtain rfl:n3=M.length:=by simpa using O9.len
 replace hR:=hR.mono ql;replace hga:=fun j v hj=>aJ ql (hga j v hj);obtain ⟨⟨rA,rn,rc⟩,hrD⟩:∃ r,r=D.r:=⟨_,rfl⟩;have mO:=hR.rv;rw [← hrD] at mO
 obtain rfl:rn=d.revs.length:=by simpa using mO.len
 have q6:aF qB b1 (0+6)=some (.slice rA d.revs.length rc):=hga 6 _ (by rw [show (.slice rA d.revs.length rc:aj)=bg D.r by rw [← hrD]];rfl);refine kH H (aL K2 rfl (SR fun _ K3=>ak K3 rfl (SQ fun _ K4=>SR fun _ K5=>ak K5 rfl (SB ?_))));clear H K2 K3 K5;intro a H;skip;refine dV (ι:=Nat × aj × List aj × OL) (Tc:=[(1,_),(3,_)]) (Lc:=[]) (fun gh=>[(4,gh.2.1),(5,vi gh.1)]) (fun gh=>[]++gh.2.2.2) (fun gh=>qB) (fun gh=>gh.1≤d.revs.length∧gJ 3 1 gh.2.1 (AL (d.revs.take gh.1) M).length gh.2.2.1 gh.2.2.2∧gP qB 1 ((AL (d.revs.take gh.1) M).map fun q=>[li q]) gh.2.2.1) (fun gh=>d.revs.length - gh.1) ((0,.slice none 0 0,[],[])) (by exact (H).sub ⟨rfl,rfl,rfl,rfl,av⟩) ?_ ?_
 ·exact ⟨fQ _,gJ.nil,gP.nil⟩
 clear H;rintro ⟨i,v4,xs,Lo⟩ a w hI H;dsimp only at hI H;obtain ⟨hi,hrw,oK⟩:=hI;obtain ⟨v4A,v4c,rfl,-,-⟩:=hrw.shape;dsimp only [lca,aO] at H;refine kP H (SQ fun _ K6=>SR fun _ K7=>Rm rfl (Rf Bg rfl (Rg vU rfl (by assumption) ?_)));clear H;intro a H;refine kH H (Rl vV rfl (Rc rfl (Kz K7 (Cd rfl ?_ ?_)))) <;> clear H K7
 ·intro h18 a H
  try have tQ:=dT h18
  have hi2:i < d.revs.length:=by omega
  obtain ⟨b,o,rfl,hrow⟩:=IG mO hi2;have hid:aF qB b (o+i*3+0)=some (vi d.revs[i].id):=hrow 0 _ rfl;obtain ⟨r,hr'⟩:∃ r,r=d.revs[i].id:=⟨_,rfl⟩;rw [← hr'] at hid;have hui:=Pk i;refine kP H (Kc K6 (SQ fun _ K8=>SB (SR fun _ K9=>Rf Bg rfl (Rg vU rfl (by assumption) ?_))));clear H K6;intro a H;refine kH H (Rm rfl (Ri vV yJ rfl rfl (Rf Ju rfl (Rg aD rfl (by assumption) ?_))));clear H;intro a H;refine kH H (ak K9 rfl (SR fun _ aU=>ak aU rfl (SQ fun _ bD=>SR fun _ bE=>ak bE rfl (SB ?_))));clear H K9 aU bE;intro a H;skip;refine dV (ι:=Nat × Bool) (Tc:=[(1,_),(3,_),(4,_),(5,_),(6,_)]) (Lc:=[]) (fun gh=>[(7,.bool gh.2),(8,vi gh.1)]) (fun gh=>[]++Lo) (fun gh=>qB) (fun gh=>gh.1≤M.length∧gh.2=decide (r∈(M.take gh.1).flatMap refs)) (fun gh=>M.length - gh.1) ((0,false)) (by exact (H).sub ⟨rfl,rfl,rfl,rfl,rfl,rfl,rfl,av⟩) ?_ ?_
  ·exact ⟨fQ _,by simp⟩
  clear H;rintro ⟨k,f⟩ a w hI H;dsimp only at hI H;obtain ⟨hk,hf⟩:=hI;dsimp only [lca,aO] at H;refine kP H (SQ fun _ bQ=>SR fun _ bR=>Rm rfl (Rm rfl (Rl Ev rfl (Rc rfl (Kz bR (Cd rfl ?_ ?_)))))) <;> clear H bR
  ·intro oo a H
   try have p30:=dT oo
   have hk2:k < M.length:=by omega
   obtain ⟨b2,o2,pv,dA,dn,dc,yA,yn,yc,rfl,hrow2,hhd⟩:=akg O9 hk2;obtain ⟨h,hh⟩:∃ h,h=M[k]:=⟨_,rfl⟩;rw [← hh] at hrow2 hhd;have hd:=hhd.bJ;have hy:=hhd.layers
   obtain rfl:dn=h.marks.bJ.length:=by simpa using hd.len
   obtain rfl:yn=h.marks.layers.length:=by simpa using hy.len
   obtain ⟨_,_,hu1,hd1,hd2,-⟩:=hd.slice;obtain ⟨_,_,hu2,hy1,hy2,-⟩:=hy.slice
   injection hu1 with q1 q2 q3
   subst q1 q3
   injection hu2 with q1 q2 q3
   subst q1 q3;rw [bN] at hd1 hy1;refine kP H (Kc bQ (SQ fun _ bW=>SB (SR fun _ cK=>Rm rfl (Rm rfl (Ri Ev lU rfl rfl (Rf vD rfl ?_))))));clear H bQ;intro a H;refine bK xq (cs:=[vi h.marks.ins,vi h.marks.move,.slice dA h.marks.bJ.length dc,.slice yA h.marks.layers.length yc]) H wn rfl rfl (fun j v hj=>H.hp.aF (by rw [Nat.add_assoc];exact hrow2 (1+j) v (by rw [Nat.add_comm,List.getElem?_cons_succ];exact hj))) rfl ?_;clear H;intro a H;refine dY xq H wn rfl ?_;clear H;intro b9 a w uL H;refine bT xq 0 (vs:=[_,_,_,_]) _ H wn rfl rfl rfl rfl rfl rfl rfl rfl ?_;clear H;intro w H;dsimp only [List.set,setRow] at H;refine cK _ _ ?_;clear cK;refine cO (fun _ bY=>?_);refine mU (ι:=Bool) (Tc:=[(1,_),(3,_),(4,_),(5,_),(6,_),(8,_),(9,_)]) 7 (fun (q1:Bool)=>[(44,.bool q1)]) (fun (q1:Bool)=>q1=decide (r∈(M.take k).flatMap refs++[h.marks.ins])) (by exact H.sub ⟨rfl,rfl,rfl,rfl,rfl,rfl,rfl,av⟩) ?_ ?_
   ·intro Bv;refine kH H (Rm rfl (Rm rfl (Sp 39 rfl ?_ ?_))) <;> clear H
    ·intro iN a H
     try have p39:=dT iN
     refine kH H (aT iN rfl (aT iN rfl (Pt iN rfl ?_)));clear H;intro a H;refine Bv (_) _ _ ?_ (by exact H.sub ⟨rfl,rfl,rfl,rfl,rfl,rfl,rfl,rfl,av⟩)
     first|exact J8 hf iN|exact J7 hf iN
    intro iN a H
    try have p39:=dF iN
    refine kH H (YF uG iN rfl (YO aD 0 iN rfl (YM iN rfl (YC iN rfl (Pf iN rfl ?_)))));clear H;intro a H;refine Bv (_) _ _ ?_ (by exact H.sub ⟨rfl,rfl,rfl,rfl,rfl,rfl,rfl,rfl,av⟩)
    first|exact J8 hf iN|exact J7 hf iN
   clear H;intro q1 a w hI H;dsimp only [lca,aO] at H;simp only [mG,jU];have hq1:=hI;refine kH H (ak bY rfl (SQ fun _ dG=>SR fun _ dN=>ak dN rfl (SB ?_)));clear H bY dN;intro a H;skip;refine dV (ι:=Nat × Bool) (Tc:=[(1,_),(3,_),(4,_),(5,_),(6,_),(8,_),(9,_)]) (Lc:=[(_,_)]) (fun gh=>[(7,.bool gh.2),(10,vi gh.1)]) (fun gh=>[]++Lo) (fun gh=>qB) (fun gh=>gh.1≤h.marks.bJ.length∧gh.2=decide (r∈(M.take k).flatMap refs++[h.marks.ins]++(h.marks.bJ.take gh.1).map kV.rev)) (fun gh=>h.marks.bJ.length - gh.1) ((0,q1)) (by exact (H).sub ⟨rfl,rfl,rfl,rfl,rfl,rfl,rfl,rfl,rfl,av⟩) ?_ ?_
   ·exact ⟨fQ _,by simpa using hq1⟩
   clear H;rintro ⟨j,f2⟩ a w hI H;dsimp only at hI H;obtain ⟨hj,hf2⟩:=hI;dsimp only [lca,aO] at H;refine kP H (SQ fun _ dH=>SR fun _ dP=>Rm rfl (aR mJ mR 0 rfl rfl (Rl lW rfl (Rc rfl (Kz dP (Cd rfl ?_ ?_)))))) <;> clear H dP
   ·intro nX a H
    try have p49:=dT nX
    have hj2:j < h.marks.bJ.length:=by omega
    obtain ⟨b4,o4,rfl,hrow4⟩:=Jk hd hj2;have hrd:aF qB b4 (o4+j*2+0)=some (vi h.marks.bJ[j].rev):=hrow4 0 _ rfl;refine kP H (Kc dH (SQ fun _ eT=>SB (SC ?_)));clear H dH;intro a H;refine mU (ι:=Bool) (Tc:=[(1,_),(3,_),(4,_),(5,_),(6,_),(8,_),(9,_),(10,_)]) 11 (fun (q2:Bool)=>[(62,.bool q2)]) (fun (q2:Bool)=>q2=decide (r∈(M.take k).flatMap refs++[h.marks.ins]++(h.marks.bJ.take j).map kV.rev++[h.marks.bJ[j].rev])) (by exact H.sub ⟨rfl,rfl,rfl,rfl,rfl,rfl,rfl,rfl,av⟩) ?_ ?_
    ·intro JB;refine kH H (Rm rfl (Rm rfl (Sp 53 rfl ?_ ?_))) <;> clear H
     ·intro dS a H
      try have p53:=dT dS
      refine kH H (aZ dS rfl (aZ dS rfl (aT dS rfl (Pt dS rfl ?_))));clear H;intro a H;refine JB (_) _ _ ?_ (by exact H.sub ⟨rfl,rfl,rfl,rfl,rfl,rfl,rfl,rfl,rfl,av⟩)
      first|exact J8 hf2 dS|exact J7 hf2 dS
     intro dS a H
     try have p53:=dF dS
     refine kH H (YF mJ dS rfl (YO mR 0 dS rfl (YM dS rfl (YI lW rR dS rfl rfl (YF Ad dS rfl (YR aD dS rfl (by assumption) ?_))))));clear H;intro a H;refine kH H (YM dS rfl (YC dS rfl (Pf dS rfl ?_)));clear H;intro a H;refine JB (_) _ _ ?_ (by exact H.sub ⟨rfl,rfl,rfl,rfl,rfl,rfl,rfl,rfl,rfl,av⟩)
     first|exact J8 hf2 dS|exact J7 hf2 dS
    clear H;intro q2 a w hI H;dsimp only [lca,aO] at H;simp only [mG,jU];have hq2:=hI;refine kH H (aL eT rfl (SC (Rm rfl (Rd rfl (Ra rfl ?_)))));clear H eT;intro a H;refine aH ?_;refine cB ((j+1,q2)) (by exact (H).sub ⟨rfl,rfl,rfl,rfl,rfl,rfl,rfl,rfl,rfl,av⟩) ?_ ?_
    ·(try dsimp only);exact ⟨by omega,by rw [adk hj2];exact hq2⟩
    first|omega|(dsimp only;omega)
   intro nX a H
   try have p49:=dF nX
   obtain rfl:j=h.marks.bJ.length:=by omega
   rw [zZ] at hf2;refine dJ ?_;refine dG _ _ ?_;clear dG;refine kP H (SR fun _ fP=>ak fP rfl (SB ?_));clear H fP;intro a H;skip;refine dV (ι:=Nat × Bool) (Tc:=[(1,_),(3,_),(4,_),(5,_),(6,_),(8,_),(9,_)]) (Lc:=[(_,_)]) (fun gh=>[(7,.bool gh.2),(11,vi gh.1)]) (fun gh=>[]++Lo) (fun gh=>qB) (fun gh=>gh.1≤h.marks.layers.length∧gh.2=decide (r∈(M.take k).flatMap refs++[h.marks.ins]++h.marks.bJ.map kV.rev++(h.marks.layers.take gh.1).map lF.rev)) (fun gh=>h.marks.layers.length - gh.1) ((0,f2)) (by exact (H).sub ⟨rfl,rfl,rfl,rfl,rfl,rfl,rfl,rfl,rfl,av⟩) ?_ ?_
   ·exact ⟨fQ _,by simpa using hf2⟩
   clear H;rintro ⟨j2,f3⟩ a w hI H;dsimp only at hI H;obtain ⟨arL,hf3⟩:=hI;dsimp only [lca,aO] at H;refine kP H (SQ fun _ gq=>SR fun _ gG=>Rm rfl (aR wF xk 0 rfl rfl (Rl tX rfl (Rc rfl (Kz gG (Cd rfl ?_ ?_)))))) <;> clear H gG
   ·intro wP a H
    try have p67:=dT wP
    have hj3:j2 < h.marks.layers.length:=by omega
    obtain ⟨b5,o5,rfl,alb⟩:=J3 hy hj3;have hrl:aF qB b5 (o5+j2*4+0)=some (vi h.marks.layers[j2].rev):=alb 0 _ rfl;refine kP H (Kc gq (SQ fun _ iP=>SB (SC ?_)));clear H gq;intro a H;refine mU (ι:=Bool) (Tc:=[(1,_),(3,_),(4,_),(5,_),(6,_),(8,_),(9,_),(11,_)]) 11 (fun (q3:Bool)=>[(80,.bool q3)]) (fun (q3:Bool)=>q3=decide (r∈(M.take k).flatMap refs++[h.marks.ins]++h.marks.bJ.map kV.rev++(h.marks.layers.take j2).map lF.rev++[h.marks.layers[j2].rev])) (by exact H.sub ⟨rfl,rfl,rfl,rfl,rfl,rfl,rfl,rfl,av⟩) ?_ ?_
    ·intro Mj;refine kH H (Rm rfl (Rm rfl (Sp 71 rfl ?_ ?_))) <;> clear H
     ·intro ko a H
      try have p71:=dT ko
      refine kH H (aZ ko rfl (aZ ko rfl (aT ko rfl (Pt ko rfl ?_))));clear H;intro a H;refine Mj (_) _ _ ?_ (by exact H.sub ⟨rfl,rfl,rfl,rfl,rfl,rfl,rfl,rfl,rfl,av⟩)
      first|exact J8 hf3 ko|exact J7 hf3 ko
     intro ko a H
     try have p71:=dF ko
     refine kH H (YF wF ko rfl (YO xk 0 ko rfl (YM ko rfl (YI tX uU ko rfl rfl (YF Oj ko rfl (YR aD ko rfl (by assumption) ?_))))));clear H;intro a H;refine kH H (YM ko rfl (YC ko rfl (Pf ko rfl ?_)));clear H;intro a H;refine Mj (_) _ _ ?_ (by exact H.sub ⟨rfl,rfl,rfl,rfl,rfl,rfl,rfl,rfl,rfl,av⟩)
     first|exact J8 hf3 ko|exact J7 hf3 ko
    clear H;intro q3 a w hI H;dsimp only [lca,aO] at H;simp only [mG,jU];have hq3:=hI;refine kH H (aL iP rfl (SC (Rm rfl (Rd rfl (Ra rfl ?_)))));clear H iP;intro a H;refine aH ?_;refine cB ((j2+1,q3)) (by exact (H).sub ⟨rfl,rfl,rfl,rfl,rfl,rfl,rfl,rfl,rfl,av⟩) ?_ ?_
    ·(try dsimp only);exact ⟨by omega,by rw [adk hj3];exact hq3⟩
    first|omega|(dsimp only;omega)
   intro wP a H
   try have p67:=dF wP
   refine dJ ?_;refine bW _ _ ?_;clear bW;refine kP H (SC (Rm rfl (Rd rfl (Ra rfl ?_))));clear H;intro a H;refine aH ?_;refine cB ((k+1,f3)) (by exact (H.dx (Pl:=[_]) (bZ:=[]) [] (by decide) rfl).sub ⟨rfl,rfl,rfl,rfl,rfl,rfl,rfl,av⟩) ?_ ?_
   ·(try dsimp only);exact ⟨by omega,by rw [aiy hk2,← hh];rw [mF (l:=h.marks.layers) (i:=j2) (by omega)] at hf3;exact hf3⟩
   first|omega|(dsimp only;omega)
  intro oo a H
  try have p30:=dF oo
  obtain rfl:k=M.length:=by omega
  rw [zZ] at hf
  have hM2:decide (d.revs[i].id∈M.flatMap refs)=f:=by rw [hf,hr']
  clear hM2
  have hM2:f=decide (d.revs[i].id∈M.flatMap refs):=by rw [hf,hr']
  refine dJ ?_;refine bD _ _ ?_;clear bD;refine kP H (SR fun _ jm=>Rm rfl (Kz jm (Cd rfl ?_ ?_))) <;> clear H jm
  ·intro nN a H
   try have yD:=dT nN
   refine kP H (SC (Rm rfl (Rm rfl ?_)));clear H;intro a H;refine jd jN aD [_] [_] H wn rfl rfl rfl rfl rfl (by intro i q h;match i,h with|0,h=>exact h|n+1,h=>simp at h) rfl rfl ?_;clear H;intro b84 a w arB H;refine Aw (Li:=[_]) (Lo:=Lo) (news:=[vi r]) jN aD rfl rfl H wn rfl rfl hrw rfl (H.hp.fG 0 rfl rfl) rfl (by omega) (by omega) rfl ?_;clear H;intro v85 aey a w UW H;rw [hr'] at UW;obtain ⟨asX,asY,rfl,-,-⟩:=UW.shape;refine kH H (aL K8 rfl (SC (Rm rfl (Rd rfl (Ra rfl ?_)))));clear H K8;intro a H;refine aH ?_;refine cB ((i+1,_,xs++[vi d.revs[i].id],aey)) (by exact (H.dx (Pl:=[_]) (bZ:=[]) [] (by decide) rfl).sub ⟨rfl,rfl,rfl,rfl,av⟩) ?_ ?_
   ·(try dsimp only);exact ⟨by omega,by rw [Qt hi2,← hM2,nN];simpa using UW,by rw [Qt hi2,← hM2,nN,au rfl,kZ];exact oK.snoc (abt _ _) rfl⟩
   first|omega|(dsimp only;omega)
  intro nN a H
  try have yD:=dF nN
  refine kP H (Kc K8 (SC (Rm rfl (Rd rfl (Ra rfl ?_)))));clear H K8;intro a H;refine aH ?_;refine cB ((i+1,_,xs,Lo)) (by exact (H).sub ⟨rfl,rfl,rfl,rfl,av⟩) ?_ ?_
  ·(try dsimp only);exact ⟨by omega,by rw [Qt hi2,← hM2,nN];simpa using hrw,by rw [Qt hi2,← hM2,nN];simpa using oK⟩
  first|omega|(dsimp only;omega)
 intro h18 a H
 try have tQ:=dF h18
 obtain rfl:i=d.revs.length:=by omega
 rw [zZ] at hrw oK H;refine dJ ?_;refine K4 _ _ ?_;clear K4;refine kP H (SR fun _ iH=>Rm rfl (ak iH rfl ?_));clear H iH;intro a H;refine dK ?_;obtain ⟨Gr,hmr,hrep,H⟩:=St.DL (Li:=[]) H hrw (rows:=(AL d.revs M).map fun q=>[li q]) (by simp) oK;refine lv H results17 rfl ?_;exact H.rt hrep
theorem ints_at {G:GH} {l:List Int} {A:Option Addr} {n c k:Nat} (hv:aB G (.sl 1 (l.map fun q=>[li q])) (.slice A n c)) (hk:k < l.length):∃ b o,A=some ⟨b,o,none⟩∧aF G b (o+k)=some (vi l[k]):=alU (f:=fun q=>q) hv hk
theorem acN (G:GH) (w0:World) (hG:Hold G w0) (x y:List Int) (u v:aj) (hu:aB G (.sl 1 (x.map fun q=>[li q])) u) (hv:aB G (.sl 1 (y.map fun q=>[li q])) v) :
  Calls prog 18 #[u,v] w0 (bV w0 G fun r G'=>(x=y→r=.bool true)∧∃ b,r=.bool b):=by
 obtain ⟨A,c,rfl,hc1,hc2,-⟩:=hu.slice;rw [bN] at *;obtain ⟨B,e,rfl,he1,he2,-⟩:=hv.slice;rw [bN] at *;have hml:maxLen=9223372036854775807:=rfl;refine eN [(0,_),(1,_)] func18 rfl ntmps18 rfl rfl hG ?_;intro a H;refine kP H (SR fun _ K1=>ak K1 rfl (SQ fun _ K2=>SR fun _ K3=>Rm rfl (Rl jN rfl (Rm rfl (Rl jN rfl (Rc rfl (Kz K3 (Cd rfl ?_ ?_)))))))) <;> clear H K1 K3
 ·intro h10 a H
  try have sJ:=dT h10
  refine kP H (SR fun _ K4=>ak K4 rfl ?_);clear H K4;intro a H;refine lr H results18 rfl ?_
  first|exact H.rt ⟨fun _=>rfl,_,rfl⟩|exact H.rt ⟨fun h=>absurd h (by rintro rfl;simp at *),_,rfl⟩
 intro h10 a H
 try have sJ:=dF h10
 refine kP H (Kc K2 (SQ fun _ K5=>SR fun _ K6=>ak K6 rfl (SB ?_)));clear H K2 K6;intro a H;skip;refine dV (ι:=Nat × GH) (Tc:=[(0,_),(1,_)]) (Lc:=[]) (fun gh=>[(5,vi gh.1)]) (fun gh=>[]) (fun gh=>gh.2) (fun gh=>gh.1≤x.length∧(∀ b o,G b=some o→gh.2 b=some o)) (fun gh=>x.length - gh.1) ((0,G)) (by exact (H).sub ⟨rfl,rfl,rfl,av⟩) ?_ ?_
 ·exact ⟨fQ _,fun _ _ h=>h⟩
 clear H;rintro ⟨k,g⟩ a w hI H;dsimp only at hI H;obtain ⟨hk,hgm⟩:=hI;dsimp only [lca,aO] at H;refine kP H (SQ fun _ K7=>SR fun _ K8=>Rm rfl (Rm rfl (Rl jN rfl (Rc rfl (Kz K8 (Cd rfl ?_ ?_)))))) <;> clear H K8
 ·intro gT a H
  try have sK:=dT gT
  have hk2:k < x.length:=by omega
  have hk3:k < y.length:=by omega
  obtain ⟨b,o,rfl,hcx⟩:=ints_at (hu.mono hgm) hk2;obtain ⟨b2,o2,rfl,hcy⟩:=ints_at (hv.mono hgm) hk3;refine kP H (Kc K7 (SQ fun _ K9=>SB (SQ fun _ aU=>?_)));clear H K7;intro a H;refine dI hmx [[],[],[0,1],[0,1,2],[],[],[4,5],[4,5,6],(ra 0 8)] [] (by kernel_rfl) [_,_,_,_,_,_,_,_,_] H (aI (Z0 rfl (Rm rfl)) (Z0 rfl (Rm rfl)) (Z2 0 17 1 18 rfl (Ri jN aD rfl rfl)) (X1 2 19 rfl fun hG=>Rg aD rfl (aJ hG (by simpa using hcx))) (aI (Z0 rfl (Rm rfl)) (Z0 rfl (Rm rfl)) (Z2 4 21 5 22 rfl (Ri jN aD rfl rfl)) (X1 6 23 rfl fun hG=>Rg aD rfl (aJ hG (by simpa using hcy))) (bG (Z2 3 20 7 24 rfl (Rc rfl)) dQ))) ?_
  clear H;intro a w G lI H hv;have H:=H.bC (hv 8 25 rfl rfl) rfl;clear hv;refine aH ⟨rfl,?_⟩;refine aU _ _ ?_;clear aU;refine qG H rfl ?_ ?_
  ·intro fM
   try have p25:=dT fM
   refine kP H (SR fun _ bD=>ak bD rfl ?_);clear H bD;intro a H;refine lr H results18 rfl ?_
   first|exact H.rt ⟨fun _=>rfl,_,rfl⟩|exact H.rt ⟨fun h=>absurd h (by rintro rfl;simp at *),_,rfl⟩
  intro fM
  try have p25:=dF fM
  refine kP H (Kc K9 (SC (Rm rfl (Rd rfl (Ra rfl ?_)))));clear H K9;intro a H;refine aH ?_;refine cB ((k+1,_)) (by exact (H).sub ⟨rfl,rfl,rfl,av⟩) ?_ ?_
  ·(try dsimp only);exact ⟨by omega,fun b o h=>lI b o (hgm b o h)⟩
  first|omega|(dsimp only;omega)
 intro gT a H
 try have sK:=dF gT
 refine dJ ?_;refine K5 _ _ ?_;clear K5;refine kP H (SR fun _ bE=>ak bE rfl ?_);clear H bE;intro a H;refine lr H results18 rfl ?_
 first|exact H.rt ⟨fun _=>rfl,_,rfl⟩|exact H.rt ⟨fun h=>absurd h (by rintro rfl;simp at *),_,rfl⟩
end
section
open Go.RowKit
theorem aae {C:eZ} {e:Int} {h:dz} (hE:fI C e h=0):∀ q∈refs h,q=0∨q∈C.BN:=by
 have z:=pq hE;have h3:=z (fV C h.marks) (by simp);have h4:=z (iw (rX C h.marks.bJ) h.marks.bJ.length) (by simp);have h6:=z (iw (zC C e h.marks.layers) h.marks.layers.length) (by simp);intro q hq
 unfold refs at hq
 rcases nG.1 hq with rfl|hq
 ·unfold fV at h3
  by_cases h0:h.marks.ins=0
  ·exact .inl h0
  refine .inr (Classical.byContradiction fun hn=>?_);rw [au ⟨h0,hn⟩] at h3;cases h3
 rcases rU.1 hq with hq|hq
 ·obtain ⟨x,hx,rfl⟩:=List.mem_map.1 hq;obtain ⟨k,hk,rfl⟩:=List.getElem_of_mem hx;have h5:=Le h4 k hk
  unfold rX at h5
  rw [fH hk] at h5;dsimp only [oH] at h5;refine .inr (Classical.byContradiction fun hn=>?_);rw [au hn] at h5;cases h5
 obtain ⟨x,hx,rfl⟩:=List.mem_map.1 hq;obtain ⟨k,hk,rfl⟩:=List.getElem_of_mem hx;have h5:=Le h6 k hk
 unfold zC at h5
 rw [fH hk] at h5;dsimp only [lK] at h5;refine .inr (Classical.byContradiction fun hn=>?_);rw [au hn] at h5;cases h5
def pV (C:eZ) (L:List dz):Prop:=∀ h∈L,∃ e,fI C e h=0
theorem pV.nil (C:eZ):pV C []:=fun _ h=>by cases h
theorem pV.cons {C:eZ} {e:Int} {h:dz} {L:List dz} (h1:fI C e h=0) (h2:pV C L):pV C (h :: L):=fun x hx=>by
 rcases nG.1 hx with rfl|hx
 ·exact ⟨e,h1⟩
 exact h2 x hx
theorem pV.app {C:eZ} {A B:List dz} (h1:pV C A) (h2:pV C B):pV C (A++B):=fun x hx=>(rU.1 hx).elim (h1 x) (h2 x)
mutual
theorem akM (C:eZ) (body note:Bool) (t:Int):∀ (x:aC) (s s':CS),eP C body note t x s=(0,s')→pV C (DY x)
 | .mk k c i tx h f r,s,s',e=>by
  have hf:=OZ C false true t f;have hr:=aar C note (t+1) r;rw [eP] at e;(iterate 2 obtain ⟨-,e⟩:=nI e);obtain ⟨e1,e⟩:=nI e;rw [DY];refine pV.cons e1 ?_
  by_cases h6:k=6
  ·rw [au h6] at e ⊢;rw [ah (show ¬ k=7 by omega),mW];exact hf _ _ e
  rw [ah h6] at e ⊢;rw [jB]
  by_cases h7:k=7
  ·rw [au h7] at e ⊢;exact hr _ _ (VT e).2
  rw [ah h7];exact pV.nil C
theorem OZ (C:eZ) (body note:Bool) (t:Int):∀ (l:List aC) (s s':CS),gU C body note t l s=(0,s')→pV C (mh l)
 | [],_,_,_=>by rw [mh];exact pV.nil C
 | x :: r,s,s',e=>by
  rw [gU] at e;obtain ⟨e1,e⟩:=nI e;rw [mh];exact (akM C body note t x s _ (Prod.ext e1 rfl)).app (OZ C body note t r _ _ e)
theorem akN (C:eZ) (note:Bool) (t:Int):∀ (x:bH) (s s':CS),Av C note t x s=(0,s')→pV C (DZ x)
 | .mk h cs,s,s',e=>by
  have hc:=aaq C note t cs;rw [Av] at e;obtain ⟨e1,e⟩:=nI e;rw [DZ];exact pV.cons (pq e1 _ jg) (hc _ _ e)
theorem aar (C:eZ) (note:Bool) (t:Int):∀ (l:List bH) (s s':CS),gN C note t l s=(0,s')→pV C (vK l)
 | [],_,_,_=>by rw [vK];exact pV.nil C
 | x :: r,s,s',e=>by
  rw [gN] at e;obtain ⟨e1,e⟩:=nI e;rw [vK];exact (akN C note t x s _ (Prod.ext e1 rfl)).app (aar C note t r _ _ e)
theorem akL (C:eZ) (note:Bool) (t:Int):∀ (x:bq) (s s':CS),cellC C note t x s=(0,s')→pV C (DW x)
 | .mk i h f,s,s',e=>by
  have hf:=OZ C false note t f;rw [cellC] at e;obtain ⟨-,e⟩:=nI e;obtain ⟨e1,e⟩:=nI e;rw [DW];exact pV.cons e1 (hf _ _ e)
theorem aaq (C:eZ) (note:Bool) (t:Int):∀ (l:List bq) (s s':CS),mI C note t l s=(0,s')→pV C (wQ l)
 | [],_,_,_=>by rw [wQ];exact pV.nil C
 | x :: r,s,s',e=>by
  rw [mI] at e;obtain ⟨e1,e⟩:=nI e;rw [wQ];exact (akL C note t x s _ (Prod.ext e1 rfl)).app (aaq C note t r _ _ e)
end
theorem acA {d:oC} (hc:iW d=0):∀ q∈VQ d,q=0∨q∈d.revs.map dU.id:=by
 have z:=pq hc;have h2:=z (bO [fI d.nJ 3 d.fin,bL (rO d.fin.marks) 21]) (by simp);have h3:=z (gU d.nJ true false 0 d.flow ⟨0,[]⟩).1 (by simp);have hi:=OZ d.nJ true false 0 d.flow _ _ (Rq h3);intro q hq
 unfold VQ at hq
 rcases rU.1 hq with hq|hq
 ·obtain ⟨h,hh,hq⟩:=List.mem_flatMap.1 hq;obtain ⟨e,he⟩:=hi h hh;exact aae he q hq
 exact aae (pq h2 _ jg) q hq
theorem acB {d:oC} (hc:iW d=0):(d.revs.map dU.id).Pairwise (· < ·)∧∀ q∈d.revs.map dU.id,1≤q∧q≤1073741824:=by
 have h:=pq (pq hc _ jg) (xQ d.revs) (by simp);have h1:=pq h _ (jg);have h2:=pq h _ (sW _ jg)
 have hl:d.revs.length≤256:=by
  unfold bL at h1
  by_cases hd:256 < (d.revs.length:Int)
  ·rw [au (aG hd)] at h1;cases h1
  omega
 have hi:∀ i (hi:i < d.revs.length),1≤d.revs[i].id∧d.revs[i].id≤1073741824∧(∀ k (hk:k < d.revs.length),k+1=i→d.revs[k].id < d.revs[i].id):=by
  intro i hi;have h3:=Le h2 i (by omega)
  unfold yF at h3
  rw [fH hi] at h3;have h4:=Vb (pq h3 _ jg);rw [fH hi] at h4;refine ⟨h4.1,h4.2.1,fun k hk e=>?_⟩;subst e;have h5:=h4.2.2 (by omega);rw [Nat.add_sub_cancel,fH hk] at h5;exact h5
 refine ⟨List.pairwise_iff_getElem.2 ?_,fun q hq=>?_⟩
 ·intro i j hi' hj hij;rw [bN] at hi' hj;rw [List.getElem_map,List.getElem_map]
  induction j with
  | zero=>omega
  | succ j ih =>
   have h1:=(hi (j+1) hj).2.2 j (by omega) rfl
   by_cases e:i=j
   ·subst e;exact h1
   exact Int.lt_trans (ih (by omega) (by omega) (by omega)) h1
 obtain ⟨x,hx,rfl⟩:=List.mem_map.1 hq;obtain ⟨k,hk,rfl⟩:=List.getElem_of_mem hx;exact ⟨(hi k hk).1,(hi k hk).2.1⟩
theorem ajr {f:dz→Nat} {L:List dz}:0 < hS f L↔∃ h∈L,0 < f h:=by
 induction L with
 | nil=>simp [hS]
 | cons x L ih =>
  rw [Bz]
  constructor
  ·intro h
   by_cases hx:0 < f x
   ·exact ⟨x,jg,hx⟩
   obtain ⟨y,hy,h2⟩:=ih.1 (by omega);exact ⟨y,sW _ hy,h2⟩
  rintro ⟨y,hy,h2⟩
  rcases nG.1 hy with rfl|hy
  ·omega
  have:=ih.2 ⟨y,hy,h2⟩;omega
theorem amJ (l:List aC) (h:dz) (q:Int):q∈(Ap l h).flatMap refs↔q∈(mh l).flatMap refs++refs h:=by
 have h1:=aaO (fun x=>if q∈refs x then 1 else 0) l h
 have hp:∀ L:List dz,q∈L.flatMap refs↔0 < hS (fun x=>if q∈refs x then 1 else 0) L:=fun L=>by
  rw [ajr,List.mem_flatMap]
  constructor
  ·rintro ⟨x,hx,h⟩;exact ⟨x,hx,by rw [au h];omega⟩
  rintro ⟨x,hx,h⟩;refine ⟨x,hx,Classical.byContradiction fun hn=>?_⟩;rw [ah hn] at h;omega
 rw [hp,rU,hp,h1]
 by_cases hh:q∈refs h
 ·rw [au hh];exact ⟨fun _=>.inr hh,fun _=>by omega⟩
 rw [ah hh];exact ⟨fun h=>.inl (by omega),fun h=>h.elim (fun h=>by omega) (fun h=>absurd h hh)⟩
theorem adH {d:oC} (hc:iW d=0):AL d.revs (Ap d.flow d.fin)=sP (xC d):=by
 obtain ⟨hi,hb⟩:=acB hc
 have hnd:(d.revs.map dU.id).Nodup:=hi.imp fun h=>by omega
 have hp:(AL d.revs (Ap d.flow d.fin)).Pairwise (· < ·):=hi.sublist List.filter_sublist;refine adb ((List.perm_ext_iff_of_nodup (hnd.sublist List.filter_sublist) ((XT List.nodup_nil).sublist List.filter_sublist)).2 fun q=>?_) (hp.imp fun h=>Int.le_of_lt h)
 show q∈List.filter _ _↔q∈List.filter _ _
 rw [List.mem_filter,List.mem_filter,qY,qY,amJ,XR]
 constructor
 ·rintro ⟨h1,h2⟩;exact ⟨.inr h2,by have:=(hb q h1).1;omega⟩
 rintro ⟨h1|h1,h2⟩
 ·cases h1
 exact ⟨(acA hc q h1).resolve_left h2,h1⟩
theorem aql {d:oC} (hc:iW d=0) {q:Int} (h:q∈xC d):1≤q∧q≤1073741824:=by
 unfold xC at h
 rw [List.mem_filter,qY,XR] at h;obtain ⟨h1|h1,h2⟩:=h
 ·cases h1
 exact (acB hc).2 q ((acA hc q h1).resolve_left h2)
theorem aqk {d:oC} (hc:iW d=0):(xC d).length=(AL d.revs (Ap d.flow d.fin)).length:=by
 rw [adH hc,sP,List.length_mergeSort]
theorem abS {l:List Int}:∀ q∈l,q≤qO l:=by
 have key:∀ (l:List Int) (a:Int),a≤l.foldl max a∧∀ q∈l,q≤l.foldl max a:=by
  intro l
  induction l with
  | nil=>intro a;exact ⟨Int.le_refl _,fun _ h=>by cases h⟩
  | cons x l ih =>
   intro a;obtain ⟨h1,h2⟩:=ih (max a x);rw [List.foldl_cons];refine ⟨by omega,fun q hq=>?_⟩
   rcases nG.1 hq with rfl|hq
   ·omega
   exact h2 q hq
 exact (key l 0).2
theorem abT {l:List Int} (hn:l≠[]) (h0:∀ q∈l,1≤q):qO l∈l:=by
 have key:∀ (l:List Int) (a:Int),l.foldl max a=a∨l.foldl max a∈l:=by
  intro l
  induction l with
  | nil=>intro a;exact .inl rfl
  | cons x l ih =>
   intro a;rw [List.foldl_cons]
   rcases ih (max a x) with h|h
   ·by_cases hx:a≤x
    ·exact .inr (by rw [h,show max a x=x by omega];exact jg)
    exact .inl (by rw [h];omega)
   exact .inr (sW _ h)
 rcases key l 0 with h|h
 ·cases l with
  | nil=>exact absurd rfl hn
  | cons x l =>
   have h1:=abS (l:=x :: l) x jg;have h2:=h0 x jg;have h3:qO (x :: l)=0:=h
   omega
 exact h
theorem amU {l:List Int} (h0:∀ q∈l,1≤q) {n:Nat} (hn:n+1=(sP l).length):(sP l)[n]'(by omega)=qO l:=by
 have hp:(sP l).Perm l:=List.mergeSort_perm _ _
 have hs:(sP l).Pairwise (·≤·):=(List.pairwise_mergeSort (le:=fun a b=>decide (a≤b)) (fun a b c h1 h2=>iq (Int.le_trans (oU h1) (oU h2))) (fun a b=>by by_cases h:a≤b <;> simp [h];omega) l).imp fun h=>oU h
 have hl:l≠[]:=by
  rintro rfl;have:=hp.length_eq;rw [← hn] at this;simp at this
 refine Int.le_antisymm (abS _ (hp.mem_iff.1 (jD _))) ?_;obtain ⟨i,hi,he⟩:=List.getElem_of_mem (hp.mem_iff.2 (abT hl h0));rw [← he]
 by_cases e:i=n
 ·subst e;exact Int.le_refl _
 exact List.pairwise_iff_getElem.1 hs i n hi (by omega) (by omega)
end
section
open Go.RowKit
theorem Wu:qW ⟨#[97,98]⟩=true∧vB ⟨#[97,98]⟩ 0=2:=by
 have d0:oW ⟨#[97,98]⟩ 0=(97,1,true):=by decide
 have d1:oW ⟨#[97,98]⟩ 1=(98,1,true):=by decide
 have e2:vG ⟨#[97,98]⟩ 2=-1:=by rw [vG,dif_neg (by decide)]
 have e1:vG ⟨#[97,98]⟩ 1=-1:=by rw [vG,dif_pos (by decide),dif_pos (by rw [d1]),d1];exact e2
 have e0:vG ⟨#[97,98]⟩ 0=-1:=by rw [vG,dif_pos (by decide),dif_pos (by rw [d0]),d0];exact e1
 have c2:vB ⟨#[97,98]⟩ 2=0:=by rw [vB,ah (by decide)]
 have c1:vB ⟨#[97,98]⟩ 1=1:=by rw [vB,au (by decide),c2];decide
 have c0:vB ⟨#[97,98]⟩ 0=2:=by rw [vB,au (by decide),c1];decide
 exact ⟨by unfold qW;rw [e0];decide,c0⟩
abbrev hd0:dz:=⟨[],⟨0,0,[],[]⟩⟩
def mX:aC:=.mk 1 0 0 ⟨#[97,98]⟩ hd0 [] []
theorem uA:gI mX=2∧AJ mX=0:=by simp [gI,AJ,mX,aC.kind,aC.text,xR,KD,Wu.1,Wu.2]
theorem JH {G:GH}:nS G hd0 (.slice none 0 0) (.slice none 0 0) (.slice none 0 0):=⟨aB.lM rfl (by decide),aB.lM rfl (by decide),aB.lM rfl (by decide)⟩
end
section
open Go.RowKit
def yK:bq:=.mk 5 hd0 [mX]
def yL:bq:=.mk 4 hd0 []
def xG:bH:=.mk hd0 [yK,yL]
def kU:aC:=.mk 7 0 3 ⟨#[]⟩ hd0 [] [xG]
def yM:oC:=⟨[kU],hd0,[],⟨[],[],[],[]⟩⟩
theorem apW:qW ⟨#[]⟩=true:=by
 have e0:vG ⟨#[]⟩ 0=-1:=by rw [vG,dif_neg (by decide)]
 unfold qW;rw [e0];decide
theorem aqJ:kR ⟨[],[],[],[]⟩=0:=by simp [kR,bO,gM,uF,wC,uz,Ac,bL,iw]
theorem aqI:xQ []=0:=by simp [xQ,bO,bL,iw]
theorem KE (C:eZ) {e:Int} (h1:1≤e) (h2:e≤10):fI C e hd0=0:=by
 have h3:iM e []=0:=by rw [iM,ah (by omega)];rfl
 simp [fI,bO,hd0,h3,yE,fV,iw,bL]
theorem xFa:jE mX=0:=by
 simp [jE,mX,aC.kind,aC.code,aC.id,aC.text,aC.flow,aC.rows,codeOk,wI,A9,zF,zR,Ay,qd,Wu.1]
theorem xFt:jE kU=0:=by
 simp [jE,kU,aC.kind,aC.code,aC.id,aC.text,aC.flow,aC.rows,codeOk,wI,A9,zF,zR,Ay,qd,apW]
theorem aqG:gU yM.nJ true false 0 [kU] ⟨0,[]⟩=(0,⟨3,[3,5,4]⟩):=by
 generalize yM.nJ=C
 have hA:∀ s:CS,gU C false false 1 [mX] s=(0,⟨s.n+2,s.aY⟩):=fun s=>by
  have e1:kr false false 1 mX.kind mX.id ⟨s.n+(gI mX:Nat),s.aY⟩=(0,⟨s.n+2,s.aY⟩):=by rw [uA.1];rfl
  have e2:fI C mX.kind mX.head=0:=KE C (by decide) (by decide)
  simp [gU,MO,gD,xFa,e1,e2,show ¬ mX.kind=6 by decide,show ¬ mX.kind=7 by decide]
 have e2:kr true false 0 7 kU.id ⟨((gI kU:Nat):Int),[]⟩=(0,⟨1,[3]⟩):=rfl;have e3:fI C 7 kU.head=0:=KE C (by decide) (by decide);have e4:fI C 9 xG.head=0:=KE C (by decide) (by decide);have e5:fI C 10 yK.head=0:=KE C (by decide) (by decide);have e6:fI C 10 yL.head=0:=KE C (by decide) (by decide);have e7:jo ⟨1,[3]⟩ yK.id=(0,⟨1,[3,5]⟩):=rfl;have e8:jo ⟨3,[3,5]⟩ yL.id=(0,⟨3,[3,5,4]⟩):=rfl;have f1:kU.rows=[xG]:=rfl;have f2:xG.cells=[yK,yL]:=rfl;have f3:yK.flow=[mX]:=rfl;have f4:yL.flow=[]:=rfl
 simp [gU,MO,gD,xFt,e2,e3,show ¬ kU.kind=6 by decide,show kU.kind=7 by decide,f1,kD,gN,IC,sO,e4,bO,bL,f2,mI,Aa,e5,e6,e7,e8,f3,f4,hA]
theorem aqF:iW yM=0:=by
 have h1:fI yM.nJ 3 yM.fin=0:=KE _ (by decide) (by decide);have h2:kR yM.lT=0:=aqJ;have h3:xQ yM.revs=0:=aqI;have h4:gU yM.nJ true false 0 yM.flow ⟨0,[]⟩=(0,⟨3,[3,5,4]⟩):=aqG
 have h5:rO yM.fin.marks=false:=by decide
 simp [iW,h1,h2,h3,h4,h5,bO,bL]
theorem WK:gK [kU]=[⟨0,[kU],true,false,0⟩,⟨5,[mX],false,false,1⟩,⟨4,[],false,false,1⟩]:=by
 simp [gK,jO,adO,kU,aC.kind,aC.rows,pR,adP,xG,bH.cells,qz,adL,yK,yL,bq.id,bq.flow,mX]
theorem aqH:CV [kU] 4=some (0,0):=by
 have h1:fZ 5 0 [mX]=[]:=by simp [fZ,Kh,mX,aC.kind]
 have h2:fZ 4 0 []=[]:=by simp [fZ]
 simp [CV,fZ,Kh,kU,aC.kind,kL,xG,yK,yL,bH.cells,jY,acj,bq.id,bq.flow,h1,h2,J2,aC.id,aC.rows,Pq]
theorem WM:fK [kU]=[3,5,4]:=by
 simp [fK,abf,kU,aC.kind,aC.id,aC.rows,aC.flow,wU,abg,xG,bH.cells,yu,abe,yK,yL,bq.id,bq.flow,mX]
theorem adZ:∀ k,og ((gK [kU]).take k)=if k=0 then 0 else if k=1 then 1 else 3:=by
 have l1:uO [kU]=1:=by simp [uO,xU,uT,gI,AJ,kU,aC.kind]
 have l2:uO [mX]=2:=by simp [uO,xU,uT,uA.1,uA.2]
 have l3:uO []=0:=rfl;intro k;rw [WK]
 match k with
 | 0=>rfl
 | 1=>simp [og,l1]
 | 2=>simp [og,l1,l2]
 | n+3=>simp [og,l1,l2,l3]
end
section
open Go.RowKit
theorem ada:ug prog 68 [(0,1),(1,1),(2,1),(3,1),(4,5),(9,1),(10,1)] [.int .i64 0,.int .i64 0,.int .i64 0,.string ⟨#[]⟩,.slice none 0 0,.int .i64 0,.int .i64 0,.slice none 0 0,.slice none 0 0,.slice none 0 0,.slice none 0 0]:=⟨by kernel_rfl,by kernel_rfl⟩
theorem apG:ug prog 38 [(0,1),(1,5),(6,1),(7,4)] [.slice none 0 0,.slice none 0 0,.int .i64 0,.int .i64 0,.slice none 0 0,.slice none 0 0,.slice none 0 0,.slice none 0 0,.slice none 0 0,.slice none 0 0,.slice none 0 0]:=⟨by kernel_rfl,by kernel_rfl⟩
theorem ahA:∀ args w,(callFunc 36 args).run prog w=.ok (.enter 36 args) w:=enters func36 rfl (by kernel_rfl)
theorem ahz:∀ args w,(callFunc 28 args).run prog w=.ok (.enter 28 args) w:=enters func28 rfl (by kernel_rfl)
theorem ahB:∀ args w,(callFunc 37 args).run prog w=.ok (.enter 37 args) w:=enters func37 rfl (by kernel_rfl)
theorem ahy:∀ args w,(callFunc 27 args).run prog w=.ok (.enter 27 args) w:=enters func27 rfl (by kernel_rfl)
theorem ahS:WY prog 48 [0,1]:=⟨by kernel_rfl,by kernel_rfl,by kernel_rfl,by kernel_rfl,by kernel_rfl⟩
theorem YZ:∀ args w,(callFunc 20 args).run prog w=.ok (.enter 20 args) w:=enters func20 rfl (by kernel_rfl)
theorem Y0:∀ args w,(callFunc 21 args).run prog w=.ok (.enter 21 args) w:=enters func21 rfl (by kernel_rfl)
theorem anh {G:GH}:Dp G ⟨[],[],[],[]⟩ (.slice none 0 0) (.slice none 0 0) (.slice none 0 0) (.slice none 0 0):=⟨aB.lM rfl (by decide),aB.lM rfl (by decide),aB.lM rfl (by decide),aB.lM rfl (by decide)⟩
theorem ahW (G:GH) (w0:World) (hG:Hold G w0) :
  Calls prog 36 #[] w0 (bV w0 G fun u G'=>∃ D:jP,u=D.val∧yO G' D yM):=by
 refine eN [] func36 rfl ntmps36 rfl rfl hG ?_;intro a H;refine cO (fun _ K1=>?_);refine dY lV H wn rfl ?_;clear H;intro b0 a w hb0 H;refine K1 _ _ ?_;clear K1;refine cO (fun _ K2=>?_);refine mq ada [_,_,_,_,_,_,_,_,_,_,_] H wn rfl rfl rfl rfl ?_;clear H;intro a H;refine jd jM eH [_,_,_,_,_,_,_,_,_,_,_] [_,_,_,_,_,_,_,_,_,_,_] H wn rfl rfl rfl rfl rfl (by intro i q h;match i,h with|0,h=>exact h|n+1,h=>simp at h) rfl rfl ?_;clear H;intro b3 a w hb3 H;refine kH H (ak K2 rfl (SR fun _ K3=>Rm rfl ?_));clear H K2;intro a H;(iterate 2 refine mq acW [_,_,_,_,_,_,_] H wn rfl rfl rfl rfl ?_;clear H;intro a H);refine jd lQ jK [_,_,_,_,_,_,_,_,_,_,_,_,_,_] [_,_,_,_,_,_,_,_,_,_,_,_,_,_] H wn rfl rfl rfl rfl rfl (by intro i q h;match i,h with|0,h=>exact h|1,h=>exact h|n+2,h=>simp at h) rfl rfl ?_;clear H;intro b7 a w yg H;refine mq apE [_,_,_,_,_,_] H wn rfl rfl rfl rfl ?_;clear H;intro a H;refine jd jG jJ [_,_,_,_,_,_] [_,_,_,_,_,_] H wn rfl rfl rfl rfl rfl (by intro i q h;match i,h with|0,h=>exact h|n+1,h=>simp at h) rfl rfl ?_;clear H;intro b9 a w uL H;refine mq ada [_,_,_,_,_,_,_,_,_,_,_] H wn rfl rfl rfl rfl ?_;clear H;intro a H;refine jd jM eH [_,_,_,_,_,_,_,_,_,_,_] [_,_,_,_,_,_,_,_,_,_,_] H wn rfl rfl rfl rfl rfl (by intro i q h;match i,h with|0,h=>exact h|n+1,h=>simp at h) rfl rfl ?_;clear H;intro b11 a w Hu H;refine mq apG [_,_,_,_,_,_,_,_,_,_,_] H wn rfl rfl rfl rfl ?_;clear H;intro a H;refine bT lV 4 (vs:=[_,_,_,_,_,_,_,_,_,_,_]) _ H wn rfl rfl rfl rfl rfl rfl rfl rfl ?_;clear H;intro w H;dsimp only [List.set,setRow] at H;refine K3 _ _ ?_;clear K3;refine dK ?_;refine (leave1 H results36 (.cons (M6 lV (cs:=[_,_,_,_,_,_,_,_,_,_,_]) H rfl rfl (H.hp.fG 4 rfl rfl)) .nil) ?_).1;have H:=H.dx (Pl:=[_,_,_,_,_]) (bZ:=[_,_,_,_]) [3,2,1,0] (by decide) rfl;obtain ⟨G3,rJ,hr3,H⟩:=H.Ox (sz:=11) (d:=mX.dat) rfl (bM.mkItem (x:=mX) JH (aB.lM (A:=none) (n:=0) (c:=0) rfl (by decide)) (aB.lM (A:=none) (n:=0) (c:=0) rfl (by decide)));obtain ⟨G7,yh,yg,H⟩:=H.eD;have rA:bM G7 yK.dat _:=bM.PO (x:=yK) JH (hr3.mono yh);have rB:bM G7 yL.dat _:=bM.PO (x:=yL) JH (aB.lM (A:=none) (n:=0) (c:=0) rfl (by decide));have oK:gP G7 7 (xG.cells.map bq.dat) _:=(gP.nil.snoc rA rfl).snoc rB rfl;have UO:aB G7 (.sl 7 (xG.cells.map bq.dat)) (.slice (some ⟨b7,0,none⟩) 2 2):=aB.fC (n:=2) (cap:=2) yg rfl (dB _) (show 2≤maxLen by decide) rfl oK;obtain ⟨G9,JL,MH,H⟩:=H.Ox (sz:=6) (d:=xG.dat) rfl (bM.abV (x:=xG) JH UO);obtain ⟨zT,H8,akV,H⟩:=H.Ox (sz:=11) (d:=kU.dat) rfl (bM.mkItem (x:=kU) JH (aB.lM (A:=none) (n:=0) (c:=0) rfl (by decide)) MH);exact H.rt ⟨⟨(some ⟨b11,0,none⟩,1,1),(none,0,0),(none,0,0),(none,0,0),(none,0,0),(none,0,0),(none,0,0),(none,0,0),(none,0,0),0,0⟩,rfl,⟨akV,JH,rfl,rfl,aB.lM (c:=0) rfl (show 0≤maxLen by decide),anh⟩⟩
theorem xZt:dh kU.dat≤100:=by
 have h1:=oN kU;have h2:=tY xG;have h3:=uX yK;have h4:=uX yL;have h5:=oN mX
 have h0:pU hd0=5:=by simp [Df,eu]
 have g1:kU.head=hd0:=rfl;have g2:xG.head=hd0:=rfl;have g3:yK.head=hd0:=rfl;have g4:yL.head=hd0:=rfl;have g5:mX.head=hd0:=rfl;have s1:kU.text.size=0:=rfl;have s5:mX.text.size=2:=rfl;have f1:bB kU.flow=0:=rfl;have f5:bB mX.flow=0:=rfl;have f3:bB yK.flow=1+dh mX.dat:=rfl;have f4:bB yL.flow=0:=rfl;have r1:eG kU.rows=1+dh xG.dat:=rfl;have r5:eG mX.rows=0:=rfl;have c2:iC xG.cells=1+dh yK.dat+(1+dh yL.dat):=rfl;rw [g1,h0] at h1;rw [g2,h0] at h2;rw [g3,h0] at h3;rw [g4,h0] at h4;rw [g5,h0] at h5
 omega
theorem xZ:IV yM:=by
 have h0:pU hd0=5:=by simp [Df,eu]
 have h1:bB yM.flow=1+dh kU.dat:=rfl;have h2:=xZt;exact ⟨by omega,by show pU hd0≤_;omega,by decide,(fun x h=>by cases h),by decide,⟨(fun x h=>by cases h),by decide,(fun x h=>by cases h),by decide,(fun x h=>by cases h),by decide,(fun x h=>by cases h),(fun x h=>by cases h),(fun x h=>by cases h)⟩⟩
theorem Vi (G:GH) (w0:World) (hG:Hold G w0):Calls prog 8 #[] w0 (bV w0 G fun u G'=>u=.bool true):=by
 have hz:bB [kU]≤4294967296:=Nat.le_trans xZ.fl (by decide);refine eN [] func8 rfl ntmps8 rfl rfl hG ?_;intro a H;refine kP H (SR fun _ K1=>ak K1 rfl (SR fun _ K2=>?_));clear H K1;intro a H;refine s_call ahA H wn rfl (ahW _ _ H.ro) rfl ?_;clear H;rintro v5 G5 a w ⟨D,rfl,hR⟩ hm5 H;refine dY lV H wn rfl ?_;clear H;intro b1 a w hb1 H;refine bT lV 0 (vs:=[_,_,_,_,_,_,_,_,_,_,_]) _ H wn rfl rfl rfl rfl rfl rfl rfl rfl ?_;clear H;intro w H;dsimp only [List.set,setRow] at H;refine K2 _ _ ?_;clear K2;refine cO (fun _ K3=>?_);refine bK lV (cs:=[_,_,_,_,_,_,_,_,_,_,_]) H wn rfl rfl (H.hp.fG 0 rfl rfl) rfl ?_;clear H;intro a H;refine s_call ahz H wn rfl (agh _ _ H.ro D [kU] hR.fl hz) rfl ?_;clear H;rintro v7 G7 a w hfl yh H;replace hR:=hR.mono yh;rw [WK] at hfl;obtain ⟨vA,vn,vc,rfl⟩:=hfl.form;obtain rfl:vn=3:=hfl.len;obtain ⟨b,o,cs,rfl,hcl,ala,hr⟩:=hfl.at_ 1 [li 5] rfl;obtain ⟨_,_,rfl,⟨rfl,-⟩,rfl⟩:∃ v vs,cs=v :: vs∧aB G7 (li 5) v∧vs=[]:=hr;obtain ⟨b',o',cs,he,hcl,hrow2,hr⟩:=hfl.at_ 2 [li 4] rfl;obtain ⟨_,_,rfl,⟨rfl,-⟩,rfl⟩:∃ v vs,cs=v :: vs∧aB G7 (li 4) v∧vs=[]:=hr
 injection he with he
 injection he with e1 e2
 subst e1;subst e2;have c1:aF G7 b (o+1*1)=some (vi 5):=ala 0 _ rfl;have c2:aF G7 b (o+2*1)=some (vi 4):=hrow2 0 _ rfl;refine kH H (ak K3 rfl (SR fun _ K4=>?_));clear H K3;intro a H;refine bK lV (cs:=[_,_,_,_,_,_,_,_,_,_,_]) H wn rfl rfl (H.hp.fG 0 rfl rfl) rfl ?_;clear H;intro a H;refine s_call ahB H wn rfl (anO _ _ H.ro D [kU] 4 hR.fl hz) rfl ?_;clear H;rintro v10 Nq a w rfl Cx H;replace hR:=hR.mono Cx;replace c1:=aJ Cx c1;replace c2:=aJ Cx c2;rw [aqH] at H;dsimp only [Option.getD,Option.isSome] at H;refine kH H (Rm rfl ?_);clear H;intro a H;(iterate 2 refine nQ H wn rfl rfl rfl ?_;clear H;intro a H);refine dY kE H wn rfl ?_;clear H;intro b3 a w hb3 H;refine bT kE 0 (vs:=[_,_]) _ H wn rfl rfl rfl rfl rfl rfl rfl rfl ?_;clear H;intro w H;dsimp only [List.set,setRow] at H;refine kH H (ak K4 rfl (SR fun _ K5=>?_));clear H K4;intro a H;refine bK lV (cs:=[_,_,_,_,_,_,_,_,_,_,_]) H wn rfl rfl (H.hp.fG 1 rfl rfl) rfl ?_;clear H;intro a H;refine s_call ahy H wn rfl (afK _ _ H.ro D yM hR xZ) rfl ?_;clear H;rintro v14 tZ a w rfl Fv H;replace hR:=hR.mono Fv;replace c1:=aJ Fv c1;replace c2:=aJ Fv c2;rw [aqF] at H;refine kH H (Rc rfl (Rm rfl (Sp 16 rfl ?_ ?_))) <;> clear H
 ·intro h16 a H
  try have p16:=dT h16
  refine kH H (YM h16 rfl (YL jN h16 rfl (YC h16 rfl (Pt h16 rfl (Rm rfl (Sp 21 rfl ?_ ?_)))))) <;> clear H
  ·intro h21 a H
   try have ou:=dT h21
   refine kH H (YM h21 rfl ?_);clear H;intro a H;refine Qe jN aD 1 H (wg H rfl rfl h21) rfl rfl rfl (by omega) rfl ?_;clear H;intro a H;refine kH H (YR aD h21 rfl c1 (YC h21 rfl (Pt h21 rfl (Rm rfl (Sp 27 rfl ?_ ?_))))) <;> clear H
   ·intro h27 a H
    try have p27:=dT h27
    refine kH H (YM h27 rfl ?_);clear H;intro a H;refine Qe jN aD 2 H (wg H rfl rfl h27) rfl rfl rfl (by omega) rfl ?_;clear H;intro a H;refine kH H (YR aD h27 rfl c2 (YC h27 rfl (Pt h27 rfl (Rm rfl (Sp 33 rfl ?_ ?_))))) <;> clear H
    ·intro pz a H
     refine kH H (YM pz rfl (Pt pz rfl (Rm rfl (Sp 36 rfl ?_ ?_)))) <;> clear H
     ·intro Jw a H
      refine bK kE (cs:=[_,_]) H (wg H rfl rfl Jw) rfl rfl (H.hp.fG 0 rfl rfl) rfl ?_;clear H;intro a H;refine mq Kq [_,_] H (wg H rfl rfl Jw) rfl rfl rfl rfl ?_;clear H;intro a H;refine aoJ ahS H (wg H rfl rfl Jw) rfl rfl rfl rfl ?_;clear H;intro a H;refine kH H (Pt Jw rfl (Rm rfl (Sp 41 rfl ?_ ?_))) <;> clear H
      ·intro mY a H
       refine bK lV (cs:=[_,_,_,_,_,_,_,_,_,_,_]) H (wg H rfl rfl mY) rfl rfl (H.hp.fG 1 rfl rfl) rfl ?_;clear H;intro a H;refine s_call YZ H (wg H rfl rfl mY) rfl (ZB _ _ H.ro D [kU] hR.fl hz (by rw [WM];decide) (by rw [WM];decide)) rfl ?_;clear H;rintro v43 AO a w rfl nO H;replace hR:=hR.mono nO;rw [WM] at H;refine kH H (YC mY rfl (Pt mY rfl (Rm rfl (Sp 46 rfl ?_ ?_)))) <;> clear H
       ·intro h46 a H
        refine bK lV (cs:=[_,_,_,_,_,_,_,_,_,_,_]) H (wg H rfl rfl h46) rfl rfl (H.hp.fG 1 rfl rfl) rfl ?_;clear H;intro a H
        refine s_call Y0 H (wg H rfl rfl h46) rfl (adz _ _ H.ro D [kU] hR.fl hz (fun k _=>by rw [adZ];(repeat' split) <;> decide)) rfl ?_;clear H
        rintro v48 Xe a w rfl OV H;rw [show og (gK [kU])=3 by have:=adZ 3;rw [mF (by rw [WK];decide)] at this;exact this] at H;exact kH H (YC h46 rfl (Pt h46 rfl (ak K5 rfl (LR results8 rfl fun H=>H.rt rfl))))
       intro h46 a H
       exact absurd h46 (by decide)
      intro mY a H
      exact absurd mY (by decide)
     intro Jw a H
     exact absurd Jw (by decide)
    intro pz a H
    exact absurd pz (by decide)
   intro h27 a H
   exact absurd h27 (by decide)
  intro h21 a H
  exact absurd h21 (by decide)
 intro h16 a H
 exact absurd h16 (by decide)
end
section
open Go.RowKit
theorem Ze:∀ args w,(callFunc 71 args).run prog w=.ok (.enter 71 args) w:=enters func71 rfl (by kernel_rfl)
theorem aik:dL prog 56 2 12:=⟨by kernel_rfl⟩
theorem Sj:dL prog 56 1 11:=⟨by kernel_rfl⟩
def xJ (v:aj) (aY:List Int) (L L0:OL):Prop:=∃ Lo,L=L0++Lo∧gJ 3 1 v aY.length (aY.map vi) Lo
theorem ajv (G:GH) (Lo:OL) (w0:World) (l:List Int) (v:aj) (hr:gJ 3 1 v l.length (l.map vi) Lo) (hO:iT G Lo w0) (x:Int) :
  Calls prog 71 #[v,vi x] w0 (iE w0 G Lo fun u G' L'=>G=G'∧L'=Lo∧u=.bool (decide (x∈l))):=by
 rcases hr.2 with ⟨rfl,hn,rfl⟩|⟨b,cap,cur,rfl,rfl,h1,h2,h3,h4⟩
 ·obtain rfl:l=[]:=List.length_eq_zero_iff.1 hn;refine (TU G w0 hO.ro [] _ (aB.lM rfl (by decide)) x).mono fun _ _ h=>?_;obtain ⟨u,G',L',rfl,hc,rfl,rfl,rfl⟩:=Hp.aop hO.ro h;exact ⟨_,_,_,rfl,hc,rfl,rfl,rfl⟩
 have hm:=GH.GI G (o:=.cells cur 3 (0,0)) (hO.sep _ jg);exact (TU (G.add b (.cells cur 3 (0,0))) w0 hO.add l _ (aB.fC (GH.GJ _ _ _) (by simp) h1 h2 h4 (gy _ l)) x).mono fun _ _=>VR (b:=b) (R':=fun u=>u=.bool (decide (x∈l))) hO fun _ _ h=>h.1
theorem abK (G:GH) (L L0:OL) (w0:World) (D:jP) (b:Nat) (v:aj) (s:CS) (x:Int) (hi:xJ v s.aY L L0) (hO:iT G (iR D b v s.n :: L) w0) (hn:s.aY.length < 1099511627776) :
  Calls prog 54 #[(aP b 0),vi x] w0 (iE w0 G (iR D b v s.n :: L) fun u G' L'=>G=G'∧∃ v' L1,u=vi (jo s x).1∧L'=iR D b v' s.n :: L1∧xJ v' (jo s x).2.aY L1 L0):=by
 obtain ⟨Lo,rfl,hr⟩:=hi;obtain ⟨vA,vc,rfl,-,-⟩:=hr.shape;obtain ⟨n,aY⟩:=s;dsimp only at hr hO hn ⊢;have hml:maxLen=9223372036854775807:=rfl;refine kS (N:=37) (T:=[(0,_),(1,_)]) func54 rfl ntmps54 rfl rfl hO ?_;intro a H;refine kP H (SR fun _ K1=>ak K1 rfl (SQ fun _ K2=>SB (SR fun _ K3=>Rm rfl (Rc rfl (Rm rfl (Sp 8 rfl ?_ ?_)))))) <;> clear H K1
 ·intro h8 a H
  try have p8:=dT h8
  refine kH H (aT h8 rfl (Pt h8 rfl (Rm rfl (aZ rfl rfl (aZ rfl rfl (Pt rfl rfl (ak K3 rfl (Ct rfl rfl (SR fun _ K4=>ak K4 rfl ?_)))))))));clear H K3 K4;intro a H;refine lr H results54 rfl ?_
  have e:nP aY x=18:=by rw [nP,au (by omega)]
  exact H.hp.gB ⟨rfl,_,_,ay vi e.symm,rfl,by show xJ _ (jH aY x) _ _;rw [jH,ah (by rw [e];decide)];exact ⟨Lo,rfl,hr⟩⟩
 intro h8 a H
 try have p8:=dF h8
 refine kH H (YM h8 rfl (YC h8 rfl (Pf h8 rfl (Rm rfl (Sp 12 rfl ?_ ?_))))) <;> clear H
 ·intro h12 a H
  try have qm:=dT h12
  refine kH H (aZ h12 rfl (aZ h12 rfl (Pt h12 rfl (ak K3 rfl (Ct rfl rfl (SR fun _ K5=>ak K5 rfl ?_))))));clear H K3 K5;intro a H;refine lr H results54 rfl ?_
  have e:nP aY x=18:=by rw [nP,au (by omega)]
  exact H.hp.gB ⟨rfl,_,_,ay vi e.symm,rfl,by show xJ _ (jH aY x) _ _;rw [jH,ah (by rw [e];decide)];exact ⟨Lo,rfl,hr⟩⟩
 intro h12 a H
 try have qm:=dF h12
 refine kH H (YM h12 rfl ?_);clear H;intro a H;refine uR H (wg H rfl rfl h12) rfl rfl ?_;clear H;intro a H;refine kH H (YF aik h12 rfl (YO xw 0 h12 rfl (YM h12 rfl ?_)));clear H;intro a H;refine s_call Ze H (wg H rfl rfl h12) rfl (TU _ _ H.ro [] _ (aB.lM rfl (by decide)) x) rfl ?_;clear H;rintro v18 _ a w ⟨rfl,rfl⟩ - H;refine kH H (Pf h12 rfl (ak K3 rfl (Cd rfl ?_ ?_))) <;> clear H K3
 ·intro h5 a H
  try have p5:=dT h5
  exact kP H (SR fun _ K6=>ak K6 rfl (LR results54 rfl fun H=>absurd p5 (by simp)))
 intro h5 a H
 try have p5:=dF h5
 refine kP H (SR fun _ K7=>Rm rfl (Rk rfl (aR Sj xw 0 rfl rfl (Rm rfl ?_))));clear H;intro a H;refine gW Ze (Li:=_ :: L0) (L:=Lo) H wn rfl (ajv _ _ _ aY _ hr (Hp.owns (Li:=_ :: L0) H.hp) x) rfl ?_;clear H;rintro v26 _ Lo a w ⟨rfl,rfl,rfl⟩ - H;refine kH H (ak K7 rfl (Cd rfl ?_ ?_)) <;> clear H K7
 ·intro h20 a H
  try have qP:=dT h20
  refine kP H (SR fun _ K8=>ak K8 rfl ?_);clear H K8;intro a H;refine lr H results54 rfl ?_
  have e:nP aY x=7:=by rw [nP,ah (by omega),au qP]
  exact H.hp.gB ⟨rfl,_,_,ay vi e.symm,rfl,by show xJ _ (jH aY x) _ _;rw [jH,ah (by rw [e];decide)];exact ⟨Lo,rfl,hr⟩⟩
 intro h20 a H
 try have qP:=dF h20
 refine kP H (Kc K2 (SR fun _ K9=>Rm rfl (Rm rfl (Rk rfl (aR Sj xw 0 rfl rfl (Rm rfl ?_))))));clear H K2;intro a H;refine jd jN aD [_] [_] H wn rfl rfl rfl rfl rfl (by intro i q h;match i,h with|0,h=>exact h|n+1,h=>simp at h) rfl rfl ?_;clear H;intro b33 a w arp H;refine Aw (Li:=_ :: _ :: L0) (Lo:=Lo) (news:=[vi x]) jN aD rfl rfl H wn rfl rfl hr rfl (H.hp.fG 0 rfl rfl) rfl (by omega) (by omega) rfl ?_;clear H;intro v34 XJ a w aaE H;obtain ⟨A34,c34,rfl,-,-⟩:=aaE.shape;refine kH H (Rk rfl (Rf Sj rfl ?_));clear H;intro a H;refine bT xw 1 (vs:=[_]) _ H wn rfl rfl rfl rfl rfl rfl rfl rfl ?_;clear H;intro w H;dsimp only [List.set,setRow] at H;refine K9 _ _ ?_;clear K9;refine kP H (SR fun _ aU=>ak aU rfl ?_);clear H aU;intro a H;refine lr H results54 rfl ?_
 have e:nP aY x=0:=by rw [nP,ah (by omega),ah qP]
 exact H.hp.bU (L':=iR D b _ n :: (L0++XJ)) (by repeat (first|exact cu _|apply List.Sublist.cons|apply List.Sublist.cons₂)) ⟨rfl,_,_,ay vi e.symm,rfl,by show xJ _ (jH aY x) _ _;rw [jH,au e];exact ⟨XJ,rfl,by simpa using aaE⟩⟩
end
section
open Go.RowKit
theorem LK:∀ args w,(callFunc 96 args).run prog w=.ok (.enter 96 args) w:=enters func96 rfl (by kernel_rfl)
theorem R7:∀ args w,(callFunc 97 args).run prog w=.ok (.enter 97 args) w:=enters func97 rfl (by kernel_rfl)
set_option maxHeartbeats 8000000 in
theorem amI (G:GH) (w0:World) (hG:Hold G w0) (D:jP) (st:List bS) (li:List dR) (rv:List dU) (b:Nat) (v:aj) (n:Int) (hck:Ca G D st li rv) (hmz:Gy st li rv) (hb:G b=some (iR D b v n).2)
  (e:Int) (h:dz) (p d l:aj) (hh:nS G h p d l) (hz:pU h≤4294967296) :
  Calls prog 43 #[(aP b 0),vi e,Fq h p d l] w0 (bV w0 G fun u G'=>u=vi (fI (aK st li rv) e h)):=by
 obtain ⟨pA,pc,rfl,-,-,-⟩:=hh.props.slice;obtain ⟨dA,dc,rfl,-,-,-⟩:=hh.bJ.slice;obtain ⟨lA,lc,rfl,-,-,-⟩:=hh.layers.slice;have hml:maxLen=9223372036854775807:=rfl;have hzz:=Df h;have hz1:=nC (h.props.map jX.dat);have hz2:=nC (h.marks.bJ.map kV.dat);have hz3:=nC (h.marks.layers.map lF.dat)
 simp only [bN] at hh hz1 hz2 hz3 ⊢
 generalize pU h=zz at hz hzz
 refine eN [(0,_),(1,_),(2,_)] func43 rfl ntmps43 rfl rfl hG ?_;intro a H;refine cO (fun _ K1=>?_);refine fD (cs:=[_,_,_,_,_]) H wn rfl rfl rfl ?_;clear H;intro b5 a w hb5 H;refine kH H (ak K1 rfl (SQ fun _ K2=>SQ fun _ K3=>?_));clear H K1;intro a H;obtain ⟨Ga,hma,zu,H⟩:=H.eD;replace hck:=hck.mono hma;replace hb:=hma _ _ hb;replace hh:=hh.mono hma
 have SE:aF Ga b5 0=some (.slice pA h.props.length pc):=by unfold aF;rw [zu];rfl
 have SG:∀ (j:Nat) (u:aj),[vi h.marks.ins,vi h.marks.move,.slice dA h.marks.bJ.length dc,.slice lA h.marks.layers.length lc][j]?=some u→aF Ga b5 (1+j)=some u:=by
  intro j u hj
  unfold aF;rw [zu]
  match j,hj with
  | 0,hj=>exact hj
  | 1,hj=>exact hj
  | 2,hj=>exact hj
  | 3,hj=>exact hj
  | n+4,hj=>simp at hj
 refine kP H (SC (Rm rfl (Rf Cq rfl (Rg zM rfl SE ?_))));clear H;intro a H;refine s_call R6 H wn rfl (EX (VK _ _ H.ro e h.props _ hh.props)) rfl ?_;clear H;rintro v19 _ a w ⟨⟨_,rfl⟩,rfl⟩ - H;refine kH H (aL K3 rfl (SR fun _ K4=>Rm rfl (Rc rfl (Kz K4 (Cd rfl ?_ ?_))))) <;> clear H K3 K4
 ·intro h21 a H
  try have ou:=dT h21
  refine aN (fun _ K5=>?_);have hE:=Z7 (C:=aK st li rv) (e:=e) (h:=h) ou;exact kP H (SC (Rm rfl (aL K5 rfl (LR results43 rfl fun H=>H.rt (by rw [hE])))))
 intro h21 a H
 try have ou:=dF h21
 have e1:iM e h.props=0:=by simpa using ou
 refine kP H (Kc K2 (SQ fun _ K6=>SR fun _ K7=>ak K7 rfl (SB ?_)));clear H K2 K7;intro a H;skip;refine dV (ι:=Nat × GH) (Tc:=[(0,_),(1,_),(5,_)]) (Lc:=[]) (fun gh=>[(8,vi gh.1)]) (fun gh=>[]) (fun gh=>gh.2) (fun gh=>gh.1≤h.props.length∧bO ((h.props.map fun p=>kM st (li.map dR.id) p.key p.value).drop gh.1)=yE (aK st li rv) h.props∧∀ b o,Ga b=some o→gh.2 b=some o) (fun gh=>h.props.length - gh.1) ((0,Ga)) (by exact (H).sub ⟨rfl,rfl,rfl,rfl,av⟩) ?_ ?_
 ·exact ⟨fQ _,rfl,fun _ _ h=>h⟩
 clear H;rintro ⟨k,g⟩ a w hI H;dsimp only at hI H;obtain ⟨hk,heq,hgm⟩:=hI;have SF:=aJ hgm SE;have hh':=hh.mono hgm;dsimp only [lca,aO] at H;refine kP H (SQ fun _ K8=>SR fun _ K9=>Rm rfl (Rf Cq rfl (Rg zM rfl SF (Rl tV rfl (Rc rfl (Kz K9 (Cd rfl ?_ ?_))))))) <;> clear H K9
 ·intro h27 a H
  try have p27:=dT h27
  have hk2:k < h.props.length:=by omega
  obtain ⟨xb,xo,rfl,hrow⟩:=M4 hh'.props hk2;have r0:=hrow 0 _ rfl;have r1:=hrow 1 _ rfl;refine kP H (Kc K8 (SQ fun _ aU=>SB (SQ fun _ bD=>?_)));clear H K8;intro a H;refine dI hmx [[],[],[1],[],[1,2,3],(ra 1 4),(ra 1 5),[],[7],[],[7,8,9],(ra 7 4),(ra 7 5),(ra 0 13),(ra 0 14)] [14] (by kernel_rfl) [_,_,_,_,_,_,_,_,_,_,_,_,_,vi (kM st (li.map dR.id) h.props[k].key h.props[k].value)] H (aI (Z0 rfl (Rm rfl)) (Z0 rfl (Rf Cq rfl)) (X1 1 31 rfl fun hG=>Rg zM rfl (aJ hG SF)) (Z0 rfl (Rm rfl)) (aI (Z2 2 32 3 33 rfl (Ri tV tT rfl rfl)) (Z1 4 34 rfl (Rf xV rfl)) (X1 5 35 rfl fun hG=>Rg aD rfl (aJ hG r0)) (Z0 rfl (Rf Cq rfl)) (aI (X1 7 37 rfl fun hG=>Rg zM rfl (aJ hG SF)) (Z0 rfl (Rm rfl)) (Z2 8 38 9 39 rfl (Ri tV tT rfl rfl)) (Z1 10 40 rfl (Rf Si rfl)) (bG (X1 11 41 rfl fun hG=>Rg aD rfl (aJ hG r1)) (bG ?_ (bG (cZ rfl) dQ)))))) ?_
  ·refine wh 0 30 6 36 12 42 rfl rfl fun _ a w G1 hG HT H fin=>?_;refine s_call LK H wn rfl (MQ _ _ H.ro D st li rv b v n ((hck.mono hgm).mono hG) hmz (hG _ _ (hgm _ _ hb)) h.props[k].key h.props[k].value) rfl ?_;clear H;rintro v43 AO a w ⟨rfl,-⟩ aiV H;exact fin H aiV (rfl)
  clear H;intro a w G OD H hv;have H:=H.bC (hv 13 43 rfl rfl) rfl;clear hv;refine kH H (Ra rfl ?_);clear H;intro a H;refine aH ⟨rfl,?_⟩;refine bD _ _ ?_;clear bD;refine kP H (SR fun _ bE=>Rm rfl (Rc rfl (Kz bE (Cd rfl ?_ ?_)))) <;> clear H bE
  ·intro h45 a H
   try have p45:=dT h45
   refine aN (fun _ bQ=>?_)
   have hr:yE (aK st li rv) h.props=kM st (li.map dR.id) h.props[k].key h.props[k].value:=by rw [← heq];exact (Qa (C:=aK st li rv) hk2).trans (au p45)
   have hE:=(Z8 (C:=aK st li rv) (e:=e) (h:=h) e1 (by rw [hr];exact p45)).trans hr;exact kP H (SC (Rm rfl (aL bQ rfl (LR results43 rfl fun H=>H.rt (by rw [hE])))))
  intro h45 a H
  try have p45:=dF h45
  refine kP H (Kc aU (SC (Rm rfl (Rd rfl (Ra rfl ?_)))));clear H aU;intro a H;refine aH ?_;refine cB ((k+1,G)) (by exact (H).sub ⟨rfl,rfl,rfl,rfl,av⟩) ?_ ?_
  ·(try dsimp only);exact ⟨by omega,by rw [Qa (C:=aK st li rv) hk2,ah (by simpa using p45)] at heq;exact heq,fun b o h=>OD b o (hgm b o h)⟩
  first|omega|(dsimp only;omega)
 intro h27 a H
 try have p27:=dF h27
 refine dJ ?_;refine K6 _ _ ?_;clear K6;refine aN (fun _ bR=>?_)
 have e2:yE (aK st li rv) h.props=0:=by rw [← heq,eU (by rw [bN];omega)];rfl
 refine kP H (SC (Rf vD rfl ?_));clear H;intro a H;refine bK xq (cs:=[vi h.marks.ins,vi h.marks.move,.slice dA h.marks.bJ.length dc,.slice lA h.marks.layers.length lc]) H wn rfl rfl (fun j v hj=>H.hp.aF (aJ hgm (SG j v hj))) rfl ?_;clear H;intro a H;refine dY xq H wn rfl ?_;clear H;intro b10 a w JE H;refine bT xq 0 (vs:=[_,_,_,_]) _ H wn rfl rfl rfl rfl rfl rfl rfl rfl ?_;clear H;intro w H;dsimp only [List.set,setRow] at H;obtain ⟨Gb,hmb,OM,H⟩:=H.eD;have hgb:∀ b o,Ga b=some o→Gb b=some o:=fun b o h=>hmb b o (hgm b o h);replace hck:=hck.mono hgb;replace hb:=hgb _ _ hb;replace hh:=hh.mono hgb
 have q0:aF Gb b10 0=some (vi h.marks.ins):=by unfold aF;rw [OM];rfl
 have q1:aF Gb b10 1=some (vi h.marks.move):=by unfold aF;rw [OM];rfl
 have q2:aF Gb b10 2=some (.slice dA h.marks.bJ.length dc):=by unfold aF;rw [OM];rfl
 have q3:aF Gb b10 3=some (.slice lA h.marks.layers.length lc):=by unfold aF;rw [OM];rfl
 refine aH ?_;refine bR _ _ ?_;clear bR;refine oG (ι:=Unit) (Tc:=[(0,_),(1,_),(10,_)]) (Lc:=[]) (fun gh=>[]) (fun gh=>[]) (fun gh=>Gb) (fun gh=>fV (aK st li rv) h.marks=0) (by exact (H).sub ⟨rfl,rfl,rfl,av⟩) ?_ ?_
 ·skip;refine kP H (SB (SR fun _ bW=>Rf uG rfl (Rg aD rfl q0 (Rc rfl (Rm rfl (Sp 53 rfl ?_ ?_)))))) <;> clear H
  ·intro dS a H
   try have p53:=dT dS
   refine kH H (YM dS rfl (YF uG dS rfl (YR aD dS rfl q0 ?_)));clear H;intro a H;refine s_call R7 H (wg H rfl rfl dS) rfl (Vk _ _ H.ro D st li rv b v n hck hmz hb h.marks.ins) rfl ?_;clear H;rintro v57 _ a w ⟨rfl,rfl⟩ - H;refine kH H (YN dS rfl (Pt dS rfl (ak bW rfl (Cd rfl ?_ ?_)))) <;> clear H bW
   ·intro nX a H
    try have p49:=dT nX
    refine aN (fun _ cK=>?_);have e3:fV (aK st li rv) h.marks=22:=au (by first|(simp_all;done)|exact ⟨p52,by simpa using nX⟩);have hE:=(rE (C:=aK st li rv) (e:=e) (h:=h) e1 e2 (by rw [e3];decide)).trans e3;exact kP H (SC (aL cK rfl (LR results43 rfl fun H=>H.rt (by rw [hE]))))
   intro nX a H
   try have p49:=dF nX
   refine aN (fun _ bY=>?_)
   have hno:¬ (h.marks.ins≠0∧h.marks.ins∉(aK st li rv).BN):=by first|(simp_all;done)|exact fun h=>p52 h.1
   refine kP H (SC (Rf zi rfl (Rg aD rfl q1 (Rc rfl (Rm rfl (Sp 64 rfl ?_ ?_)))))) <;> clear H
   ·intro h64 a H
    try have p64:=dT h64
    refine kH H (aZ h64 rfl (Pt h64 rfl (Rm rfl (aT rfl rfl (aT rfl rfl (Ku rfl (Ku rfl (Ku rfl (Ks rfl rfl (Pt rfl rfl (aL bY rfl (Ct rfl rfl (SQ fun _ dG=>?_)))))))))))));clear H bY;intro a H
    have e3:fV (aK st li rv) h.marks=21:=by unfold fV;rw [ah hno,au (by first|(simp_all;done)|(simp_all;omega)|omega)]
    have hE:=(rE (C:=aK st li rv) (e:=e) (h:=h) e1 e2 (by rw [e3];decide)).trans e3;exact kP H (SC (aL dG rfl (LR results43 rfl fun H=>H.rt (by rw [hE]))))
   intro h64 a H
   try have p64:=dF h64
   refine kH H (YF zi h64 rfl (YR aD h64 rfl q1 (YC h64 rfl (Pf h64 rfl (Rm rfl (Sp 69 rfl ?_ ?_)))))) <;> clear H
   ·intro gX a H
    try have p69:=dT gX
    refine kH H (aT gX rfl (aT gX rfl (Ku rfl (Ku rfl (Ku rfl (Ks gX rfl (Pt gX rfl (aL bY rfl (Ct rfl rfl (SQ fun _ dN=>?_))))))))));clear H bY;intro a H
    have e3:fV (aK st li rv) h.marks=21:=by unfold fV;rw [ah hno,au (by first|(simp_all;done)|(simp_all;omega)|omega)]
    have hE:=(rE (C:=aK st li rv) (e:=e) (h:=h) e1 e2 (by rw [e3];decide)).trans e3;exact kP H (SC (aL dN rfl (LR results43 rfl fun H=>H.rt (by rw [hE]))))
   intro gX a H
   try have p69:=dF gX
   refine kH H (YF zi gX rfl (YR aD gX rfl q1 (YC gX rfl (YM gX rfl (Sp 73 rfl ?_ ?_))))) <;> clear H
   ·intro jW a H
    try have p73:=dT jW
    refine kH H (YF uG jW rfl (YR aD jW rfl q0 (YC jW rfl (PT gX jW rfl (Pf gX rfl (aL bY rfl (Cd rfl ?_ ?_))))))) <;> clear H bY
    ·intro fB a H
     try have p60:=dT fB
     refine aN (fun _ dH=>?_)
     have e3:fV (aK st li rv) h.marks=21:=by unfold fV;rw [ah hno,au (by first|(simp_all;done)|(simp_all;omega)|omega)]
     have hE:=(rE (C:=aK st li rv) (e:=e) (h:=h) e1 e2 (by rw [e3];decide)).trans e3;exact kP H (SC (aL dH rfl (LR results43 rfl fun H=>H.rt (by rw [hE]))))
    intro fB a H
    try have p60:=dF fB
    refine aN (fun _ dP=>?_)
    have hn2:¬ (¬ (0≤h.marks.move∧h.marks.move≤1073741824)∨(h.marks.move≠0∧h.marks.ins=0)):=by first|(simp_all;done)|(simp_all;omega)|omega
    refine kP H (SC (Rf mJ rfl (Rg mR rfl q2 (Rl lW rfl (Rc rfl (aL dP rfl (Cd rfl ?_ ?_))))))) <;> clear H dP
    ·intro iZ a H
     refine aN (fun _ eT=>?_)
     have e3:fV (aK st li rv) h.marks=9:=by unfold fV;rw [ah hno,ah hn2,au (by simpa using iZ)]
     have hE:=(rE (C:=aK st li rv) (e:=e) (h:=h) e1 e2 (by rw [e3];decide)).trans e3;exact kP H (SC (aL eT rfl (LR results43 rfl fun H=>H.rt (by rw [hE]))))
    intro iZ a H
    have e3:fV (aK st li rv) h.marks=0:=by unfold fV;rw [ah hno,ah hn2,ah (by simpa using iZ)]
    refine fT ?_;refine ⟨(),by exact (H).sub ⟨rfl,rfl,rfl,av⟩,?_⟩;exact e3
   intro jW a H
   try have p73:=dF jW
   refine kH H (aZ jW rfl (PF gX jW rfl (Pf gX rfl (aL bY rfl (Cf rfl rfl (SQ fun _ fP=>?_))))));clear H bY;intro a H
   have hn2:¬ (¬ (0≤h.marks.move∧h.marks.move≤1073741824)∨(h.marks.move≠0∧h.marks.ins=0)):=by first|(simp_all;done)|(simp_all;omega)|omega
   refine kP H (SC (Rf mJ rfl (Rg mR rfl q2 (Rl lW rfl (Rc rfl (aL fP rfl (Cd rfl ?_ ?_))))))) <;> clear H fP
   ·intro iZ a H
    refine aN (fun _ gq=>?_)
    have e3:fV (aK st li rv) h.marks=9:=by unfold fV;rw [ah hno,ah hn2,au (by simpa using iZ)]
    have hE:=(rE (C:=aK st li rv) (e:=e) (h:=h) e1 e2 (by rw [e3];decide)).trans e3;exact kP H (SC (aL gq rfl (LR results43 rfl fun H=>H.rt (by rw [hE]))))
   intro iZ a H
   have e3:fV (aK st li rv) h.marks=0:=by unfold fV;rw [ah hno,ah hn2,ah (by simpa using iZ)]
   refine fT ?_;refine ⟨(),by exact (H).sub ⟨rfl,rfl,rfl,av⟩,?_⟩;exact e3
  intro dS a H
  try have p53:=dF dS
  refine kH H (aZ dS rfl (aT dS rfl (Pf dS rfl (ak bW rfl (Cf rfl rfl (SQ fun _ gG=>?_))))));clear H bW;intro a H
  have hno:¬ (h.marks.ins≠0∧h.marks.ins∉(aK st li rv).BN):=by first|(simp_all;done)|exact fun h=>p52 h.1
  refine kP H (SC (Rf zi rfl (Rg aD rfl q1 (Rc rfl (Rm rfl (Sp 64 rfl ?_ ?_)))))) <;> clear H
  ·intro h64 a H
   try have p64:=dT h64
   refine kH H (aZ h64 rfl (Pt h64 rfl (Rm rfl (aT rfl rfl (aT rfl rfl (Ku rfl (Ku rfl (Ku rfl (Ks rfl rfl (Pt rfl rfl (aL gG rfl (Ct rfl rfl (SQ fun _ iP=>?_)))))))))))));clear H gG;intro a H
   have e3:fV (aK st li rv) h.marks=21:=by unfold fV;rw [ah hno,au (by first|(simp_all;done)|(simp_all;omega)|omega)]
   have hE:=(rE (C:=aK st li rv) (e:=e) (h:=h) e1 e2 (by rw [e3];decide)).trans e3;exact kP H (SC (aL iP rfl (LR results43 rfl fun H=>H.rt (by rw [hE]))))
  intro h64 a H
  try have p64:=dF h64
  refine kH H (YF zi h64 rfl (YR aD h64 rfl q1 (YC h64 rfl (Pf h64 rfl (Rm rfl (Sp 69 rfl ?_ ?_)))))) <;> clear H
  ·intro gX a H
   try have p69:=dT gX
   refine kH H (aT gX rfl (aT gX rfl (Ku rfl (Ku rfl (Ku rfl (Ks gX rfl (Pt gX rfl (aL gG rfl (Ct rfl rfl (SQ fun _ jm=>?_))))))))));clear H gG;intro a H
   have e3:fV (aK st li rv) h.marks=21:=by unfold fV;rw [ah hno,au (by first|(simp_all;done)|(simp_all;omega)|omega)]
   have hE:=(rE (C:=aK st li rv) (e:=e) (h:=h) e1 e2 (by rw [e3];decide)).trans e3;exact kP H (SC (aL jm rfl (LR results43 rfl fun H=>H.rt (by rw [hE]))))
  intro gX a H
  try have p69:=dF gX
  refine kH H (YF zi gX rfl (YR aD gX rfl q1 (YC gX rfl (YM gX rfl (Sp 73 rfl ?_ ?_))))) <;> clear H
  ·intro jW a H
   try have p73:=dT jW
   refine kH H (YF uG jW rfl (YR aD jW rfl q0 (YC jW rfl (PT gX jW rfl (Pf gX rfl (aL gG rfl (Cd rfl ?_ ?_))))))) <;> clear H gG
   ·intro fB a H
    try have p60:=dT fB
    refine aN (fun _ iH=>?_)
    have e3:fV (aK st li rv) h.marks=21:=by unfold fV;rw [ah hno,au (by first|(simp_all;done)|(simp_all;omega)|omega)]
    have hE:=(rE (C:=aK st li rv) (e:=e) (h:=h) e1 e2 (by rw [e3];decide)).trans e3;exact kP H (SC (aL iH rfl (LR results43 rfl fun H=>H.rt (by rw [hE]))))
   intro fB a H
   try have p60:=dF fB
   refine aN (fun _ kW=>?_)
   have hn2:¬ (¬ (0≤h.marks.move∧h.marks.move≤1073741824)∨(h.marks.move≠0∧h.marks.ins=0)):=by first|(simp_all;done)|(simp_all;omega)|omega
   refine kP H (SC (Rf mJ rfl (Rg mR rfl q2 (Rl lW rfl (Rc rfl (aL kW rfl (Cd rfl ?_ ?_))))))) <;> clear H kW
   ·intro iZ a H
    refine aN (fun _ kX=>?_)
    have e3:fV (aK st li rv) h.marks=9:=by unfold fV;rw [ah hno,ah hn2,au (by simpa using iZ)]
    have hE:=(rE (C:=aK st li rv) (e:=e) (h:=h) e1 e2 (by rw [e3];decide)).trans e3;exact kP H (SC (aL kX rfl (LR results43 rfl fun H=>H.rt (by rw [hE]))))
   intro iZ a H
   have e3:fV (aK st li rv) h.marks=0:=by unfold fV;rw [ah hno,ah hn2,ah (by simpa using iZ)]
   refine fT ?_;refine ⟨(),by exact (H).sub ⟨rfl,rfl,rfl,av⟩,?_⟩;exact e3
  intro jW a H
  try have p73:=dF jW
  refine kH H (aZ jW rfl (PF gX jW rfl (Pf gX rfl (aL gG rfl (Cf rfl rfl (SQ fun _ jQ=>?_))))));clear H gG;intro a H
  have hn2:¬ (¬ (0≤h.marks.move∧h.marks.move≤1073741824)∨(h.marks.move≠0∧h.marks.ins=0)):=by first|(simp_all;done)|(simp_all;omega)|omega
  refine kP H (SC (Rf mJ rfl (Rg mR rfl q2 (Rl lW rfl (Rc rfl (aL jQ rfl (Cd rfl ?_ ?_))))))) <;> clear H jQ
  ·intro iZ a H
   refine aN (fun _ lC=>?_)
   have e3:fV (aK st li rv) h.marks=9:=by unfold fV;rw [ah hno,ah hn2,au (by simpa using iZ)]
   have hE:=(rE (C:=aK st li rv) (e:=e) (h:=h) e1 e2 (by rw [e3];decide)).trans e3;exact kP H (SC (aL lC rfl (LR results43 rfl fun H=>H.rt (by rw [hE]))))
  intro iZ a H
  have e3:fV (aK st li rv) h.marks=0:=by unfold fV;rw [ah hno,ah hn2,ah (by simpa using iZ)]
  refine fT ?_;refine ⟨(),by exact (H).sub ⟨rfl,rfl,rfl,av⟩,?_⟩;exact e3
 clear H;intro un a w hI H;have e3:=hI;dsimp only [lca,aO] at H;refine kP H (SQ fun _ lD=>SR fun _ lX=>ak lX rfl (SB ?_));clear H lX;intro a H;skip;refine dV (ι:=Nat × GH) (Tc:=[(0,_),(1,_),(10,_)]) (Lc:=[]) (fun gh=>[(11,vi gh.1)]) (fun gh=>[]) (fun gh=>gh.2) (fun gh=>gh.1≤h.marks.bJ.length∧bO (((List.range h.marks.bJ.length).map (rX (aK st li rv) h.marks.bJ)).drop gh.1)=iw (rX (aK st li rv) h.marks.bJ) h.marks.bJ.length∧(∀ b o,Gb b=some o→gh.2 b=some o)) (fun gh=>h.marks.bJ.length - gh.1) ((0,Gb)) (by exact (H).sub ⟨rfl,rfl,rfl,rfl,av⟩) ?_ ?_
 ·exact ⟨fQ _,rfl,fun _ _ h=>h⟩
 clear H;rintro ⟨k,g2⟩ a w hI H;dsimp only at hI H;obtain ⟨hk,heq,hgm⟩:=hI;have q2':=aJ hgm q2;dsimp only [lca,aO] at H;refine kP H (SQ fun _ lY=>SR fun _ lZ=>Rm rfl (Rf mJ rfl (Rg mR rfl q2' (Rl lW rfl (Rc rfl (Kz lZ (Cd rfl ?_ ?_))))))) <;> clear H lZ
 ·intro vH a H
  try have MX:=dT vH
  have hk2:k < h.marks.bJ.length:=by omega
  have hd2:=hh.bJ.mono hgm;obtain ⟨xb,xo,rfl,hrow⟩:=Jk hd2 hk2
  have hk1:k - 1 < h.marks.bJ.length:=by omega
  obtain ⟨b',o',he',hrow'⟩:=Jk hd2 hk1
  injection he' with he'
  injection he' with LG e2'
  subst LG;subst e2'
  have hde:rX (aK st li rv) h.marks.bJ k=oH (aK st li rv) k h.marks.bJ[k] h.marks.bJ[k - 1].rev:=by unfold rX;rw [fH hk2,fH hk1];rfl
  have hX:∀ v,oH (aK st li rv) k h.marks.bJ[k] h.marks.bJ[k - 1].rev=v→v≠0→fI (aK st li rv) e h=v:=fun v h1 h2=>by
   have h4:iw (rX (aK st li rv) h.marks.bJ) h.marks.bJ.length=v:=by rw [← heq,qE hk2,hde,h1,au h2]
   exact (Z9 e1 e2 e3 (by rw [h4];exact h2)).trans h4
  have hp:=hrow' 0 _ rfl;have r0:=hrow 0 _ rfl;have r1:=hrow 1 _ rfl;refine fT ?_;refine lY _ _ ?_;clear lY;refine aN (fun _ mV=>?_);(iterate 2 refine uy ?_);refine kP H (SR fun _ qX=>Rm rfl (Rf mJ rfl (Rg mR rfl q2' (Rm rfl (Ri lW rR rfl rfl (Rf Ad rfl (Rg aD rfl r0 ?_)))))));clear H;intro a H;refine s_call R7 H wn rfl (Vk _ _ H.ro D st li rv b v n (hck.mono hgm) hmz (hgm _ _ hb) h.marks.bJ[k].rev) rfl ?_;clear H;rintro v99 _ a w ⟨rfl,rfl⟩ - H;refine kH H (Rn rfl (ak qX rfl (Cd rfl ?_ ?_))) <;> clear H qX
  ·intro Af a H
   refine aN (fun _ vX=>?_);have hE:=hX 22 (by unfold oH;rw [au (by simpa using Af)]) (by decide);exact kP H (SC (aL vX rfl (LR results43 rfl fun H=>H.rt (by rw [hE]))))
  intro Af a H
  try have zI:=dF Af
  have H9:¬ (h.marks.bJ[k].rev∉(aK st li rv).BN):=by simpa using Af
  refine aN (fun _ kY=>?_)
  by_cases c3:0 < (k:Int)
  ·skip
   by_cases c4:h.marks.bJ[k].rev≤h.marks.bJ[k - 1].rev
   ·skip;refine dI hmx [[],[0],[0,1],[0,1,2],(ra 0 4),[0,1,2],(ra 0 6),(ra 0 7),(ra 0 8),[0,1,2],[0,1,2,9],[0,1,2],[0,1,2,11],([0,1,2]++ra 9 4),([0,1,2]++ra 9 5),([0,1,2]++ra 9 6),(ra 0 16),(ra 0 17),(ra 0 18)] [18] (by kernel_rfl) [_,_,_,_,_,_,_,_,_,_,_,_,vi ((k - 1:Nat):Int),_,_,_,_,_] H (aI (Z0 rfl (Rm rfl)) (Z1 0 102 rfl (Rc rfl)) (Z1 1 103 rfl (Rm rfl)) (Z1 2 104 rfl (YF mJ (aG c3) rfl)) (aI (X2 3 105 2 104 rfl fun hG=>YR mR (aG c3) rfl (aJ hG q2')) (Z1 2 104 rfl (YM (aG c3) rfl)) (Z3 4 106 5 107 2 104 rfl (YI lW rR (aG c3) rfl rfl)) (Z2 6 108 2 104 rfl (YF Ad (aG c3) rfl)) (aI (X2 7 109 2 104 rfl fun hG=>YR aD (aG c3) rfl (aJ hG r0)) (Z1 2 104 rfl (YF mJ (aG c3) rfl)) (X2 9 111 2 104 rfl fun hG=>YR mR (aG c3) rfl (aJ hG q2')) (Z1 2 104 rfl (YM (aG c3) rfl)) (aI ?_ (Z3 10 112 12 114 2 104 rfl (YI lW rR (aG c3) rfl rfl)) (Z2 13 115 2 104 rfl (YF Ad (aG c3) rfl)) (X2 14 116 2 104 rfl fun hG=>YR aD (aG c3) rfl (aJ hG hp)) (bG (Z3 8 110 15 117 2 104 rfl (YC (aG c3) rfl)) (bG (Z2 2 104 16 118 rfl (Pt (aG c3) rfl)) (bG (cZ rfl) dQ))))))) ?_
    ·refine fu 11 113 2 104 rfl rfl fun _ a w G1 hG HT H fin=>?_;refine mQ _ H (wg H rfl rfl (aG c3)) rfl rfl rfl (by omega) (by omega) rfl ?_;clear H;intro a H;exact fin H iJ (by show _=_;first|rfl|exact ay vi (by omega))
    clear H;intro a w G vJ H hv;have H:=H.bC (hv 17 119 rfl rfl) rfl;clear hv;refine kH H (Ra rfl ?_);clear H;intro a H;refine aH ⟨rfl,?_⟩;refine kY _ _ ?_;clear kY;refine AX H rfl (aG c4) ?_;refine aN (fun _ yQ=>?_);have hz:0 < k∧h.marks.bJ[k].rev≤h.marks.bJ[k - 1].rev:=⟨by omega,c4⟩;have hE:=hX 6 (by unfold oH;rw [ah H9,au hz]) (by decide);exact kP H (SC (aL yQ rfl (LR results43 rfl fun H=>H.rt (by rw [hE]))))
   skip;refine dI hmx [[],[0],[0,1],[0,1,2],(ra 0 4),[0,1,2],(ra 0 6),(ra 0 7),(ra 0 8),[0,1,2],[0,1,2,9],[0,1,2],[0,1,2,11],([0,1,2]++ra 9 4),([0,1,2]++ra 9 5),([0,1,2]++ra 9 6),(ra 0 16),(ra 0 17),(ra 0 18)] [18] (by kernel_rfl) [_,_,_,_,_,_,_,_,_,_,_,_,vi ((k - 1:Nat):Int),_,_,_,_,_] H (aI (Z0 rfl (Rm rfl)) (Z1 0 102 rfl (Rc rfl)) (Z1 1 103 rfl (Rm rfl)) (Z1 2 104 rfl (YF mJ (aG c3) rfl)) (aI (X2 3 105 2 104 rfl fun hG=>YR mR (aG c3) rfl (aJ hG q2')) (Z1 2 104 rfl (YM (aG c3) rfl)) (Z3 4 106 5 107 2 104 rfl (YI lW rR (aG c3) rfl rfl)) (Z2 6 108 2 104 rfl (YF Ad (aG c3) rfl)) (aI (X2 7 109 2 104 rfl fun hG=>YR aD (aG c3) rfl (aJ hG r0)) (Z1 2 104 rfl (YF mJ (aG c3) rfl)) (X2 9 111 2 104 rfl fun hG=>YR mR (aG c3) rfl (aJ hG q2')) (Z1 2 104 rfl (YM (aG c3) rfl)) (aI ?_ (Z3 10 112 12 114 2 104 rfl (YI lW rR (aG c3) rfl rfl)) (Z2 13 115 2 104 rfl (YF Ad (aG c3) rfl)) (X2 14 116 2 104 rfl fun hG=>YR aD (aG c3) rfl (aJ hG hp)) (bG (Z3 8 110 15 117 2 104 rfl (YC (aG c3) rfl)) (bG (Z2 2 104 16 118 rfl (Pt (aG c3) rfl)) (bG (cZ rfl) dQ))))))) ?_
   ·refine fu 11 113 2 104 rfl rfl fun _ a w G1 hG HT H fin=>?_;refine mQ _ H (wg H rfl rfl (aG c3)) rfl rfl rfl (by omega) (by omega) rfl ?_;clear H;intro a H;exact fin H iJ (by show _=_;first|rfl|exact ay vi (by omega))
   clear H;intro a w G vJ H hv;have H:=H.bC (hv 17 119 rfl rfl) rfl;clear hv;refine kH H (Ra rfl ?_);clear H;intro a H;refine aH ⟨rfl,?_⟩;refine kY _ _ ?_;clear kY;refine oF H rfl (aQ c4) ?_;refine aN (fun _ vY=>?_)
   have hz:¬ (0 < k∧h.marks.bJ[k].rev≤h.marks.bJ[k - 1].rev):=by first|exact fun h=>c4 h.2|exact fun h=>c3 (by omega)
   replace q2':=aJ vJ q2';replace r1:=aJ vJ r1;refine kP H (SC (Rf mJ rfl (Rg mR rfl q2' (Rm rfl (Ri lW rR rfl rfl (Rf Jp rfl (Rg aD rfl r1 (Rc rfl (Rm rfl (Sp 128 rfl ?_ ?_)))))))))) <;> clear H
   ·intro h128 a H
    try have El:=dT h128
    refine kH H (aZ h128 rfl (aT h128 rfl (aT h128 rfl (Pt h128 rfl (aL vY rfl (Ct rfl rfl (SQ fun _ EG=>?_)))))));clear H vY;intro a H;have hE:=hX 21 (by unfold oH;rw [ah H9,ah hz,au (by first|omega|(simp_all;omega))]) (by decide);exact kP H (SC (aL EG rfl (LR results43 rfl fun H=>H.rt (by rw [hE]))))
   intro h128 a H
   try have El:=dF h128
   refine kH H (YF mJ h128 rfl (YR mR h128 rfl q2' (YM h128 rfl (YI lW rR h128 rfl rfl (YF Jp h128 rfl (YR aD h128 rfl r1 (YC h128 rfl (Pf h128 rfl (aL vY rfl (Cd rfl ?_ ?_)))))))))) <;> clear H vY
   ·intro ny a H
    try have FJ:=dT ny
    refine aN (fun _ BX=>?_);have hE:=hX 21 (by unfold oH;rw [ah H9,ah hz,au (by first|omega|(simp_all;omega))]) (by decide);exact kP H (SC (aL BX rfl (LR results43 rfl fun H=>H.rt (by rw [hE]))))
   intro ny a H
   try have FJ:=dF ny
   have HZ:oH (aK st li rv) k h.marks.bJ[k] h.marks.bJ[k - 1].rev=0:=by unfold oH;rw [ah H9,ah hz,ah (by first|omega|(simp_all;omega))]
   refine kP H (Kc mV (SC (Rm rfl (Rd rfl (Ra rfl ?_)))));clear H mV;intro a H;refine aH ?_;refine cB ((k+1,G)) (by exact (H).sub ⟨rfl,rfl,rfl,rfl,av⟩) ?_ ?_
   ·(try dsimp only);exact ⟨by omega,by rw [qE hk2,ah (by rw [hde];simpa using HZ)] at heq;exact heq,fun b o h=>vJ b o (hgm b o h)⟩
   first|omega|(dsimp only;omega)
  skip;refine dI hmx [[],[0],[0,1],[0,1,2],(ra 0 4),[0,1,2],(ra 0 6),(ra 0 7),(ra 0 8),[0,1,2],[0,1,2,9],[0,1,2],[0,1,2,11],([0,1,2]++ra 9 4),([0,1,2]++ra 9 5),([0,1,2]++ra 9 6),(ra 0 16),(ra 0 17),(ra 0 18)] [18] (by kernel_rfl) [_,_,_,undef,undef,undef,undef,undef,undef,undef,undef,undef,undef,undef,undef,undef,undef,_] H (aI (Z0 rfl (Rm rfl)) (Z1 0 102 rfl (Rc rfl)) (Z1 1 103 rfl (Rm rfl)) (aV (j:=2) (by kernel_rfl) (fun _ _ _ _ _ h=>h) rfl rfl rfl rfl rfl (fun _ _ h=>aW h (aM (aQ c3))) rfl (fun _=>rfl)) (aI (aV (j:=2) (by kernel_rfl) (fun _ _ _ _ _ h=>h) rfl rfl rfl rfl rfl (fun _ _ h=>aW h (aM (aQ c3))) rfl (fun _=>rfl)) (aV (j:=2) (by kernel_rfl) (fun _ _ _ _ _ h=>h) rfl rfl rfl rfl rfl (fun _ _ h=>aW h (aM (aQ c3))) rfl (fun _=>rfl)) (aV (j:=2) (by kernel_rfl) (fun _ _ _ _ _ h=>h) rfl rfl rfl rfl rfl (fun _ _ h=>aW h (aM (aQ c3))) rfl (fun _=>rfl)) (aV (j:=2) (by kernel_rfl) (fun _ _ _ _ _ h=>h) rfl rfl rfl rfl rfl (fun _ _ h=>aW h (aM (aQ c3))) rfl (fun _=>rfl)) (aI (aV (j:=2) (by kernel_rfl) (fun _ _ _ _ _ h=>h) rfl rfl rfl rfl rfl (fun _ _ h=>aW h (aM (aQ c3))) rfl (fun _=>rfl)) (aV (j:=2) (by kernel_rfl) (fun _ _ _ _ _ h=>h) rfl rfl rfl rfl rfl (fun _ _ h=>aW h (aM (aQ c3))) rfl (fun _=>rfl)) (aV (j:=2) (by kernel_rfl) (fun _ _ _ _ _ h=>h) rfl rfl rfl rfl rfl (fun _ _ h=>aW h (aM (aQ c3))) rfl (fun _=>rfl)) (aV (j:=2) (by kernel_rfl) (fun _ _ _ _ _ h=>h) rfl rfl rfl rfl rfl (fun _ _ h=>aW h (aM (aQ c3))) rfl (fun _=>rfl)) (aI (aV (j:=2) (by kernel_rfl) (fun _ _ _ _ _ h=>h) rfl rfl rfl rfl rfl (fun _ _ h=>aW h (aM (aQ c3))) rfl (fun _=>rfl)) (aV (j:=2) (by kernel_rfl) (fun _ _ _ _ _ h=>h) rfl rfl rfl rfl rfl (fun _ _ h=>aW h (aM (aQ c3))) rfl (fun _=>rfl)) (aV (j:=2) (by kernel_rfl) (fun _ _ _ _ _ h=>h) rfl rfl rfl rfl rfl (fun _ _ h=>aW h (aM (aQ c3))) rfl (fun _=>rfl)) (aV (j:=2) (by kernel_rfl) (fun _ _ _ _ _ h=>h) rfl rfl rfl rfl rfl (fun _ _ h=>aW h (aM (aQ c3))) rfl (fun _=>rfl)) (bG (aV (j:=2) (by kernel_rfl) (fun _ _ _ _ _ h=>h) rfl rfl rfl rfl rfl (fun _ _ h=>aW h (aM (aQ c3))) rfl (fun _=>rfl)) (bG (Z2 2 104 16 118 rfl (Pf (aQ c3) rfl)) (bG (cZ rfl) dQ))))))) ?_
  clear H;intro a w G vJ H hv;have H:=H.bC (hv 17 119 rfl rfl) rfl;clear hv;refine kH H (Ra rfl ?_);clear H;intro a H;refine aH ⟨rfl,?_⟩;refine kY _ _ ?_;clear kY;refine oF H rfl rfl ?_;refine aN (fun _ AQ=>?_)
  have hz:¬ (0 < k∧h.marks.bJ[k].rev≤h.marks.bJ[k - 1].rev):=by first|exact fun h=>c4 h.2|exact fun h=>c3 (by omega)
  replace q2':=aJ vJ q2';replace r1:=aJ vJ r1;refine kP H (SC (Rf mJ rfl (Rg mR rfl q2' (Rm rfl (Ri lW rR rfl rfl (Rf Jp rfl (Rg aD rfl r1 (Rc rfl (Rm rfl (Sp 128 rfl ?_ ?_)))))))))) <;> clear H
  ·intro h128 a H
   try have El:=dT h128
   refine kH H (aZ h128 rfl (aT h128 rfl (aT h128 rfl (Pt h128 rfl (aL AQ rfl (Ct rfl rfl (SQ fun _ zW=>?_)))))));clear H AQ;intro a H;have hE:=hX 21 (by unfold oH;rw [ah H9,ah hz,au (by first|omega|(simp_all;omega))]) (by decide);exact kP H (SC (aL zW rfl (LR results43 rfl fun H=>H.rt (by rw [hE]))))
  intro h128 a H
  try have El:=dF h128
  refine kH H (YF mJ h128 rfl (YR mR h128 rfl q2' (YM h128 rfl (YI lW rR h128 rfl rfl (YF Jp h128 rfl (YR aD h128 rfl r1 (YC h128 rfl (Pf h128 rfl (aL AQ rfl (Cd rfl ?_ ?_)))))))))) <;> clear H AQ
  ·intro ny a H
   try have FJ:=dT ny
   refine aN (fun _ Di=>?_);have hE:=hX 21 (by unfold oH;rw [ah H9,ah hz,au (by first|omega|(simp_all;omega))]) (by decide);exact kP H (SC (aL Di rfl (LR results43 rfl fun H=>H.rt (by rw [hE]))))
  intro ny a H
  try have FJ:=dF ny
  have HZ:oH (aK st li rv) k h.marks.bJ[k] h.marks.bJ[k - 1].rev=0:=by unfold oH;rw [ah H9,ah hz,ah (by first|omega|(simp_all;omega))]
  refine kP H (Kc mV (SC (Rm rfl (Rd rfl (Ra rfl ?_)))));clear H mV;intro a H;refine aH ?_;refine cB ((k+1,G)) (by exact (H).sub ⟨rfl,rfl,rfl,rfl,av⟩) ?_ ?_
  ·(try dsimp only);exact ⟨by omega,by rw [qE hk2,ah (by rw [hde];simpa using HZ)] at heq;exact heq,fun b o h=>vJ b o (hgm b o h)⟩
  first|omega|(dsimp only;omega)
 intro vH a H
 try have MX:=dF vH
 refine dJ ?_;refine lD _ _ ?_;clear lD;refine aN (fun _ Dj=>?_);refine aN (fun _ BZ=>?_)
 have e4:iw (rX (aK st li rv) h.marks.bJ) h.marks.bJ.length=0:=by rw [← heq,eU (by simp;omega)];rfl
 replace hck:=hck.mono hgm;replace hb:=hgm _ _ hb;replace hh:=hh.mono hgm;replace q3:=aJ hgm q3;refine kP H (SC (Rf wF rfl (Rg xk rfl q3 (Rl tX rfl (Rc rfl (Kn BZ (Cd rfl ?_ ?_))))))) <;> clear H BZ
 ·intro SY a H
  try have Vx:=dT SY
  refine aN (fun _ F6=>?_);have hE:=aac (C:=aK st li rv) (e:=e) (h:=h) e1 e2 e3 e4 Vx;exact kP H (SC (aL F6 rfl (LR results43 rfl fun H=>H.rt (by rw [hE]))))
 intro SY a H
 try have Vx:=dF SY
 refine kP H (Kc Dj (SQ fun _ F7=>SQ fun _ uZ=>?_));clear H Dj;intro a H;have hE:=aad (C:=aK st li rv) (e:=e) (h:=h) e1 e2 e3 e4 Vx;refine kP H (SC (aL uZ rfl (SB ?_)));clear H uZ;intro a H;skip;refine dV (ι:=Nat × GH) (Tc:=[(0,_),(1,_),(10,_)]) (Lc:=[]) (fun gh=>[(12,vi gh.1)]) (fun gh=>[]) (fun gh=>gh.2) (fun gh=>gh.1≤h.marks.layers.length∧bO (((List.range h.marks.layers.length).map (zC (aK st li rv) e h.marks.layers)).drop gh.1)=iw (zC (aK st li rv) e h.marks.layers) h.marks.layers.length∧(∀ b o,g2 b=some o→gh.2 b=some o)) (fun gh=>h.marks.layers.length - gh.1) ((0,g2)) (by exact (H).sub ⟨rfl,rfl,rfl,rfl,av⟩) ?_ ?_
 ·exact ⟨fQ _,rfl,fun _ _ h=>h⟩
 clear H;rintro ⟨k,g3⟩ a w hI H;dsimp only at hI H;obtain ⟨hk,tK,rG⟩:=hI;have q3':=aJ rG q3;dsimp only [lca,aO] at H;refine kP H (SQ fun _ EH=>SR fun _ F8=>Rm rfl (Rf wF rfl (Rg xk rfl q3' (Rl tX rfl (Rc rfl (Kz F8 (Cd rfl ?_ ?_))))))) <;> clear H F8
 ·intro Ta a H
  try have anC:=dT Ta
  have hk2:k < h.marks.layers.length:=by omega
  have hl2:=hh.layers.mono rG;obtain ⟨xb,xo,rfl,hrow⟩:=J3 hl2 hk2
  have hk1:k - 1 < h.marks.layers.length:=by omega
  obtain ⟨b',o',he',hrow'⟩:=J3 hl2 hk1
  injection he' with he'
  injection he' with LG e2'
  subst LG;subst e2'
  have D7:zC (aK st li rv) e h.marks.layers k=lK (aK st li rv) e k h.marks.layers[k] h.marks.layers[k - 1].key:=by unfold zC;rw [fH hk2,fH hk1];rfl
  have hX:∀ v,lK (aK st li rv) e k h.marks.layers[k] h.marks.layers[k - 1].key=v→v≠0→fI (aK st li rv) e h=v:=fun v h1 h2=>by rw [hE,← tK,qE hk2,D7,h1,au h2]
  have hp:=hrow' 1 _ rfl;refine kP H (Kc EH (SQ fun _ pW=>SB (SR fun _ EI=>Rf wF rfl (Rg xk rfl q3' (Rm rfl (Ri tX uU rfl rfl ?_))))));clear H EH;intro a H;refine bK uU (cs:=h.marks.layers[k].cells) H wn rfl rfl (fun j v hj=>H.hp.aF (hrow j v hj)) rfl ?_;clear H;intro a H;refine dY uU H wn rfl ?_;clear H;intro b13 a w OO H;refine bT uU 0 (vs:=[_,_,_,_]) _ H wn rfl rfl rfl rfl rfl rfl rfl rfl ?_;clear H;intro w H;dsimp only [List.set,setRow] at H;obtain ⟨Gc,hmc,JG,H⟩:=H.eD;have hgc:∀ b o,g2 b=some o→Gc b=some o:=fun b o h=>hmc b o (rG b o h);replace hp:=aJ hmc hp;replace q3':=aJ hmc q3'
  have y0:aF Gc b13 0=some (vi h.marks.layers[k].rev):=by unfold aF;rw [JG];rfl
  have y1:aF Gc b13 1=some (vi h.marks.layers[k].key):=by unfold aF;rw [JG];rfl
  have y2:aF Gc b13 2=some (vi h.marks.layers[k].before):=by unfold aF;rw [JG];rfl
  have y3:aF Gc b13 3=some (.bool h.marks.layers[k].had):=by unfold aF;rw [JG];rfl
  refine EI _ _ ?_;clear EI;refine kP H (SQ fun _ xK=>SB (SR fun _ EJ=>Rm rfl (Rf Oj rfl (Rg aD rfl y0 ?_))));clear H;intro a H;refine s_call R7 H wn rfl (Vk _ _ H.ro D st li rv b v n (hck.mono hgc) hmz (hgc _ _ hb) h.marks.layers[k].rev) rfl ?_;clear H;rintro v157 _ a w ⟨rfl,rfl⟩ - H;refine kH H (Rn rfl (ak EJ rfl (Cd rfl ?_ ?_))) <;> clear H EJ
  ·intro OA a H
   refine aN (fun _ F9=>?_);have hE:=hX 22 (by unfold lK;rw [au (by simpa using OA)]) (by decide);exact kP H (SC (aL F9 rfl (LR results43 rfl fun H=>H.rt (by rw [hE]))))
  intro OA a H
  try have asc:=dF OA
  have Aj:¬ (h.marks.layers[k].rev∉(aK st li rv).BN):=by simpa using OA
  refine kP H (SR fun _ EK=>Rm rfl (Rf qg rfl (Rg aD rfl y1 ?_)));clear H;intro a H;refine s_call R8 H wn rfl (EX (Sv _ _ H.ro e h.marks.layers[k].key)) rfl ?_;clear H;rintro asP _ a w ⟨⟨_,rfl⟩,rfl⟩ - H;refine kH H (Rn rfl (ak EK rfl (Cd rfl ?_ ?_))) <;> clear H EK
  ·intro OB a H
   refine aN (fun _ Gd=>?_);have hE:=hX 4 (by unfold lK;rw [ah Aj,au (by simpa using OB)]) (by decide);exact kP H (SC (aL Gd rfl (LR results43 rfl fun H=>H.rt (by rw [hE]))))
  intro OB a H
  try have asf:=dF OB
  have BD:¬ (Bj e h.marks.layers[k].key=false):=by simpa using OB
  refine aN (fun _ AU=>?_)
  by_cases c3:0 < (k:Int)
  ·skip
   by_cases c4:h.marks.layers[k].key < h.marks.layers[k - 1].key
   ·skip;refine dI hmx [[],[0],[0,1],[0,1,2],(ra 0 4),[0,1,2],[0,1,2,5],[0,1,2],[0,1,2,7],[0,1,2,5,6,7,8],[0,1,2,5,6,7,8,9],([0,1,2]++ra 5 6),(ra 0 12),(ra 0 13),(ra 0 14)] [14] (by kernel_rfl) [_,_,_,_,_,_,_,_,vi ((k - 1:Nat):Int),_,_,_,_,_] H (aI (Z0 rfl (Rm rfl)) (Z1 0 166 rfl (Rc rfl)) (Z1 1 167 rfl (Rm rfl)) (Z1 2 168 rfl (YF qg (aG c3) rfl)) (aI (X2 3 169 2 168 rfl fun hG=>YR aD (aG c3) rfl (aJ hG y1)) (Z1 2 168 rfl (YF wF (aG c3) rfl)) (X2 5 171 2 168 rfl fun hG=>YR xk (aG c3) rfl (aJ hG q3')) (Z1 2 168 rfl (YM (aG c3) rfl)) (aI ?_ (Z3 6 172 8 174 2 168 rfl (YI tX uU (aG c3) rfl rfl)) (Z2 9 175 2 168 rfl (YF qg (aG c3) rfl)) (X2 10 176 2 168 rfl fun hG=>YR aD (aG c3) rfl (aJ hG hp)) (bG (Z3 4 170 11 177 2 168 rfl (YC (aG c3) rfl)) (bG (Z2 2 168 12 178 rfl (Pt (aG c3) rfl)) (bG (cZ rfl) dQ)))))) ?_
    ·refine fu 7 173 2 168 rfl rfl fun _ a w G1 hG HT H fin=>?_;refine mQ _ H (wg H rfl rfl (aG c3)) rfl rfl rfl (by omega) (by omega) rfl ?_;clear H;intro a H;exact fin H iJ (by show _=_;first|rfl|exact ay vi (by omega))
    clear H;intro a w G Ag H hv;have H:=H.bC (hv 13 179 rfl rfl) rfl;clear hv;refine kH H (Ra rfl ?_);clear H;intro a H;refine aH ⟨rfl,?_⟩;refine AU _ _ ?_;clear AU;refine AX H rfl (aG c4) ?_;refine aN (fun _ uf=>?_);have hz:0 < k∧h.marks.layers[k].key < h.marks.layers[k - 1].key:=⟨by omega,c4⟩;have hE:=hX 6 (by unfold lK;rw [ah Aj,ah BD,au hz]) (by decide);exact kP H (SC (aL uf rfl (LR results43 rfl fun H=>H.rt (by rw [hE]))))
   skip;refine dI hmx [[],[0],[0,1],[0,1,2],(ra 0 4),[0,1,2],[0,1,2,5],[0,1,2],[0,1,2,7],[0,1,2,5,6,7,8],[0,1,2,5,6,7,8,9],([0,1,2]++ra 5 6),(ra 0 12),(ra 0 13),(ra 0 14)] [14] (by kernel_rfl) [_,_,_,_,_,_,_,_,vi ((k - 1:Nat):Int),_,_,_,_,_] H (aI (Z0 rfl (Rm rfl)) (Z1 0 166 rfl (Rc rfl)) (Z1 1 167 rfl (Rm rfl)) (Z1 2 168 rfl (YF qg (aG c3) rfl)) (aI (X2 3 169 2 168 rfl fun hG=>YR aD (aG c3) rfl (aJ hG y1)) (Z1 2 168 rfl (YF wF (aG c3) rfl)) (X2 5 171 2 168 rfl fun hG=>YR xk (aG c3) rfl (aJ hG q3')) (Z1 2 168 rfl (YM (aG c3) rfl)) (aI ?_ (Z3 6 172 8 174 2 168 rfl (YI tX uU (aG c3) rfl rfl)) (Z2 9 175 2 168 rfl (YF qg (aG c3) rfl)) (X2 10 176 2 168 rfl fun hG=>YR aD (aG c3) rfl (aJ hG hp)) (bG (Z3 4 170 11 177 2 168 rfl (YC (aG c3) rfl)) (bG (Z2 2 168 12 178 rfl (Pt (aG c3) rfl)) (bG (cZ rfl) dQ)))))) ?_
   ·refine fu 7 173 2 168 rfl rfl fun _ a w G1 hG HT H fin=>?_;refine mQ _ H (wg H rfl rfl (aG c3)) rfl rfl rfl (by omega) (by omega) rfl ?_;clear H;intro a H;exact fin H iJ (by show _=_;first|rfl|exact ay vi (by omega))
   clear H;intro a w G Ag H hv;have H:=H.bC (hv 13 179 rfl rfl) rfl;clear hv;refine kH H (Ra rfl ?_);clear H;intro a H;refine aH ⟨rfl,?_⟩;refine AU _ _ ?_;clear AU;refine oF H rfl (aQ c4) ?_;refine aN (fun _ Dl=>?_)
   have hz:¬ (0 < k∧h.marks.layers[k].key < h.marks.layers[k - 1].key):=by first|exact fun h=>c4 h.2|exact fun h=>c3 (by omega)
   replace y1:=aJ Ag y1;replace y2:=aJ Ag y2;replace y3:=aJ Ag y3;have hge:=fun b o h=>Ag b o (hgc b o h);refine kP H (SC (Rf E9 rfl (Rg sS rfl y3 (Rn rfl (Rm rfl (Sp 184 rfl ?_ ?_)))))) <;> clear H
   ·intro sw a H
    try have VA:=dT sw
    refine kH H (YF vC sw rfl (YR aD sw rfl y2 (YC sw rfl (Pt sw rfl (aL Dl rfl (Cd rfl ?_ ?_)))))) <;> clear H Dl
    ·intro Hg a H
     try have Vz:=dT Hg
     refine aN (fun _ Gf=>?_);have hE:=hX 21 (by unfold lK;rw [ah Aj,ah BD,ah hz];simp_all [bL]) (by decide);exact kP H (SC (aL Gf rfl (LR results43 rfl fun H=>H.rt (by rw [hE]))))
    intro Hg a H
    try have Vz:=dF Hg
    refine kP H (Kc xK (SR fun _ Gg=>Rf E9 rfl (Rg sS rfl y3 (Kz Gg (Cd rfl ?_ ?_))))) <;> clear H xK Gg
    ·intro wM a H
     try have Iw:=dT wM
     have sI:lK (aK st li rv) e k h.marks.layers[k] h.marks.layers[k - 1].key=bO [tC h.marks.layers[k].key h.marks.layers[k].before,kM st (li.map dR.id) h.marks.layers[k].key h.marks.layers[k].before]:=by unfold lK;rw [ah Aj,ah BD,ah hz,ah (by simp_all)]
     refine kP H (SQ fun _ EL=>SR fun _ EM=>Rf qg rfl (Rg aD rfl y1 (Rf vC rfl (Rg aD rfl y2 ?_))));clear H;intro a H;refine s_call GR H wn rfl (EX (GN _ _ H.ro h.marks.layers[k].key h.marks.layers[k].before)) rfl ?_;clear H;rintro WC _ a w ⟨⟨_,rfl⟩,rfl⟩ - H;refine kH H (ak EM rfl (SR fun _ EN=>Rm rfl (Rc rfl (Kz EN (Cd rfl ?_ ?_))))) <;> clear H EM EN
     ·intro wN a H
      try have sM:=dT wN
      refine aN (fun _ I6=>?_);have hE:=hX _ (sI.trans (wG sM)) sM;exact kP H (SC (Rm rfl (aL I6 rfl (LR results43 rfl fun H=>H.rt (by rw [hE])))))
     intro wN a H
     try have sM:=dF wN
     rw [iY (gL.1 sM),Cu] at sI;refine kP H (Kc EL (SR fun _ Gj=>Rm rfl (Rf qg rfl (Rg aD rfl y1 (Rf vC rfl (Rg aD rfl y2 ?_))))));clear H EL;intro a H;refine s_call LK H wn rfl (MQ _ _ H.ro D st li rv b v n (hck.mono hge) hmz (hge _ _ hb) h.marks.layers[k].key h.marks.layers[k].before) rfl ?_;clear H;rintro WE _ a w ⟨rfl,rfl⟩ - H;refine kH H (ak Gj rfl (SR fun _ KP=>Rm rfl (Rc rfl (Kz KP (Cd rfl ?_ ?_))))) <;> clear H Gj KP
     ·intro wO a H
      try have wY:=dT wO
      refine aN (fun _ Nv=>?_);have hE:=hX _ sI wY;exact kP H (SC (Rm rfl (aL Nv rfl (LR results43 rfl fun H=>H.rt (by rw [hE])))))
     intro wO a H
     try have wY:=dF wO
     have wS:=sI.trans (gL.1 wY);have sG:=hge;refine kP H (Kc pW (SC (Rm rfl (Rd rfl (Ra rfl ?_)))));clear H pW;intro a H;refine aH ?_;refine cB ((k+1,G)) (by exact (H).sub ⟨rfl,rfl,rfl,rfl,av⟩) ?_ ?_
     ·(try dsimp only);exact ⟨by omega,by rw [qE hk2,ah (by rw [D7];simpa using wS)] at tK;exact tK,sG⟩
     first|omega|(dsimp only;omega)
    intro wM a H
    try have Iw:=dF wM
    have wS:lK (aK st li rv) e k h.marks.layers[k] h.marks.layers[k - 1].key=0:=by unfold lK;rw [ah Aj,ah BD,ah hz];simp_all [bL]
    have sG:=hge;refine kP H (Kc pW (SC (Rm rfl (Rd rfl (Ra rfl ?_)))));clear H pW;intro a H;refine aH ?_;refine cB ((k+1,G)) (by exact (H).sub ⟨rfl,rfl,rfl,rfl,av⟩) ?_ ?_
    ·(try dsimp only);exact ⟨by omega,by rw [qE hk2,ah (by rw [D7];simpa using wS)] at tK;exact tK,sG⟩
    first|omega|(dsimp only;omega)
   intro sw a H
   try have VA:=dF sw
   refine kH H (aZ sw rfl (Pf sw rfl (aL Dl rfl (Cf rfl rfl (Kc xK (SR fun _ Xl=>Rf E9 rfl (Rg sS rfl y3 (Kz Xl (Cd rfl ?_ ?_))))))))) <;> clear H Dl xK Xl
   ·intro wM a H
    try have Iw:=dT wM
    have sI:lK (aK st li rv) e k h.marks.layers[k] h.marks.layers[k - 1].key=bO [tC h.marks.layers[k].key h.marks.layers[k].before,kM st (li.map dR.id) h.marks.layers[k].key h.marks.layers[k].before]:=by unfold lK;rw [ah Aj,ah BD,ah hz,ah (by simp_all)]
    refine kP H (SQ fun _ Xm=>SR fun _ Xn=>Rf qg rfl (Rg aD rfl y1 (Rf vC rfl (Rg aD rfl y2 ?_))));clear H;intro a H;refine s_call GR H wn rfl (EX (GN _ _ H.ro h.marks.layers[k].key h.marks.layers[k].before)) rfl ?_;clear H;rintro WC _ a w ⟨⟨_,rfl⟩,rfl⟩ - H;refine kH H (ak Xn rfl (SR fun _ Xo=>Rm rfl (Rc rfl (Kz Xo (Cd rfl ?_ ?_))))) <;> clear H Xn Xo
    ·intro wN a H
     try have sM:=dT wN
     refine aN (fun _ K78=>?_);have hE:=hX _ (sI.trans (wG sM)) sM;exact kP H (SC (Rm rfl (aL K78 rfl (LR results43 rfl fun H=>H.rt (by rw [hE])))))
    intro wN a H
    try have sM:=dF wN
    rw [iY (gL.1 sM),Cu] at sI;refine kP H (Kc Xm (SR fun _ Xp=>Rm rfl (Rf qg rfl (Rg aD rfl y1 (Rf vC rfl (Rg aD rfl y2 ?_))))));clear H Xm;intro a H;refine s_call LK H wn rfl (MQ _ _ H.ro D st li rv b v n (hck.mono hge) hmz (hge _ _ hb) h.marks.layers[k].key h.marks.layers[k].before) rfl ?_;clear H;rintro WE _ a w ⟨rfl,rfl⟩ - H;refine kH H (ak Xp rfl (SR fun _ Xq=>Rm rfl (Rc rfl (Kz Xq (Cd rfl ?_ ?_))))) <;> clear H Xp Xq
    ·intro wO a H
     try have wY:=dT wO
     refine aN (fun _ K81=>?_);have hE:=hX _ sI wY;exact kP H (SC (Rm rfl (aL K81 rfl (LR results43 rfl fun H=>H.rt (by rw [hE])))))
    intro wO a H
    try have wY:=dF wO
    have wS:=sI.trans (gL.1 wY);have sG:=hge;refine kP H (Kc pW (SC (Rm rfl (Rd rfl (Ra rfl ?_)))));clear H pW;intro a H;refine aH ?_;refine cB ((k+1,G)) (by exact (H).sub ⟨rfl,rfl,rfl,rfl,av⟩) ?_ ?_
    ·(try dsimp only);exact ⟨by omega,by rw [qE hk2,ah (by rw [D7];simpa using wS)] at tK;exact tK,sG⟩
    first|omega|(dsimp only;omega)
   intro wM a H
   try have Iw:=dF wM
   have wS:lK (aK st li rv) e k h.marks.layers[k] h.marks.layers[k - 1].key=0:=by unfold lK;rw [ah Aj,ah BD,ah hz];simp_all [bL]
   have sG:=hge;refine kP H (Kc pW (SC (Rm rfl (Rd rfl (Ra rfl ?_)))));clear H pW;intro a H;refine aH ?_;refine cB ((k+1,G)) (by exact (H).sub ⟨rfl,rfl,rfl,rfl,av⟩) ?_ ?_
   ·(try dsimp only);exact ⟨by omega,by rw [qE hk2,ah (by rw [D7];simpa using wS)] at tK;exact tK,sG⟩
   first|omega|(dsimp only;omega)
  skip;refine dI hmx [[],[0],[0,1],[0,1,2],(ra 0 4),[0,1,2],[0,1,2,5],[0,1,2],[0,1,2,7],[0,1,2,5,6,7,8],[0,1,2,5,6,7,8,9],([0,1,2]++ra 5 6),(ra 0 12),(ra 0 13),(ra 0 14)] [14] (by kernel_rfl) [_,_,_,undef,undef,undef,undef,undef,undef,undef,undef,undef,undef,_] H (aI (Z0 rfl (Rm rfl)) (Z1 0 166 rfl (Rc rfl)) (Z1 1 167 rfl (Rm rfl)) (aV (j:=2) (by kernel_rfl) (fun _ _ _ _ _ h=>h) rfl rfl rfl rfl rfl (fun _ _ h=>aW h (aM (aQ c3))) rfl (fun _=>rfl)) (aI (aV (j:=2) (by kernel_rfl) (fun _ _ _ _ _ h=>h) rfl rfl rfl rfl rfl (fun _ _ h=>aW h (aM (aQ c3))) rfl (fun _=>rfl)) (aV (j:=2) (by kernel_rfl) (fun _ _ _ _ _ h=>h) rfl rfl rfl rfl rfl (fun _ _ h=>aW h (aM (aQ c3))) rfl (fun _=>rfl)) (aV (j:=2) (by kernel_rfl) (fun _ _ _ _ _ h=>h) rfl rfl rfl rfl rfl (fun _ _ h=>aW h (aM (aQ c3))) rfl (fun _=>rfl)) (aV (j:=2) (by kernel_rfl) (fun _ _ _ _ _ h=>h) rfl rfl rfl rfl rfl (fun _ _ h=>aW h (aM (aQ c3))) rfl (fun _=>rfl)) (aI (aV (j:=2) (by kernel_rfl) (fun _ _ _ _ _ h=>h) rfl rfl rfl rfl rfl (fun _ _ h=>aW h (aM (aQ c3))) rfl (fun _=>rfl)) (aV (j:=2) (by kernel_rfl) (fun _ _ _ _ _ h=>h) rfl rfl rfl rfl rfl (fun _ _ h=>aW h (aM (aQ c3))) rfl (fun _=>rfl)) (aV (j:=2) (by kernel_rfl) (fun _ _ _ _ _ h=>h) rfl rfl rfl rfl rfl (fun _ _ h=>aW h (aM (aQ c3))) rfl (fun _=>rfl)) (aV (j:=2) (by kernel_rfl) (fun _ _ _ _ _ h=>h) rfl rfl rfl rfl rfl (fun _ _ h=>aW h (aM (aQ c3))) rfl (fun _=>rfl)) (bG (aV (j:=2) (by kernel_rfl) (fun _ _ _ _ _ h=>h) rfl rfl rfl rfl rfl (fun _ _ h=>aW h (aM (aQ c3))) rfl (fun _=>rfl)) (bG (Z2 2 168 12 178 rfl (Pf (aQ c3) rfl)) (bG (cZ rfl) dQ)))))) ?_
  clear H;intro a w G Ag H hv;have H:=H.bC (hv 13 179 rfl rfl) rfl;clear hv;refine kH H (Ra rfl ?_);clear H;intro a H;refine aH ⟨rfl,?_⟩;refine AU _ _ ?_;clear AU;refine oF H rfl rfl ?_;refine aN (fun _ Nw=>?_)
  have hz:¬ (0 < k∧h.marks.layers[k].key < h.marks.layers[k - 1].key):=by first|exact fun h=>c4 h.2|exact fun h=>c3 (by omega)
  replace y1:=aJ Ag y1;replace y2:=aJ Ag y2;replace y3:=aJ Ag y3;have hge:=fun b o h=>Ag b o (hgc b o h);refine kP H (SC (Rf E9 rfl (Rg sS rfl y3 (Rn rfl (Rm rfl (Sp 184 rfl ?_ ?_)))))) <;> clear H
  ·intro sw a H
   try have VA:=dT sw
   refine kH H (YF vC sw rfl (YR aD sw rfl y2 (YC sw rfl (Pt sw rfl (aL Nw rfl (Cd rfl ?_ ?_)))))) <;> clear H Nw
   ·intro Hg a H
    try have Vz:=dT Hg
    refine aN (fun _ K83=>?_);have hE:=hX 21 (by unfold lK;rw [ah Aj,ah BD,ah hz];simp_all [bL]) (by decide);exact kP H (SC (aL K83 rfl (LR results43 rfl fun H=>H.rt (by rw [hE]))))
   intro Hg a H
   try have Vz:=dF Hg
   refine kP H (Kc xK (SR fun _ Xr=>Rf E9 rfl (Rg sS rfl y3 (Kz Xr (Cd rfl ?_ ?_))))) <;> clear H xK Xr
   ·intro wM a H
    try have Iw:=dT wM
    have sI:lK (aK st li rv) e k h.marks.layers[k] h.marks.layers[k - 1].key=bO [tC h.marks.layers[k].key h.marks.layers[k].before,kM st (li.map dR.id) h.marks.layers[k].key h.marks.layers[k].before]:=by unfold lK;rw [ah Aj,ah BD,ah hz,ah (by simp_all)]
    refine kP H (SQ fun _ Xt=>SR fun _ Xu=>Rf qg rfl (Rg aD rfl y1 (Rf vC rfl (Rg aD rfl y2 ?_))));clear H;intro a H;refine s_call GR H wn rfl (EX (GN _ _ H.ro h.marks.layers[k].key h.marks.layers[k].before)) rfl ?_;clear H;rintro WC _ a w ⟨⟨_,rfl⟩,rfl⟩ - H;refine kH H (ak Xu rfl (SR fun _ Xv=>Rm rfl (Rc rfl (Kz Xv (Cd rfl ?_ ?_))))) <;> clear H Xu Xv
    ·intro wN a H
     try have sM:=dT wN
     refine aN (fun _ K88=>?_);have hE:=hX _ (sI.trans (wG sM)) sM;exact kP H (SC (Rm rfl (aL K88 rfl (LR results43 rfl fun H=>H.rt (by rw [hE])))))
    intro wN a H
    try have sM:=dF wN
    rw [iY (gL.1 sM),Cu] at sI;refine kP H (Kc Xt (SR fun _ Xw=>Rm rfl (Rf qg rfl (Rg aD rfl y1 (Rf vC rfl (Rg aD rfl y2 ?_))))));clear H Xt;intro a H;refine s_call LK H wn rfl (MQ _ _ H.ro D st li rv b v n (hck.mono hge) hmz (hge _ _ hb) h.marks.layers[k].key h.marks.layers[k].before) rfl ?_;clear H;rintro WE _ a w ⟨rfl,rfl⟩ - H;refine kH H (ak Xw rfl (SR fun _ Xx=>Rm rfl (Rc rfl (Kz Xx (Cd rfl ?_ ?_))))) <;> clear H Xw Xx
    ·intro wO a H
     try have wY:=dT wO
     refine aN (fun _ K91=>?_);have hE:=hX _ sI wY;exact kP H (SC (Rm rfl (aL K91 rfl (LR results43 rfl fun H=>H.rt (by rw [hE])))))
    intro wO a H
    try have wY:=dF wO
    have wS:=sI.trans (gL.1 wY);have sG:=hge;refine kP H (Kc pW (SC (Rm rfl (Rd rfl (Ra rfl ?_)))));clear H pW;intro a H;refine aH ?_;refine cB ((k+1,G)) (by exact (H).sub ⟨rfl,rfl,rfl,rfl,av⟩) ?_ ?_
    ·(try dsimp only);exact ⟨by omega,by rw [qE hk2,ah (by rw [D7];simpa using wS)] at tK;exact tK,sG⟩
    first|omega|(dsimp only;omega)
   intro wM a H
   try have Iw:=dF wM
   have wS:lK (aK st li rv) e k h.marks.layers[k] h.marks.layers[k - 1].key=0:=by unfold lK;rw [ah Aj,ah BD,ah hz];simp_all [bL]
   have sG:=hge;refine kP H (Kc pW (SC (Rm rfl (Rd rfl (Ra rfl ?_)))));clear H pW;intro a H;refine aH ?_;refine cB ((k+1,G)) (by exact (H).sub ⟨rfl,rfl,rfl,rfl,av⟩) ?_ ?_
   ·(try dsimp only);exact ⟨by omega,by rw [qE hk2,ah (by rw [D7];simpa using wS)] at tK;exact tK,sG⟩
   first|omega|(dsimp only;omega)
  intro sw a H
  try have VA:=dF sw
  refine kH H (aZ sw rfl (Pf sw rfl (aL Nw rfl (Cf rfl rfl (Kc xK (SR fun _ Xy=>Rf E9 rfl (Rg sS rfl y3 (Kz Xy (Cd rfl ?_ ?_))))))))) <;> clear H Nw xK Xy
  ·intro wM a H
   try have Iw:=dT wM
   have sI:lK (aK st li rv) e k h.marks.layers[k] h.marks.layers[k - 1].key=bO [tC h.marks.layers[k].key h.marks.layers[k].before,kM st (li.map dR.id) h.marks.layers[k].key h.marks.layers[k].before]:=by unfold lK;rw [ah Aj,ah BD,ah hz,ah (by simp_all)]
   refine kP H (SQ fun _ Xz=>SR fun _ XA=>Rf qg rfl (Rg aD rfl y1 (Rf vC rfl (Rg aD rfl y2 ?_))));clear H;intro a H;refine s_call GR H wn rfl (EX (GN _ _ H.ro h.marks.layers[k].key h.marks.layers[k].before)) rfl ?_;clear H;rintro WC _ a w ⟨⟨_,rfl⟩,rfl⟩ - H;refine kH H (ak XA rfl (SR fun _ XB=>Rm rfl (Rc rfl (Kz XB (Cd rfl ?_ ?_))))) <;> clear H XA XB
   ·intro wN a H
    try have sM:=dT wN
    refine aN (fun _ K96=>?_);have hE:=hX _ (sI.trans (wG sM)) sM;exact kP H (SC (Rm rfl (aL K96 rfl (LR results43 rfl fun H=>H.rt (by rw [hE])))))
   intro wN a H
   try have sM:=dF wN
   rw [iY (gL.1 sM),Cu] at sI;refine kP H (Kc Xz (SR fun _ XC=>Rm rfl (Rf qg rfl (Rg aD rfl y1 (Rf vC rfl (Rg aD rfl y2 ?_))))));clear H Xz;intro a H;refine s_call LK H wn rfl (MQ _ _ H.ro D st li rv b v n (hck.mono hge) hmz (hge _ _ hb) h.marks.layers[k].key h.marks.layers[k].before) rfl ?_;clear H;rintro WE _ a w ⟨rfl,rfl⟩ - H;refine kH H (ak XC rfl (SR fun _ XD=>Rm rfl (Rc rfl (Kz XD (Cd rfl ?_ ?_))))) <;> clear H XC XD
   ·intro wO a H
    try have wY:=dT wO
    refine aN (fun _ K99=>?_);have hE:=hX _ sI wY;exact kP H (SC (Rm rfl (aL K99 rfl (LR results43 rfl fun H=>H.rt (by rw [hE])))))
   intro wO a H
   try have wY:=dF wO
   have wS:=sI.trans (gL.1 wY);have sG:=hge;refine kP H (Kc pW (SC (Rm rfl (Rd rfl (Ra rfl ?_)))));clear H pW;intro a H;refine aH ?_;refine cB ((k+1,G)) (by exact (H).sub ⟨rfl,rfl,rfl,rfl,av⟩) ?_ ?_
   ·(try dsimp only);exact ⟨by omega,by rw [qE hk2,ah (by rw [D7];simpa using wS)] at tK;exact tK,sG⟩
   first|omega|(dsimp only;omega)
  intro wM a H
  try have Iw:=dF wM
  have wS:lK (aK st li rv) e k h.marks.layers[k] h.marks.layers[k - 1].key=0:=by unfold lK;rw [ah Aj,ah BD,ah hz];simp_all [bL]
  have sG:=hge;refine kP H (Kc pW (SC (Rm rfl (Rd rfl (Ra rfl ?_)))));clear H pW;intro a H;refine aH ?_;refine cB ((k+1,G)) (by exact (H).sub ⟨rfl,rfl,rfl,rfl,av⟩) ?_ ?_
  ·(try dsimp only);exact ⟨by omega,by rw [qE hk2,ah (by rw [D7];simpa using wS)] at tK;exact tK,sG⟩
  first|omega|(dsimp only;omega)
 intro Ta a H
 try have anC:=dF Ta
 refine dJ ?_;refine F7 _ _ ?_;clear F7;refine aN (fun _ ael=>?_)
 replace hE:fI (aK st li rv) e h=0:=by rw [hE,← tK,eU (by simp;omega)];rfl
 exact kP H (SC (aL ael rfl (LR results43 rfl fun H=>H.rt (by rw [hE]))))
end
section
open Go.RowKit
def Ck (x:aC):Int:=if x.kind=4 then 3 else if x.kind=6 then 2 else if x.kind=8 then 4 else 0
theorem Yw (x:aC):decide (Ck x=0)=!A9 x:=by
 unfold Ck A9
 by_cases h4:x.kind=4
 ·simp [h4]
 by_cases h6:x.kind=6
 ·simp [h6]
 by_cases h8:x.kind=8 <;> simp [h4,h6,h8]
theorem NV (x:aC):(decide (0 < Ck x) && (decide (x.code < 1) || decide (Ck x < x.code)))=!codeOk x:=by
 unfold Ck codeOk
 by_cases h4:x.kind=4
 ·simp only [h4,au];by_cases a:x.code < 1 <;> by_cases b:3 < x.code <;> simp [a,b] <;> omega
 by_cases h6:x.kind=6
 ·simp only [h6,au];by_cases a:x.code < 1 <;> by_cases b:2 < x.code <;> simp [a,b] <;> omega
 by_cases h8:x.kind=8
 ·simp only [h8,au];by_cases a:x.code < 1 <;> by_cases b:4 < x.code <;> simp [a,b] <;> omega
 simp [h4,h6,h8]
set_option maxHeartbeats 8000000 in
theorem amM (G:GH) (w0:World) (hG:Hold G w0) (x:aC) (p d l:aj) (fA rA:Option Addr) (fc rc:Nat) (hs:x.text.size < 4611686018427387904) :
  Calls prog 52 #[.agg #[vi x.kind,vi x.code,vi x.id,.string x.text,p,vi x.head.marks.ins,vi x.head.marks.move,d,l,.slice fA x.flow.length fc,.slice rA x.rows.length rc]] w0 (bV w0 G fun u G'=>u=vi (jE x)∧G=G'):=by
 refine eN [(0,_)] func52 rfl ntmps52 rfl rfl hG ?_;intro a H;refine cO (fun _ K1=>?_);refine fD (cs:=[_,_,_,_,_,_,_,_,_,_,_]) H wn rfl rfl rfl ?_;clear H;intro b1 a w hb1 H;refine kH H (ak K1 rfl (SR fun _ K2=>ak K2 rfl ?_));clear H K1 K2;intro a H;refine oG (ι:=Int) (Tc:=[(1,_)]) (Lc:=[(_,_)]) (fun gh=>[(3,vi gh)]) (fun gh=>[]) (fun gh=>G) (fun gh=>gh=Ck x) (by exact (H).sub ⟨rfl,av⟩) ?_ ?_
 ·skip;refine kP H (SR fun _ K3=>aR gH aD 0 rfl rfl (Kz K3 (SB (SR fun _ K4=>Rc rfl (ak K4 rfl (Cd rfl ?_ ?_)))))) <;> clear H K3 K4
  ·intro h9 a H
   try have p9:=dT h9
   refine kP H (SC (Ra rfl ?_));clear H;intro a H;refine aH ?_;refine ⟨_,by exact (H).sub ⟨rfl,rfl,av⟩,?_⟩
   unfold Ck;first|(simp_all;done)
  intro h9 a H
  try have p9:=dF h9
  refine kP H (SR fun _ K5=>Rc rfl (ak K5 rfl (Cd rfl ?_ ?_))) <;> clear H K5
  ·intro h11 a H
   try have yC:=dT h11
   refine kP H (SC (Ra rfl ?_));clear H;intro a H;refine aH ?_;refine ⟨_,by exact (H).sub ⟨rfl,rfl,av⟩,?_⟩
   unfold Ck;first|(simp_all;done)
  intro h11 a H
  try have yC:=dF h11
  refine kP H (SR fun _ K6=>Rc rfl (ak K6 rfl (Cd rfl ?_ ?_))) <;> clear H K6
  ·intro eO a H
   try have nZ:=dT eO
   refine kP H (SC (Ra rfl ?_));clear H;intro a H;refine aH ?_;refine ⟨_,by exact (H).sub ⟨rfl,rfl,av⟩,?_⟩
   unfold Ck;first|(simp_all;done)
  intro eO a H
  try have nZ:=dF eO
  refine fT ?_;refine ⟨_,by exact (H).sub ⟨rfl,rfl,av⟩,?_⟩
  unfold Ck;first|(simp_all;done)
 clear H;intro cs a w hI H;have hcs:=hI;dsimp only [lca,aO] at H;refine cO (fun _ K7=>?_);refine mU (ι:=Bool) (Tc:=[(1,_),(3,_)]) 8 (fun (st:Bool)=>[(22,.bool st)]) (fun (st:Bool)=>st=Ay x) (by exact H.sub ⟨rfl,rfl,av⟩) ?_ ?_
 ·intro ZQ;refine kH H (aR gH aD 0 rfl rfl (Rc rfl (Rm rfl (Sp 18 rfl ?_ ?_)))) <;> clear H
  ·intro h18 a H
   try have tQ:=dT h18
   refine kH H (YF DJ h18 rfl (YO aD 0 h18 rfl (YC h18 rfl (Pt h18 rfl ?_))));clear H;intro a H;refine ZQ (_) _ _ ?_ (by exact H.sub ⟨rfl,rfl,rfl,av⟩)
   unfold Ay;clear hcs;simp_all
  intro h18 a H
  try have tQ:=dF h18
  refine kH H (aZ h18 rfl (Pf h18 rfl ?_));clear H;intro a H;refine ZQ (_) _ _ ?_ (by exact H.sub ⟨rfl,rfl,rfl,av⟩)
  unfold Ay;clear hcs;simp_all
 clear H;intro st a w hI H;dsimp only [lca,aO] at H;simp only [mG,jU];have hst:=hI;refine kH H (ak K7 rfl (SR fun _ K8=>?_));clear H K7;intro a H;refine mU (ι:=Bool) (Tc:=[(1,_),(3,_),(4,_)]) 8 (fun (FZ:Bool)=>[(30,.bool FZ)]) (fun (FZ:Bool)=>FZ=decide (x.kind=1∨x.kind=5)) (by exact H.sub ⟨rfl,rfl,rfl,av⟩) ?_ ?_
 ·intro ZJ;refine kH H (aR gH aD 0 rfl rfl (Rc rfl (Rm rfl (Sp 26 rfl ?_ ?_)))) <;> clear H
  ·intro fE a H
   try have p26:=dT fE
   refine kH H (aZ fE rfl (Pt fE rfl ?_));clear H;intro a H;refine ZJ (_) _ _ ?_ (by exact H.sub ⟨rfl,rfl,rfl,rfl,av⟩);clear hst hcs;simp_all
  intro fE a H
  try have p26:=dF fE
  refine kH H (YF gH fE rfl (YO aD 0 fE rfl (YC fE rfl (Pf fE rfl ?_))));clear H;intro a H;refine ZJ (_) _ _ ?_ (by exact H.sub ⟨rfl,rfl,rfl,rfl,av⟩);clear hst hcs;simp_all
 clear H;intro FZ a w hI H;dsimp only [lca,aO] at H;simp only [mG,jU];have lq:=hI;refine kH H (ak K8 rfl (SR fun _ K9=>?_));clear H K8;intro a H;refine mU (ι:=Bool) (Tc:=[(1,_),(3,_),(4,_),(5,_)]) 13 (fun (nm:Bool)=>[(43,.bool nm)]) (fun (nm:Bool)=>nm=zF x) (by exact H.sub ⟨rfl,rfl,rfl,rfl,av⟩) ?_ ?_
 ·intro TD;refine kH H (aR gH aD 0 rfl rfl (Rc rfl (Rm rfl (Sp 34 rfl ?_ ?_)))) <;> clear H
  ·intro dZ a H
   try have p34:=dT dZ
   refine kH H (aZ dZ rfl (Pt dZ rfl (Rm rfl (aZ rfl rfl (Pt rfl rfl ?_)))));clear H;intro a H;refine TD (_) _ _ ?_ (by exact H.sub ⟨rfl,rfl,rfl,rfl,rfl,av⟩)
   unfold zF;clear hst hcs;(try clear lq);simp_all
  intro dZ a H
  try have p34:=dF dZ
  refine kH H (YF gH dZ rfl (YO aD 0 dZ rfl (YC dZ rfl (Pf dZ rfl (Rm rfl (Sp 39 rfl ?_ ?_)))))) <;> clear H
  ·intro iN a H
   try have p39:=dT iN
   refine kH H (aZ iN rfl (Pt iN rfl ?_));clear H;intro a H;refine TD (_) _ _ ?_ (by exact H.sub ⟨rfl,rfl,rfl,rfl,rfl,av⟩)
   unfold zF;clear hst hcs;(try clear lq);simp_all
  intro iN a H
  try have p39:=dF iN
  refine kH H (YF gH iN rfl (YO aD 0 iN rfl (YC iN rfl (Pf iN rfl ?_))));clear H;intro a H;refine TD (_) _ _ ?_ (by exact H.sub ⟨rfl,rfl,rfl,rfl,rfl,av⟩)
  unfold zF;clear hst hcs;(try clear lq);simp_all
 clear H;intro nm a w hI H;dsimp only [lca,aO] at H;simp only [mG,jU];have hnm:=hI;refine kH H (ak K9 rfl (SQ fun _ aU=>SB (SR fun _ bD=>?_)));clear H K9;intro a H;refine mU (ι:=Bool) (Tc:=[(1,_),(3,_),(4,_),(5,_),(6,_)]) 8 (fun (qa:Bool)=>[(52,.bool qa)]) (fun (qa:Bool)=>qa=!decide (1≤x.kind∧x.kind≤8)) (by exact H.sub ⟨rfl,rfl,rfl,rfl,rfl,av⟩) ?_ ?_
 ·intro Bv;refine kH H (aR gH aD 0 rfl rfl (Rc rfl (Rm rfl (Sp 48 rfl ?_ ?_)))) <;> clear H
  ·intro h48 a H
   try have p48:=dT h48
   refine kH H (aZ h48 rfl (Pt h48 rfl ?_));clear H;intro a H;refine Bv (_) _ _ ?_ (by exact H.sub ⟨rfl,rfl,rfl,rfl,rfl,rfl,av⟩);rw [ru];simp only [qY,yV,wB,true_iff,eq_self_iff_true];omega
  intro h48 a H
  try have p48:=dF h48
  refine kH H (YF gH h48 rfl (YO aD 0 h48 rfl (YC h48 rfl (Pf h48 rfl ?_))));clear H;intro a H;refine Bv (_) _ _ ?_ (by exact H.sub ⟨rfl,rfl,rfl,rfl,rfl,rfl,av⟩);rw [ru];simp only [qY,yV,wB,true_iff,eq_self_iff_true];omega
 clear H;intro qa a w hI H;dsimp only [lca,aO] at H;simp only [mG,jU];have lg:=hI;refine mU (ι:=Bool) (Tc:=[(1,_),(3,_),(4,_),(5,_),(6,_)]) 15 (fun (q0:Bool)=>[(67,.bool q0)]) (fun (q0:Bool)=>q0=(!decide (1≤x.kind∧x.kind≤8) || !codeOk x)) (by exact H.sub ⟨rfl,rfl,rfl,rfl,rfl,av⟩) ?_ ?_
 ·intro OG;refine kH H (Rm rfl (Sp 53 rfl ?_ ?_)) <;> clear H
  ·intro dS a H
   try have p53:=dT dS
   refine kH H (aZ dS rfl (Ku rfl (Ku rfl (Ku rfl (Ku rfl (Ku rfl (Ku rfl (Ku rfl (Ku rfl (Ku rfl (Ks dS rfl (Pt dS rfl ?_))))))))))));clear H;intro a H;refine OG (_) _ _ ?_ (by exact H.sub ⟨rfl,rfl,rfl,rfl,rfl,rfl,av⟩)
   rw [← NV,← hcs,← lg];clear hst lq hnm hcs;(try clear hq1);(try clear hq2);(try clear hq3);(try clear hq0);(try clear lg);(try clear hq4);(try clear iB);(try clear iF);(try clear iG);first|(simp_all;done)|(simp_all;omega)
  intro dS a H
  try have p53:=dF dS
  refine kH H (YM dS rfl (YC dS rfl (YM dS rfl (Sp 56 rfl ?_ ?_)))) <;> clear H
  ·intro qj a H
   try have p56:=dT qj
   refine kH H (YF DJ qj rfl (YO aD 0 qj rfl (YC qj rfl (YM qj rfl (Sp 60 rfl ?_ ?_))))) <;> clear H
   ·intro fB a H
    try have p60:=dT fB
    refine kH H (aT fB rfl (aT fB rfl (PT qj fB rfl (PT dS qj rfl (Pf dS rfl ?_)))));clear H;intro a H;refine OG (_) _ _ ?_ (by exact H.sub ⟨rfl,rfl,rfl,rfl,rfl,rfl,av⟩)
    rw [← NV,← hcs,← lg];clear hst lq hnm hcs;(try clear hq1);(try clear hq2);(try clear hq3);(try clear hq0);(try clear lg);(try clear hq4);(try clear iB);(try clear iF);(try clear iG);first|(simp_all;done)|(simp_all;omega)
   intro fB a H
   try have p60:=dF fB
   refine kH H (YF DJ fB rfl (YO aD 0 fB rfl (YM fB rfl (YC fB rfl (PF qj fB rfl (PT dS qj rfl (Pf dS rfl ?_)))))));clear H;intro a H;refine OG (_) _ _ ?_ (by exact H.sub ⟨rfl,rfl,rfl,rfl,rfl,rfl,av⟩)
   rw [← NV,← hcs,← lg];clear hst lq hnm hcs;(try clear hq1);(try clear hq2);(try clear hq3);(try clear hq0);(try clear lg);(try clear hq4);(try clear iB);(try clear iF);(try clear iG);first|(simp_all;done)|(simp_all;omega)
  intro qj a H
  try have p56:=dF qj
  refine kH H (aT qj rfl (aT qj rfl (Ku rfl (Ku rfl (Ku rfl (Ku rfl (Ks qj rfl (PF dS qj rfl (Pf dS rfl ?_)))))))));clear H;intro a H;refine OG (_) _ _ ?_ (by exact H.sub ⟨rfl,rfl,rfl,rfl,rfl,rfl,av⟩)
  rw [← NV,← hcs,← lg];clear hst lq hnm hcs;(try clear hq1);(try clear hq2);(try clear hq3);(try clear hq0);(try clear lg);(try clear hq4);(try clear iB);(try clear iF);(try clear iG);first|(simp_all;done)|(simp_all;omega)
 clear H;intro q0 a w hI H;dsimp only [lca,aO] at H;simp only [mG,jU];have hq0:=hI;refine kH H (ak bD rfl (Cd rfl ?_ ?_)) <;> clear H bD
 ·intro kT a H
  refine aN (fun _ bE=>?_)
  have e:jE x=3:=by unfold jE;rw [au (by rw [← hq0];exact kT)]
  exact kP H (SC (aL bE rfl (LR results52 rfl fun H=>H.rt ⟨by rw [e],rfl⟩)))
 intro kT a H
 try have p44:=dF kT
 have f0:¬ (!decide (1≤x.kind∧x.kind≤8) || !codeOk x)=true:=by rw [← hq0,kT];decide
 refine cO (fun _ bQ=>?_);refine mU (ι:=Bool) (Tc:=[(1,_),(4,_),(5,_),(6,_)]) 7 (fun (q1:Bool)=>[(75,.bool q1)]) (fun (q1:Bool)=>q1=(!A9 x && decide (x.code≠0))) (by exact H.sub ⟨rfl,rfl,rfl,rfl,av⟩) ?_ ?_
 ·intro Mh;refine kH H (Rm rfl (Rc rfl (Rm rfl (Sp 71 rfl ?_ ?_)))) <;> clear H
  ·intro ko a H
   try have p71:=dT ko
   refine kH H (YF DJ ko rfl (YO aD 0 ko rfl (YC ko rfl (Pt ko rfl ?_))));clear H;intro a H;refine Mh (_) _ _ ?_ (by exact H.sub ⟨rfl,rfl,rfl,rfl,rfl,av⟩);rw [← Yw,← hcs];clear hst lq hnm hcs;(try clear hq1);(try clear hq2);(try clear hq3);(try clear hq0);(try clear lg);(try clear hq4);(try clear iB);(try clear iF);(try clear iG);simp_all
  intro ko a H
  try have p71:=dF ko
  refine kH H (aZ ko rfl (Pf ko rfl ?_));clear H;intro a H;refine Mh (_) _ _ ?_ (by exact H.sub ⟨rfl,rfl,rfl,rfl,rfl,av⟩);rw [← Yw,← hcs];clear hst lq hnm hcs;(try clear hq1);(try clear hq2);(try clear hq3);(try clear hq0);(try clear lg);(try clear hq4);(try clear iB);(try clear iF);(try clear iG);simp_all
 clear H;intro q1 a w hI H;dsimp only [lca,aO] at H;simp only [mG,jU];have hq1:=hI;refine mU (ι:=Bool) (Tc:=[(1,_),(4,_),(5,_)]) 9 (fun (q2:Bool)=>[(84,.bool q2)]) (fun (q2:Bool)=>q2=(q1 || !zF x && decide (x.id≠0))) (by exact H.sub ⟨rfl,rfl,rfl,av⟩) ?_ ?_
 ·intro TH;refine kH H (Rm rfl (Sp 76 rfl ?_ ?_)) <;> clear H
  ·intro sF a H
   try have VB:=dT sF
   refine kH H (aZ sF rfl (Ku rfl (Ku rfl (Ku rfl (Ks sF rfl (Pt sF rfl ?_))))));clear H;intro a H;refine TH (_) _ _ ?_ (by exact H.sub ⟨rfl,rfl,rfl,rfl,av⟩);rw [← hnm];clear hst lq hnm hcs;(try clear hq1);(try clear hq2);(try clear hq3);(try clear hq0);(try clear lg);(try clear hq4);(try clear iB);(try clear iF);(try clear iG);simp_all
  intro sF a H
  try have VB:=dF sF
  refine kH H (YM sF rfl (YN sF rfl (YM sF rfl (Sp 79 rfl ?_ ?_)))) <;> clear H
  ·intro iZ a H
   try have zH:=dT iZ
   refine kH H (YF vE iZ rfl (YO aD 0 iZ rfl (YC iZ rfl (PT sF iZ rfl (Pf sF rfl ?_)))));clear H;intro a H;refine TH (_) _ _ ?_ (by exact H.sub ⟨rfl,rfl,rfl,rfl,av⟩);rw [← hnm];clear hst lq hnm hcs;(try clear hq1);(try clear hq2);(try clear hq3);(try clear hq0);(try clear lg);(try clear hq4);(try clear iB);(try clear iF);(try clear iG);simp_all
  intro iZ a H
  try have zH:=dF iZ
  refine kH H (aZ iZ rfl (PF sF iZ rfl (Pf sF rfl ?_)));clear H;intro a H;refine TH (_) _ _ ?_ (by exact H.sub ⟨rfl,rfl,rfl,rfl,av⟩);rw [← hnm];clear hst lq hnm hcs;(try clear hq1);(try clear hq2);(try clear hq3);(try clear hq0);(try clear lg);(try clear hq4);(try clear iB);(try clear iF);(try clear iG);simp_all
 clear H;intro q2 a w hI H;dsimp only [lca,aO] at H;simp only [mG,jU];have hq2:=hI;refine mU (ι:=Bool) (Tc:=[(1,_),(4,_),(5,_)]) 13 (fun (q3:Bool)=>[(97,.bool q3)]) (fun (q3:Bool)=>q3=(q2 || !zR x && !qd x.text)) (by exact H.sub ⟨rfl,rfl,rfl,av⟩) ?_ ?_
 ·intro OH;refine kH H (Rm rfl (Sp 85 rfl ?_ ?_)) <;> clear H
  ·intro mK a H
   try have VF:=dT mK
   refine kH H (aZ mK rfl (Ku rfl (Ku rfl (aT mK rfl (Ku rfl (Ku rfl (Ku rfl (Ks mK rfl (Pt mK rfl ?_)))))))));clear H;intro a H;refine OH (_) _ _ ?_ (by exact H.sub ⟨rfl,rfl,rfl,rfl,av⟩);rw [show zR x=(FZ || st) by rw [lq,hst];rfl];clear hst lq hnm hcs;(try clear hq1);(try clear hq2);(try clear hq3);(try clear hq0);(try clear lg);(try clear hq4);(try clear iB);(try clear iF);(try clear iG);simp_all [qd]
  intro mK a H
  try have VF:=dF mK
  refine kH H (YM mK rfl (YN mK rfl (YM mK rfl (Sp 88 rfl ?_ ?_)))) <;> clear H
  ·intro vH a H
   try have MX:=dT vH
   refine kH H (YM vH rfl (YN vH rfl (PT mK vH rfl (YM mK rfl (Sp 92 rfl ?_ ?_))))) <;> clear H
   ·intro zm a H
    try have Kg:=dT zm
    refine kH H (YF vF zm rfl (YO gZ 0 zm rfl ?_));clear H;intro a H;refine acK H (wg H rfl rfl zm) rfl rfl rfl ?_;clear H;intro a H;refine kH H (PT mK zm rfl (Pf mK rfl ?_));clear H;intro a H;refine OH (_) _ _ ?_ (by exact H.sub ⟨rfl,rfl,rfl,rfl,av⟩);rw [show zR x=(FZ || st) by rw [lq,hst];rfl];clear hst lq hnm hcs;(try clear hq1);(try clear hq2);(try clear hq3);(try clear hq0);(try clear lg);(try clear hq4);(try clear iB);(try clear iF);(try clear iG);simp_all [qd]
   intro zm a H
   try have Kg:=dF zm
   refine kH H (aZ zm rfl (PF mK zm rfl (Pf mK rfl ?_)));clear H;intro a H;refine OH (_) _ _ ?_ (by exact H.sub ⟨rfl,rfl,rfl,rfl,av⟩);rw [show zR x=(FZ || st) by rw [lq,hst];rfl];clear hst lq hnm hcs;(try clear hq1);(try clear hq2);(try clear hq3);(try clear hq0);(try clear lg);(try clear hq4);(try clear iB);(try clear iF);(try clear iG);simp_all [qd]
  intro vH a H
  try have MX:=dF vH
  refine kH H (aT vH rfl (PF mK vH rfl (YM mK rfl (aZ rfl rfl (PF mK rfl rfl (Pf mK rfl ?_))))));clear H;intro a H;refine OH (_) _ _ ?_ (by exact H.sub ⟨rfl,rfl,rfl,rfl,av⟩);rw [show zR x=(FZ || st) by rw [lq,hst];rfl];clear hst lq hnm hcs;(try clear hq1);(try clear hq2);(try clear hq3);(try clear hq0);(try clear lg);(try clear hq4);(try clear iB);(try clear iF);(try clear iG);simp_all [qd]
 clear H;intro q3 a w hI H;dsimp only [lca,aO] at H;simp only [mG,jU];have hq3:=hI;refine mU (ι:=Bool) (Tc:=[(1,_),(4,_),(5,_)]) 11 (fun (q4:Bool)=>[(108,.bool q4)]) (fun (q4:Bool)=>q4=(q3 || decide (x.kind≠6) && decide (0 < (x.flow.length:Int)))) (by exact H.sub ⟨rfl,rfl,rfl,av⟩) ?_ ?_
 ·intro TF;refine kH H (Rm rfl (Sp 98 rfl ?_ ?_)) <;> clear H
  ·intro oq a H
   try have M0:=dT oq
   refine kH H (aT oq rfl (aT oq rfl (Ku rfl (Ku rfl (Ku rfl (Ku rfl (Ks oq rfl (Pt oq rfl ?_))))))));clear H;intro a H;refine TF (_) _ _ ?_ (by exact H.sub ⟨rfl,rfl,rfl,rfl,av⟩);clear hst lq hnm hcs;(try clear hq1);(try clear hq2);(try clear hq3);(try clear hq0);(try clear lg);(try clear hq4);(try clear iB);(try clear iF);(try clear iG);simp_all
  intro oq a H
  try have M0:=dF oq
  refine kH H (YF gH oq rfl (YO aD 0 oq rfl (YC oq rfl (YM oq rfl (Sp 102 rfl ?_ ?_))))) <;> clear H
  ·intro Bo a H
   try have anw:=dT Bo
   refine kH H (YF Bh Bo rfl (YO jy 0 Bo rfl (YL jM Bo rfl (YC Bo rfl (PT oq Bo rfl (Pf oq rfl ?_))))));clear H;intro a H;refine TF (_) _ _ ?_ (by exact H.sub ⟨rfl,rfl,rfl,rfl,av⟩);clear hst lq hnm hcs;(try clear hq1);(try clear hq2);(try clear hq3);(try clear hq0);(try clear lg);(try clear hq4);(try clear iB);(try clear iF);(try clear iG);simp_all
  intro Bo a H
  try have anw:=dF Bo
  refine kH H (aT Bo rfl (aT Bo rfl (PF oq Bo rfl (Pf oq rfl ?_))));clear H;intro a H;refine TF (_) _ _ ?_ (by exact H.sub ⟨rfl,rfl,rfl,rfl,av⟩);clear hst lq hnm hcs;(try clear hq1);(try clear hq2);(try clear hq3);(try clear hq0);(try clear lg);(try clear hq4);(try clear iB);(try clear iF);(try clear iG);simp_all
 clear H;intro q4 a w hI H;dsimp only [lca,aO] at H;simp only [mG,jU];have hq4:=hI;refine mU (ι:=Bool) (Tc:=[(1,_),(4,_),(5,_)]) 11 (fun (q5:Bool)=>[(119,.bool q5)]) (fun (q5:Bool)=>q5=wI x) (by exact H.sub ⟨rfl,rfl,rfl,av⟩) ?_ ?_
 ·intro TG;refine kH H (Rm rfl (Sp 109 rfl ?_ ?_)) <;> clear H
  ·intro nL a H
   try have Vt:=dT nL
   refine kH H (aT nL rfl (aT nL rfl (Ku rfl (Ku rfl (Ku rfl (Ku rfl (Ks nL rfl (Pt nL rfl ?_))))))));clear H;intro a H;refine TG (_) _ _ ?_ (by exact H.sub ⟨rfl,rfl,rfl,rfl,av⟩);rw [show wI x=(q4 || decide (x.kind≠7) && decide (0 < (x.rows.length:Int))) by rw [hq4,hq3,hq2,hq1];rfl];clear hst lq hnm hcs;(try clear hq1);(try clear hq2);(try clear hq3);(try clear hq0);(try clear lg);(try clear hq4);(try clear iB);(try clear iF);(try clear iG);simp_all
  intro nL a H
  try have Vt:=dF nL
  refine kH H (YF gH nL rfl (YO aD 0 nL rfl (YC nL rfl (YM nL rfl (Sp 113 rfl ?_ ?_))))) <;> clear H
  ·intro rD a H
   try have FI:=dT rD
   refine kH H (YF qH rD rfl (YO qR 0 rD rfl (YL jG rD rfl (YC rD rfl (PT nL rD rfl (Pf nL rfl ?_))))));clear H;intro a H;refine TG (_) _ _ ?_ (by exact H.sub ⟨rfl,rfl,rfl,rfl,av⟩);rw [show wI x=(q4 || decide (x.kind≠7) && decide (0 < (x.rows.length:Int))) by rw [hq4,hq3,hq2,hq1];rfl];clear hst lq hnm hcs;(try clear hq1);(try clear hq2);(try clear hq3);(try clear hq0);(try clear lg);(try clear hq4);(try clear iB);(try clear iF);(try clear iG);simp_all
  intro rD a H
  try have FI:=dF rD
  refine kH H (aT rD rfl (aT rD rfl (PF nL rD rfl (Pf nL rfl ?_))));clear H;intro a H;refine TG (_) _ _ ?_ (by exact H.sub ⟨rfl,rfl,rfl,rfl,av⟩);rw [show wI x=(q4 || decide (x.kind≠7) && decide (0 < (x.rows.length:Int))) by rw [hq4,hq3,hq2,hq1];rfl];clear hst lq hnm hcs;(try clear hq1);(try clear hq2);(try clear hq3);(try clear hq0);(try clear lg);(try clear hq4);(try clear iB);(try clear iF);(try clear iG);simp_all
 clear H;intro q5 a w hI H;dsimp only [lca,aO] at H;simp only [mG,jU];have iB:=hI;refine kH H (ak bQ rfl (Cd rfl ?_ ?_)) <;> clear H bQ
 ·intro h68 a H
  refine aN (fun _ bR=>?_)
  have e:jE x=15:=by unfold jE;rw [ah f0,au (by rw [← iB];exact h68)]
  exact kP H (SC (aL bR rfl (LR results52 rfl fun H=>H.rt ⟨by rw [e],rfl⟩)))
 intro h68 a H
 try have p68:=dF h68
 have f1:¬ wI x=true:=by rw [← iB,h68];decide
 refine kP H (SR fun _ bW=>aR vF gZ 0 rfl rfl ?_);clear H;intro a H;refine s_call E8 H wn rfl (FY _ _ H.ro x.text hs) rfl ?_;clear H;rintro asD _ a w ⟨rfl,rfl⟩ - H;refine kH H (Rn rfl (ak bW rfl (Cd rfl ?_ ?_))) <;> clear H bW
 ·intro ny a H
  refine aN (fun _ cK=>?_)
  have e:jE x=12:=by unfold jE;rw [ah f0,ah f1,au (by simpa using ny)]
  exact kP H (SC (aL cK rfl (LR results52 rfl fun H=>H.rt ⟨by rw [e],rfl⟩)))
 intro ny a H
 try have FJ:=dF ny
 have f2:¬ qW x.text=false:=by simpa using ny
 refine cO (fun _ bY=>?_);refine mU (ι:=Bool) (Tc:=[(1,_),(4,_)]) 6 (fun (q6:Bool)=>[(131,.bool q6)]) (fun (q6:Bool)=>q6=(decide (x.kind=1∨x.kind=5) && qd x.text)) (by exact H.sub ⟨rfl,rfl,av⟩) ?_ ?_
 ·intro Mi;refine kH H (Rm rfl (Rm rfl (Sp 127 rfl ?_ ?_))) <;> clear H
  ·intro h127 a H
   try have aci:=dT h127
   refine kH H (YF vF h127 rfl (YO gZ 0 h127 rfl ?_));clear H;intro a H;refine II H (wg H rfl rfl h127) rfl rfl rfl ?_;clear H;intro a H;refine kH H (Pt h127 rfl ?_);clear H;intro a H;refine Mi (_) _ _ ?_ (by exact H.sub ⟨rfl,rfl,rfl,av⟩);rw [← lq];clear hst lq hnm hcs;(try clear hq1);(try clear hq2);(try clear hq3);(try clear hq0);(try clear lg);(try clear hq4);(try clear iB);(try clear iF);(try clear iG);simp_all [qd]
  intro h127 a H
  try have aci:=dF h127
  refine kH H (aZ h127 rfl (Pf h127 rfl ?_));clear H;intro a H;refine Mi (_) _ _ ?_ (by exact H.sub ⟨rfl,rfl,rfl,av⟩);rw [← lq];clear hst lq hnm hcs;(try clear hq1);(try clear hq2);(try clear hq3);(try clear hq0);(try clear lg);(try clear hq4);(try clear iB);(try clear iF);(try clear iG);simp_all [qd]
 clear H;intro q6 a w hI H;dsimp only [lca,aO] at H;simp only [mG,jU];have iF:=hI;refine kH H (ak bY rfl (Cd rfl ?_ ?_)) <;> clear H bY
 ·intro xW a H
  refine aN (fun _ dG=>?_)
  have e:jE x=11:=by unfold jE;rw [ah f0,ah f1,ah f2,au (by rw [← iF];exact xW)]
  exact kP H (SC (aL dG rfl (LR results52 rfl fun H=>H.rt ⟨by rw [e],rfl⟩)))
 intro xW a H
 try have ach:=dF xW
 have f3:¬ (decide (x.kind=1∨x.kind=5) && qd x.text)=true:=by rw [← iF,xW];decide
 refine cO (fun _ dN=>?_);refine mU (ι:=Bool) (Tc:=[(1,_),(4,_)]) 9 (fun (q7:Bool)=>[(141,.bool q7)]) (fun (q7:Bool)=>q7=(decide (x.kind=5) && decide (1024 < (x.text.size:Int)))) (by exact H.sub ⟨rfl,rfl,av⟩) ?_ ?_
 ·intro Mj;refine kH H (aR gH aD 0 rfl rfl (Rc rfl (Rm rfl (Sp 136 rfl ?_ ?_)))) <;> clear H
  ·intro qI a H
   try have Vw:=dT qI
   refine kH H (YF vF qI rfl (YO gZ 0 qI rfl ?_));clear H;intro a H;refine BO iD H (wg H rfl rfl qI) rfl rfl ?_;clear H;intro a H;refine kH H (YC qI rfl (Pt qI rfl ?_));clear H;intro a H;refine Mj (_) _ _ ?_ (by exact H.sub ⟨rfl,rfl,rfl,av⟩);clear hst lq hnm hcs;(try clear hq1);(try clear hq2);(try clear hq3);(try clear hq0);(try clear lg);(try clear hq4);(try clear iB);(try clear iF);(try clear iG);simp_all
  intro qI a H
  try have Vw:=dF qI
  refine kH H (aT qI rfl (aT qI rfl (Pf qI rfl ?_)));clear H;intro a H;refine Mj (_) _ _ ?_ (by exact H.sub ⟨rfl,rfl,rfl,av⟩);clear hst lq hnm hcs;(try clear hq1);(try clear hq2);(try clear hq3);(try clear hq0);(try clear lg);(try clear hq4);(try clear iB);(try clear iF);(try clear iG);simp_all
 clear H;intro q7 a w hI H;dsimp only [lca,aO] at H;simp only [mG,jU];have iG:=hI;refine kH H (ak dN rfl (Cd rfl ?_ ?_)) <;> clear H dN
 ·intro DN a H
  refine aN (fun _ dH=>?_)
  have e:jE x=10:=by unfold jE;rw [ah f0,ah f1,ah f2,ah f3,au (by rw [← iG];exact DN)]
  exact kP H (SC (aL dH rfl (LR results52 rfl fun H=>H.rt ⟨by rw [e],rfl⟩)))
 intro DN a H
 try have anz:=dF DN
 have f4:¬ (decide (x.kind=5) && decide (1024 < (x.text.size:Int)))=true:=by rw [← iG,DN];decide
 refine cO (fun _ dP=>?_);refine mU (ι:=Bool) (Tc:=[]) 7 (fun (q8:Bool)=>[(149,.bool q8)]) (fun (q8:Bool)=>q8=(Ay x && !oV x.text)) (by exact H.sub trivial) ?_ ?_
 ·intro ZO;refine kH H (Rm rfl (Rm rfl (Sp 144 rfl ?_ ?_))) <;> clear H
  ·intro wL a H
   try have Vy:=dT wL
   refine kH H (YF vF wL rfl (YO gZ 0 wL rfl ?_));clear H;intro a H;refine s_call LJ H (wg H rfl rfl wL) rfl (Ls _ _ H.ro x.text hs) rfl ?_;clear H;rintro asK _ a w ⟨rfl,rfl⟩ - H;refine kH H (YN wL rfl (Pt wL rfl ?_));clear H;intro a H;refine ZO (_) _ _ ?_ (by exact H.sub ⟨rfl,av⟩);rw [← hst];clear hst lq hnm hcs;(try clear hq1);(try clear hq2);(try clear hq3);(try clear hq0);(try clear lg);(try clear hq4);(try clear iB);(try clear iF);(try clear iG);simp_all
  intro wL a H
  try have Vy:=dF wL
  refine kH H (aT wL rfl (aT wL rfl (Pf wL rfl ?_)));clear H;intro a H;refine ZO (_) _ _ ?_ (by exact H.sub ⟨rfl,av⟩);rw [← hst];clear hst lq hnm hcs;(try clear hq1);(try clear hq2);(try clear hq3);(try clear hq0);(try clear lg);(try clear hq4);(try clear iB);(try clear iF);(try clear iG);simp_all
 clear H;intro q8 a w hI H;dsimp only [lca,aO] at H;simp only [mG,jU];have hq8:=hI;refine kH H (ak dP rfl (Cd rfl ?_ ?_)) <;> clear H dP
 ·intro S9 a H
  refine aN (fun _ eT=>?_)
  have e:jE x=13:=by unfold jE;rw [ah f0,ah f1,ah f2,ah f3,ah f4,au (by rw [← hq8];exact S9)]
  exact kP H (SC (aL eT rfl (LR results52 rfl fun H=>H.rt ⟨by rw [e],rfl⟩)))
 intro S9 a H
 refine fT ?_;refine aU _ _ ?_;clear aU;refine aN (fun _ fP=>?_)
 have e:jE x=0:=by unfold jE;rw [ah f0,ah f1,ah f2,ah f3,ah f4,ah (by rw [← hq8,S9];decide)]
 exact kP H (SC (aL fP rfl (LR results52 rfl fun H=>H.rt ⟨by rw [e],rfl⟩)))
end
section
open Go.RowKit
theorem Oe:∀ args w,(callFunc 43 args).run prog w=.ok (.enter 43 args) w:=enters func43 rfl (by kernel_rfl)
theorem Y9:∀ args w,(callFunc 54 args).run prog w=.ok (.enter 54 args) w:=enters func54 rfl (by kernel_rfl)
theorem RJ:∀ args w,(callFunc 16 args).run prog w=.ok (.enter 16 args) w:=enters func16 rfl (by kernel_rfl)
abbrev XM (D:jP) (b:Nat) (L0:OL) (r:CR):aj→OL→Prop:=fun u L'=>∃ v' L1 s',u=vi r.1∧L'=iR D b v' s'.n :: L1∧xJ v' s'.aY L1 L0∧(r.1=0→s'=r.2)
def Np (m:Nat):Prop:=∀ (G:GH) (L L0:OL) (w0:World) (D:jP) (st:List bS) (li:List dR) (rv:List dU) (b:Nat) (v:aj) (s:CS) (l:List aC) (u:aj) (body note:Bool) (t:Int),
 Ca G D st li rv→Gy st li rv→xJ v s.aY L L0→iT G (iR D b v s.n :: L) w0→aB G (.sl 11 (l.map aC.dat)) u→bB l < m→0≤t→t≤4→0≤s.n→s.n+(bB l:Nat)≤1099511627776→s.aY.length+bB l < 1099511627776 →
 Calls prog 16 #[(aP b 0),u,.bool body,.bool note,vi t] w0 (iE w0 G (iR D b v s.n :: L) fun u G' L'=>G=G'∧XM D b L0 (gU (aK st li rv) body note t l s) u L')
theorem PK (G:GH) (L:OL) (w0:World) (D:jP) (st:List bS) (li:List dR) (rv:List dU) (b:Nat) (v:aj) (n:Int) (hck:Ca G D st li rv) (hmz:Gy st li rv) (hO:iT G (iR D b v n :: L) w0)
  (e:Int) (h:dz) (p d l:aj) (hh:nS G h p d l) (hz:pU h≤4294967296) :
  Calls prog 43 #[(aP b 0),vi e,Fq h p d l] w0 (iE w0 G (iR D b v n :: L) fun u G' L'=>G=G'∧L'=iR D b v n :: L∧u=vi (fI (aK st li rv) e h)):=by
 have hm:=GH.GI G (o:=(iR D b v n).2) (hO.sep _ jg);exact (amI (G.add b (iR D b v n).2) w0 hO.add D st li rv b v n (hck.mono hm) hmz (GH.GJ _ _ _) e h p d l (hh.mono hm) hz).mono fun _ _=>VR (b:=b) (o:=(iR D b v n).2) (R':=fun u=>u=vi (fI (aK st li rv) e h)) hO fun _ _ h=>h
theorem aos {C:eZ} {h:dz} {n:Nat} (e:fI C 9 h≠0):sO C h n=fI C 9 h:=by simp [sO,bO,e]
theorem aot {C:eZ} {h:dz} {n:Nat} (e:fI C 9 h=0) (h0:n=0):sO C h n=11:=by simp [sO,bO,e,h0,bL]
theorem aou {C:eZ} {h:dz} {n:Nat} (e:fI C 9 h=0) (h0:n≠0) (h1:32 < n):sO C h n=9:=by
 have h2:¬ (n:Int)=0:=by omega
 have h3:(32:Int) < n:=by omega
 simp only [sO,bO,e,bL,iV h2,iq h3];decide
theorem aov {C:eZ} {h:dz} {n:Nat} (e:fI C 9 h=0) (h0:n≠0) (h1:¬ 32 < n):sO C h n=0:=by
 have h2:¬ (n:Int)=0:=by omega
 have h3:¬ (32:Int) < n:=by omega
 simp only [sO,bO,e,bL,iV h2,iV h3];decide
set_option maxHeartbeats 4000000 in
theorem amN {m:Nat} (ih:Np m) (hm:m≤4294967296) (G:GH) (L L0:OL) (w0:World) (D:jP) (st:List bS) (li:List dR) (rv:List dU) (b:Nat) (v:aj) (s:CS) (l:List bH) (u:aj) (note:Bool) (t:Int)
  (hck:Ca G D st li rv) (hmz:Gy st li rv) (hi:xJ v s.aY L L0) (hO:iT G (iR D b v s.n :: L) w0) (hv:aB G (.sl 6 (l.map bH.dat)) u) (hz:eG l < m) (ht0:0≤t) (BG:t≤4) (hs0:0≤s.n) (hs1:s.n+(eG l:Nat)≤1099511627776) (hs2:s.aY.length+eG l < 1099511627776) :
  Calls prog 55 #[(aP b 0),u,.bool note,vi t] w0 (iE w0 G (iR D b v s.n :: L) fun u G' L'=>G=G'∧XM D b L0 (kD l.length (fun s=>gN (aK st li rv) note t l s) s) u L'):=by
 obtain ⟨A,c,rfl,hc1,hc2,hg⟩:=hv.slice;rw [bN] at *;have hll:=Dh l;obtain ⟨R,hR⟩:∃ R,R=kD l.length (fun s=>gN (aK st li rv) note t l s) s:=⟨_,rfl⟩;rw [← hR];refine kS (N:=97) (T:=[(0,_),(1,_),(2,_),(3,_)]) func55 rfl ntmps55 rfl rfl hO ?_;intro a H;refine kP H (SR fun _ K1=>ak K1 rfl (SQ fun _ K2=>SB (SR fun _ K3=>Rm rfl (Rl jG rfl (Rc rfl (ak K3 rfl (Cd rfl ?_ ?_))))))) <;> clear H K1 K3
 ·intro h16 a H
  try have p16:=dT h16
  refine aN (fun _ K4=>?_)
  have hF:R.1=11:=by rw [hR,kD,au (by omega)]
  exact kP H (SC (aL K4 rfl (LR results55 rfl fun H=>H.hp.bU (L':=iR D b v s.n :: L) (by repeat (first|exact cu _|apply List.Sublist.cons)) ⟨rfl,v,L,s,ay vi hF.symm,rfl,hi,fun h=>absurd (hF.symm.trans h) (by decide)⟩)))
 intro h16 a H
 try have p16:=dF h16
 refine kP H (SR fun _ K5=>Rm rfl (Rl jG rfl (Rc rfl (ak K5 rfl (Cd rfl ?_ ?_))))) <;> clear H K5
 ·intro h20 a H
  try have qP:=dT h20
  refine aN (fun _ K6=>?_)
  have hF:R.1=9:=by rw [hR,kD,ah (by omega),au (by omega)]
  exact kP H (SC (aL K6 rfl (LR results55 rfl fun H=>H.hp.bU (L':=iR D b v s.n :: L) (by repeat (first|exact cu _|apply List.Sublist.cons)) ⟨rfl,v,L,s,ay vi hF.symm,rfl,hi,fun h=>absurd (hF.symm.trans h) (by decide)⟩)))
 intro h20 a H
 try have qP:=dF h20
 rw [kD,ah (by omega),ah (by omega)] at hR;refine kP H (Kc K2 (SQ fun _ K7=>SR fun _ K8=>ak K8 rfl (SB ?_)));clear H K2 K8;intro a H;skip;refine dV (ι:=Nat × CS × aj × OL) (Tc:=[(0,_),(1,_),(2,_),(3,_)]) (Lc:=[]) (fun gh=>[(9,vi gh.1)]) (fun gh=>[iR D b gh.2.2.1 gh.2.1.n]++gh.2.2.2) (fun gh=>G) (fun gh=>gh.1≤l.length∧gN (aK st li rv) note t (l.drop gh.1) gh.2.1=R∧xJ gh.2.2.1 gh.2.1.aY gh.2.2.2 L0∧0≤gh.2.1.n∧gh.2.1.n+(eG (l.drop gh.1):Nat)≤1099511627776∧gh.2.1.aY.length+eG (l.drop gh.1) < 1099511627776) (fun gh=>l.length - gh.1) ((0,s,v,L)) (by exact (H).sub ⟨rfl,rfl,rfl,rfl,rfl,av⟩) ?_ ?_
 ·exact ⟨fQ _,hR.symm,hi,hs0,hs1,hs2⟩
 clear H;rintro ⟨k,s1,v1,L1⟩ a w hI H;dsimp only at hI H;obtain ⟨hk,hX,hv1,hn0,hn1,hn2⟩:=hI;dsimp only [lca,aO] at H;refine kP H (SQ fun _ K9=>SR fun _ aU=>Rm rfl (Rm rfl (Rl jG rfl (Rc rfl (Kz aU (Cd rfl ?_ ?_)))))) <;> clear H aU
 ·intro h27 a H
  try have p27:=dT h27
  have hk2:k < l.length:=by omega
  obtain ⟨o,xo,pA,pn,pc,dA,dn,dc,yA,yn,yc,cA,cn,cc,rfl,hrow,hhd,hcl⟩:=CW hk2 hg;have hcn:=hcl.len;rw [bN] at hcn;subst hcn;obtain ⟨_,cc',hce,ajP,arH,hcg⟩:=hcl.slice
  injection hce with e1 e2 e3
  subst e1;subst e3;rw [bN] at ajP;have hzs:=Qz hk2;have hzi:=tY l[k];have Ee:=aeg (jD hk2);have ajS:=Dc l[k].cells;rw [aow hk2,IC] at hX
  have rh:∀ (j:Nat) (u:aj),[.slice pA pn pc,vi l[k].head.marks.ins,vi l[k].head.marks.move,.slice dA dn dc,.slice yA yn yc][j]?=some u→aF G o (xo+k*6+0+j)=some u:=by
   intro j u hj;refine hrow j u ?_
   match j,hj with
   | 0,hj=>exact hj
   | 1,hj=>exact hj
   | 2,hj=>exact hj
   | 3,hj=>exact hj
   | 4,hj=>exact hj
   | n+5,hj=>simp at hj
  have rc:aF G o (xo+k*6+5)=some (.slice cA l[k].cells.length cc):=hrow 5 _ rfl
  have hEr:∀ e,e≠0→sO (aK st li rv) l[k].head l[k].cells.length=e→R.1=e:=fun e h1 h2=>by
   rw [← hX,uq (r:=(sO (aK st li rv) l[k].head l[k].cells.length,s1)) (by dsimp only;rw [h2];exact h1)];rw [uq (by dsimp only;rw [h2];exact h1)];exact h2
  refine kP H (Kc K9 (SQ fun _ bD=>SB (SQ fun _ bE=>SR fun _ bQ=>Rm rfl (Rm rfl (Rm rfl (Ri jG jJ rfl rfl (Rf GU rfl ?_)))))));clear H K9;intro a H;refine bK lU (cs:=[.slice pA pn pc,vi l[k].head.marks.ins,vi l[k].head.marks.move,.slice dA dn dc,.slice yA yn yc]) H wn rfl rfl (fun j v hj=>H.hp.aF (rh j v hj)) rfl ?_;clear H;intro a H;refine gW Oe (Li:=[]) (L:=iR D b v1 s1.n :: L1) H wn rfl (PK _ _ _ D st li rv b v1 s1.n hck hmz (Hp.owns (Li:=[]) H.hp) 9 l[k].head _ _ _ hhd (by omega)) rfl ?_;clear H;rintro v36 _ _ a w ⟨rfl,rfl,rfl⟩ - H;dsimp only [List.nil_append] at H;refine kH H (ak bQ rfl (SR fun _ bR=>Rm rfl (Rc rfl (Kz bR (Cd rfl ?_ ?_))))) <;> clear H bQ bR
  ·intro Tg a H
   try have p38:=dT Tg
   refine aN (fun _ bW=>?_);have hF:=hEr _ p38 (aos p38);exact kP H (SC (Rm rfl (aL bW rfl (LR results55 rfl fun H=>H.hp.bU (L':=iR D b v1 s1.n :: L1) (by repeat (first|exact cu _|apply List.Sublist.cons)) ⟨rfl,v1,L1,s1,ay vi hF.symm,rfl,hv1,fun h=>absurd (hF.symm.trans h) p38⟩))))
  intro Tg a H
  try have p38:=dF Tg
  have e1:fI (aK st li rv) 9 l[k].head=0:=gL.1 p38;refine kP H (Kc bE (SQ fun _ cK=>SB (SR fun _ bY=>Rm rfl (Rm rfl (Ri jG jJ rfl rfl (Rf qh rfl (Rg qy rfl rc (Rl lQ rfl (Rc rfl (ak bY rfl (Cd rfl ?_ ?_))))))))))) <;> clear H bE bY
  ·intro qJ a H
   try have p40:=dT qJ
   refine aN (fun _ dG=>?_);have hF:=hEr 11 (by decide) (aot e1 (by omega));exact kP H (SC (aL dG rfl (LR results55 rfl fun H=>H.hp.bU (L':=iR D b v1 s1.n :: L1) (by repeat (first|exact cu _|apply List.Sublist.cons)) ⟨rfl,v1,L1,s1,ay vi hF.symm,rfl,hv1,fun h=>absurd (hF.symm.trans h) (by decide)⟩)))
  intro qJ a H
  try have p40:=dF qJ
  refine kP H (SR fun _ dN=>Rm rfl (Rm rfl (Ri jG jJ rfl rfl (Rf qh rfl (Rg qy rfl rc (Rl lQ rfl (Rc rfl (ak dN rfl (Cd rfl ?_ ?_))))))))) <;> clear H dN
  ·intro h48 a H
   try have p48:=dT h48
   refine aN (fun _ dH=>?_);have hF:=hEr 9 (by decide) (aou e1 (by omega) (by omega));exact kP H (SC (aL dH rfl (LR results55 rfl fun H=>H.hp.bU (L':=iR D b v1 s1.n :: L1) (by repeat (first|exact cu _|apply List.Sublist.cons)) ⟨rfl,v1,L1,s1,ay vi hF.symm,rfl,hv1,fun h=>absurd (hF.symm.trans h) (by decide)⟩)))
  intro h48 a H
  try have p48:=dF h48
  rw [tq (r:=(sO (aK st li rv) l[k].head l[k].cells.length,s1)) (aov e1 (by omega) (by omega))] at hX;dsimp only at hX;refine kP H (Kc cK (SR fun _ dP=>ak dP rfl (SB ?_)));clear H cK dP;intro a H;skip;refine dV (ι:=Nat × CS × aj × OL) (Tc:=[(0,_),(1,_),(2,_),(3,_),(9,_)]) (Lc:=[]) (fun gh=>[(11,vi gh.1)]) (fun gh=>[iR D b gh.2.2.1 gh.2.1.n]++gh.2.2.2) (fun gh=>G) (fun gh=>gh.1≤l[k].cells.length∧mI (aK st li rv) note t (l[k].cells.drop gh.1) gh.2.1=mI (aK st li rv) note t l[k].cells s1∧xJ gh.2.2.1 gh.2.1.aY gh.2.2.2 L0∧0≤gh.2.1.n∧gh.2.1.n+(iC (l[k].cells.drop gh.1):Nat)≤s1.n+(iC l[k].cells:Nat)∧gh.2.1.aY.length+iC (l[k].cells.drop gh.1)≤s1.aY.length+iC l[k].cells) (fun gh=>l[k].cells.length - gh.1) ((0,s1,v1,L1)) (by exact (H).sub ⟨rfl,rfl,rfl,rfl,rfl,rfl,av⟩) ?_ ?_
  ·exact ⟨fQ _,rfl,hv1,hn0,Int.le_refl _,dB _⟩
  clear H;rintro ⟨j,s2,v2,L2⟩ a w hI H;dsimp only at hI H;obtain ⟨hj,hY,hv2,hm0,hm1,hm2⟩:=hI;dsimp only [lca,aO] at H;refine kP H (SQ fun _ eT=>SR fun _ fP=>Rm rfl (Rm rfl (Rm rfl (Ri jG jJ rfl rfl (Rf qh rfl (Rg qy rfl rc (Rl lQ rfl (Rc rfl (Kz fP (Cd rfl ?_ ?_)))))))))) <;> clear H fP
  ·intro h63 a H
   try have p63:=dT h63
   have hj2:j < l[k].cells.length:=by omega
   obtain ⟨o2,xo2,pA2,pn2,pc2,Yx,YH,YA,yA2,yn2,yc2,fA2,fn2,fc2,rfl,hrow2,Mw,Uo⟩:=AY hj2 hcg;have alR:=WO hj2;have alQ:=uX l[k].cells[j];have arY:=aec (jD hj2);rw [afm hj2,Aa] at hY
   have oJ:∀ e s9,e≠0→cellC (aK st li rv) note t l[k].cells[j] s2=(e,s9)→R.1=e:=fun e s9 h1 h2=>by
    rw [Aa] at h2;rw [h2,uq (by exact h1)] at hY;rw [← hX,← hY,uq (by exact h1)]
   refine kP H (Kc eT (SQ fun _ gq=>SB (SR fun _ gG=>Rm rfl (Rm rfl (Ri jG jJ rfl rfl (Rf qh rfl (Rg qy rfl rc (Rm rfl (Ri lQ jK rfl rfl ?_)))))))));clear H eT;intro a H;refine bK jK (cs:=[vi l[k].cells[j].id,.slice pA2 pn2 pc2,vi l[k].cells[j].head.marks.ins,vi l[k].cells[j].head.marks.move,.slice Yx YH YA,.slice yA2 yn2 yc2,.slice fA2 fn2 fc2]) H wn rfl rfl (fun j v hj=>H.hp.aF (hrow2 j v hj)) rfl ?_;clear H;intro a H;refine dY jK H wn rfl ?_;clear H;intro b12 a w D5 H;refine bT jK 0 (vs:=[_,_,_,_,_,_,_]) _ H wn rfl rfl rfl rfl rfl rfl rfl rfl ?_;clear H;intro w H;dsimp only [List.set,setRow] at H;refine gG _ _ ?_;clear gG;refine kP H (SQ fun _ iP=>SR fun _ jm=>Rm rfl (aR DC aD 0 rfl rfl ?_));clear H;intro a H;refine gW Y9 (Li:=[_]) (L:=iR D b v2 s2.n :: L2) H wn rfl (abK _ _ L0 _ D b v2 s2 l[k].cells[j].id hv2 (Hp.owns (Li:=[_]) H.hp) (by omega)) rfl ?_;clear H;rintro v77 _ _ a w ⟨rfl,v3,L3,rfl,rfl,hv3⟩ - H;dsimp only [lca,aO] at H;refine kH H (ak jm rfl (SR fun _ iH=>Rm rfl (Rc rfl (Kz iH (Cd rfl ?_ ?_))))) <;> clear H jm iH
   ·intro iZ a H
    try have zH:=dT iZ
    refine aN (fun _ kW=>?_);have hF:=oJ (jo s2 l[k].cells[j].id).1 _ zH (by rw [Aa,uq zH]);exact kP H (SC (Rm rfl (aL kW rfl (LR results55 rfl fun H=>H.hp.bU (L':=iR D b v3 s2.n :: L3) (by repeat (first|exact cu _|apply List.Sublist.cons)) ⟨rfl,v3,L3,⟨s2.n,(jo s2 l[k].cells[j].id).2.aY⟩,ay vi hF.symm,rfl,hv3,fun h=>absurd (hF.symm.trans h) zH⟩))))
   intro iZ a H
   try have zH:=dF iZ
   have Ob:(jo s2 l[k].cells[j].id).1=0:=gL.1 zH;have hub:=Qq s2 l[k].cells[j].id
   unfold kQ at hub
   obtain ⟨s3,hs3⟩:∃ s3,s3=(jo s2 l[k].cells[j].id).2:=⟨_,rfl⟩
   have JX:s3.n=s2.n:=by rw [hs3];rfl
   rw [← hs3] at hv3 hub;rw [← JX] at H;refine kP H (Kc iP (SQ fun _ kX=>SR fun _ jQ=>Rm rfl (Rf LM rfl ?_)));clear H iP;intro a H;refine bK lU (cs:=[.slice pA2 pn2 pc2,vi l[k].cells[j].head.marks.ins,vi l[k].cells[j].head.marks.move,.slice Yx YH YA,.slice yA2 yn2 yc2]) H wn rfl rfl (H.hp.fG 0 rfl rfl) rfl ?_;clear H;intro a H;refine gW Oe (Li:=[_]) (L:=iR D b v3 s3.n :: L3) H wn rfl (PK _ _ _ D st li rv b v3 s3.n hck hmz (Hp.owns (Li:=[_]) H.hp) 10 l[k].cells[j].head _ _ _ Mw (by omega)) rfl ?_;clear H;rintro v84 _ _ a w ⟨rfl,rfl,rfl⟩ - H;dsimp only [lca,aO] at H;refine kH H (ak jQ rfl (SR fun _ lC=>Rm rfl (Rc rfl (Kz lC (Cd rfl ?_ ?_))))) <;> clear H jQ lC
   ·intro Ti a H
    try have MW:=dT Ti
    refine aN (fun _ lD=>?_);have hF:=oJ (fI (aK st li rv) 10 l[k].cells[j].head) s3 MW (by rw [Aa,tq Ob,← hs3,uq (by exact MW)]);exact kP H (SC (Rm rfl (aL lD rfl (LR results55 rfl fun H=>H.hp.bU (L':=iR D b v3 s3.n :: L3) (by repeat (first|exact cu _|apply List.Sublist.cons)) ⟨rfl,v3,L3,s3,ay vi hF.symm,rfl,hv3,fun h=>absurd (hF.symm.trans h) MW⟩))))
   intro Ti a H
   try have MW:=dF Ti
   have e86:fI (aK st li rv) 10 l[k].cells[j].head=0:=gL.1 MW;refine kP H (Kc kX (SR fun _ lX=>Rm rfl (aR Cn jy 0 rfl rfl (Rm rfl (Rm rfl ?_)))));clear H kX;intro a H;refine gW RJ (Li:=[_]) (L:=iR D b v3 s3.n :: L3) H wn rfl (ih _ _ L0 _ D st li rv b v3 s3 l[k].cells[j].flow _ false note t hck hmz hv3 (Hp.owns (Li:=[_]) H.hp) Uo (by omega) ht0 BG (by omega) (by omega) (by omega)) rfl ?_;clear H;rintro v93 _ _ a w ⟨rfl,v5,L5,s5,rfl,rfl,hv5,h5⟩ - H;dsimp only [lca,aO] at H
   have ZX:cellC (aK st li rv) note t l[k].cells[j] s2=gU (aK st li rv) false note t l[k].cells[j].flow s3:=by rw [Aa,tq Ob,← hs3,tq (r:=(fI (aK st li rv) 10 l[k].cells[j].head,s3)) e86]
   refine kH H (ak lX rfl (SR fun _ lY=>Rm rfl (Rc rfl (Kz lY (Cd rfl ?_ ?_))))) <;> clear H lX lY
   ·intro Hl a H
    try have Em:=dT Hl
    refine aN (fun _ lZ=>?_);have hF:=oJ _ _ Em ZX;exact kP H (SC (Rm rfl (aL lZ rfl (LR results55 rfl fun H=>H.hp.bU (L':=iR D b v5 s5.n :: L5) (by repeat (first|exact cu _|apply List.Sublist.cons)) ⟨rfl,v5,L5,s5,ay vi hF.symm,rfl,hv5,fun h=>absurd (hF.symm.trans h) Em⟩))))
   intro Hl a H
   try have Em:=dF Hl
   have YQ:=gL.1 Em;have hs5:=h5 YQ
   have hcell:cellC (aK st li rv) note t l[k].cells[j] s2=(0,s5):=by rw [ZX,hs5,← YQ]
   obtain ⟨z1,z2,z3⟩:=aeY hcell
   have hC:mI (aK st li rv) note t (l[k].cells.drop (j+1)) s5=mI (aK st li rv) note t l[k].cells s1:=by
    rw [Aa] at hcell;rw [hcell,tq rfl] at hY;exact hY
   refine kP H (Kc gq (SC (Rm rfl (Rd rfl (Ra rfl ?_)))));clear H gq;intro a H;refine aH ?_;refine cB ((j+1,s5,v5,L5)) (by exact (H.dx (Pl:=[_,_]) (bZ:=[_]) [1] (by decide) rfl).sub ⟨rfl,rfl,rfl,rfl,rfl,rfl,av⟩) ?_ ?_
   ·(try dsimp only);exact ⟨by omega,hC,hv5,by omega,by omega,by omega⟩
   first|omega|(dsimp only;omega)
  intro h63 a H
  try have p63:=dF h63
  have hj3:l[k].cells.drop j=[]:=eU (by omega);rw [hj3,mI] at hY;rw [← hY,tq rfl] at hX;have hB:gN (aK st li rv) note t (l.drop (k+1)) s2=gN (aK st li rv) note t (l.drop (k+1)) s2:=rfl;rw [hj3] at hm1 hm2;have hz0:iC []=0:=rfl;refine dJ ?_;refine bD _ _ ?_;clear bD;refine kP H (SC (Rm rfl (Rd rfl (Ra rfl ?_))));clear H;intro a H;refine aH ?_;refine cB ((k+1,s2,v2,L2)) (by exact (H).sub ⟨rfl,rfl,rfl,rfl,rfl,av⟩) ?_ ?_
  ·(try dsimp only);exact ⟨by omega,by rw [hB];exact hX,hv2,by omega,by omega,by omega⟩
  first|omega|(dsimp only;omega)
 intro h27 a H
 try have p27:=dF h27
 have hk3:l.drop k=[]:=eU (by omega);rw [hk3,gN] at hX;refine dJ ?_;refine K7 _ _ ?_;clear K7;exact kP H (SR fun _ mV=>ak mV rfl (LR results55 rfl fun H=>H.hp.gB ⟨rfl,v1,L1,s1,ay vi (by rw [← hX]),rfl,hv1,fun _=>by rw [← hX]⟩))
end
section
open Go.RowKit
theorem ahH:∀ args w,(callFunc 55 args).run prog w=.ok (.enter 55 args) w:=enters func55 rfl (by kernel_rfl)
theorem ahG:∀ args w,(callFunc 52 args).run prog w=.ok (.enter 52 args) w:=enters func52 rfl (by kernel_rfl)
theorem Sk:dL prog 56 3 13:=⟨by kernel_rfl⟩
theorem anV {body note:Bool} {t k i:Int} {s:CS} {q:Bool} (hq:q=(decide (k=3) && !body || decide (k=6) && note)) (h:q=true):kr body note t k i s=(19,s):=by
 subst hq
 unfold kr
 rcases Bool.or_eq_true_iff.1 h with h|h
 ·obtain ⟨h1,h2⟩:=Bool.and_eq_true_iff.1 h;rw [au (oU h1),h2];rfl
 obtain ⟨h1,h2⟩:=Bool.and_eq_true_iff.1 h;have h3:=oU h1;subst h3;rw [ah (by decide),au rfl,h2];rfl
theorem anY {body note:Bool} {t k i:Int} {s:CS} (h:¬ (decide (k=3) && !body || decide (k=6) && note)=true) (h7:k=7→¬ 4≤t) (h8:k=8→1≤i∧i≤1073741824):kr body note t k i s=if k=6∨k=7 then jo s i else (0,s):=by
 unfold kr
 by_cases k3:k=3
 ·subst k3;rw [au rfl,ah (by decide)]
  cases body
  ·exact absurd rfl h
  rfl
 rw [ah k3]
 by_cases k6:k=6
 ·subst k6;rw [au rfl,au (by decide)]
  cases note
  ·exact tq rfl
  exact absurd (by simp) h
 rw [ah k6]
 by_cases k7:k=7
 ·subst k7;rw [au rfl,au (by decide),show bL (decide (4≤t)) 17=0 by rw [bL,ah (by simpa using h7 rfl)]];exact tq rfl
 rw [ah k7,ah (show ¬ (k=6∨k=7) by omega)]
 by_cases k8:k=8
 ·rw [au k8,iq (h8 k8)];rfl
 rw [ah k8]
theorem anT {body note:Bool} {t i:Int} {s:CS} (h:4≤t):kr body note t 7 i s=(17,s):=by
 unfold kr
 rw [ah (by decide),ah (by decide),au rfl,iq h];rfl
theorem anU {body note:Bool} {t i:Int} {s:CS} (h:¬ (1≤i∧i≤1073741824)):kr body note t 8 i s=(18,s):=by
 unfold kr
 rw [ah (by decide),ah (by decide),ah (by decide),au rfl,iV h];rfl
set_option maxHeartbeats 8000000 in
theorem amG {m:Nat} (ih:Np m) (hm:m≤4294967296):Np (m+1):=by
 intro G L L0 w0 D st li rv b v s l u body note t hck hmz hi hO hv hz ht0 BG hs0 hs1 hs2;obtain ⟨A,c,rfl,hc1,hc2,hg⟩:=hv.slice;rw [bN] at *;have hll:=Dg l;obtain ⟨R,hR⟩:∃ R,R=gU (aK st li rv) body note t l s:=⟨_,rfl⟩;rw [← hR];refine kS (N:=139) (T:=[(0,_),(1,_),(2,_),(3,_),(4,_)]) func16 rfl ntmps16 rfl rfl hO ?_;intro a H;refine kP H (SR fun _ K1=>ak K1 rfl (SQ fun _ K2=>SR fun _ K3=>ak K3 rfl (SB ?_)));clear H K1 K3;intro a H;skip;refine dV (ι:=Nat × CS × aj × OL) (Tc:=[(0,_),(1,_),(2,_),(3,_),(4,_)]) (Lc:=[]) (fun gh=>[(11,vi gh.1)]) (fun gh=>[iR D b gh.2.2.1 gh.2.1.n]++gh.2.2.2) (fun gh=>G) (fun gh=>gh.1≤l.length∧gU (aK st li rv) body note t (l.drop gh.1) gh.2.1=R∧xJ gh.2.2.1 gh.2.1.aY gh.2.2.2 L0∧0≤gh.2.1.n∧gh.2.1.n+(bB (l.drop gh.1):Nat)≤1099511627776∧gh.2.1.aY.length+bB (l.drop gh.1) < 1099511627776) (fun gh=>l.length - gh.1) ((0,s,v,L)) (by exact (H).sub ⟨rfl,rfl,rfl,rfl,rfl,rfl,av⟩) ?_ ?_
 ·exact ⟨fQ _,hR.symm,hi,hs0,hs1,hs2⟩
 clear H;rintro ⟨k,s1,v1,L1⟩ a w hI H;dsimp only at hI H;obtain ⟨hk,hX,hv1,hn0,hn1,hn2⟩:=hI;dsimp only [lca,aO] at H;refine kP H (SQ fun _ K4=>SR fun _ K5=>Rm rfl (Rm rfl (Rl jM rfl (Rc rfl (Kz K5 (Cd rfl ?_ ?_)))))) <;> clear H K5
 ·intro h23 a H
  try have CP:=dT h23
  have hk2:k < l.length:=by omega
  obtain ⟨o,xo,pA,pn,pc,dA,dn,dc,yA,yn,yc,fA,fn,fc,rA,rn,rc,rfl,hrow,hhd,hfl,hrw⟩:=Bl hk2 hg;have hfn:=hfl.len;rw [bN] at hfn;subst hfn;have hrn:=hrw.len;rw [bN] at hrn;subst hrn;have hzs:=Qy hk2;have hzi:=oN l[k];have Ee:=KG (jD hk2);rw [amk hk2] at hX;obtain ⟨x,hx⟩:∃ x,x=l[k]:=⟨_,rfl⟩;rw [← hx] at hX hrow hhd hfl hrw hzs hzi Ee;have hcl:=EZ x.text
  have JY:gI x≤x.text.size+1:=by unfold gI;split <;> omega
  have oJ:∀ e s9,e≠0→eP (aK st li rv) body note t x s1=(e,s9)→R.1=e:=fun e s9 h1 h2=>by rw [← hX,h2,uq (by exact h1)]
  have hN:∀ {s9},eP (aK st li rv) body note t x s1=(0,s9)→gU (aK st li rv) body note t (l.drop (k+1)) s9=R:=fun {s9} h2=>by rw [h2,tq rfl] at hX;exact hX
  have jc:=MO (aK st li rv) body note t x s1;refine kP H (Kc K4 (SQ fun _ K6=>SB (SR fun _ K7=>Rm rfl (Rm rfl (Ri jM eH rfl rfl ?_)))));clear H K4;intro a H;refine bK eH (cs:=[vi x.kind,vi x.code,vi x.id,.string x.text,.slice pA pn pc,vi x.head.marks.ins,vi x.head.marks.move,.slice dA dn dc,.slice yA yn yc,.slice fA x.flow.length fc,.slice rA x.rows.length rc]) H wn rfl rfl (fun j v hj=>H.hp.aF (hrow j v hj)) rfl ?_;clear H;intro a H;refine dY eH H wn rfl ?_;clear H;intro b12 a w D5 H;refine bT eH 0 (vs:=[_,_,_,_,_,_,_,_,_,_,_]) _ H wn rfl rfl rfl rfl rfl rfl rfl rfl ?_;clear H;intro w H;dsimp only [List.set,setRow] at H;refine K7 _ _ ?_;clear K7;refine aN (fun _ K8=>?_);refine cO (fun _ K9=>?_);refine bK eH (cs:=[vi x.kind,vi x.code,vi x.id,.string x.text,.slice pA pn pc,vi x.head.marks.ins,vi x.head.marks.move,.slice dA dn dc,.slice yA yn yc,.slice fA x.flow.length fc,.slice rA x.rows.length rc]) H wn rfl rfl (H.hp.fG 0 rfl rfl) rfl ?_;clear H;intro a H;refine s_call ahG H wn rfl (amM _ _ H.ro x _ _ _ _ _ _ _ (by omega)) rfl ?_;clear H;rintro v31 _ a w ⟨rfl,rfl⟩ - H;refine kH H (ak K9 rfl (SR fun _ aU=>Rm rfl (Rc rfl (Kz aU (Cd rfl ?_ ?_))))) <;> clear H K9 aU
  ·intro pz a H
   try have p33:=dT pz
   refine aN (fun _ bD=>?_);have hF:=oJ (jE x) s1 p33 (by rw [jc,uq (by exact p33)]);exact kP H (SC (Rm rfl (aL bD rfl (LR results16 rfl fun H=>H.hp.bU (L':=iR D b v1 s1.n :: L1) (by repeat (first|exact cu _|apply List.Sublist.cons)) ⟨rfl,v1,L1,s1,ay vi hF.symm,rfl,hv1,fun h=>absurd (hF.symm.trans h) p33⟩))))
  intro pz a H
  try have p33:=dF pz
  have e1:jE x=0:=gL.1 p33;rw [tq (r:=(jE x,s1)) e1] at jc;dsimp only at jc;refine kP H (Kc K8 (SR fun _ bE=>aR vF gZ 0 rfl rfl ?_));clear H K8;intro a H;refine s_call Og H wn rfl (NW _ _ H.ro x.text (by omega)) rfl ?_;clear H;rintro v38 _ a w ⟨rfl,rfl⟩ - H;refine kH H (Rm rfl ?_);clear H;intro a H;(iterate 2 refine nQ H wn rfl rfl rfl ?_;clear H;intro a H);refine kH H (Ra rfl (ak bE rfl ?_));clear H bE;intro a H;refine oG (ι:=Int) (Tc:=[(0,_),(1,_),(2,_),(3,_),(4,_),(11,_),(12,_)]) (Lc:=[(_,_),(_,_)]) (fun gh=>[(14,vi gh)]) (fun gh=>[]++L1) (fun gh=>G) (fun gh=>gh=(gI x:Nat)) (by exact (H).sub ⟨rfl,rfl,rfl,rfl,rfl,rfl,rfl,av⟩) ?_ ?_
  ·skip;refine kP H (SR fun _ bQ=>aR gH aD 0 rfl rfl (Rc rfl (Kz bQ (Cd rfl ?_ ?_)))) <;> clear H bQ
   ·intro h43 a H
    try have p43:=dT h43
    refine kP H (SC (Ra rfl ?_));clear H;intro a H;refine aH ?_;refine ⟨_,by exact (H).sub ⟨rfl,rfl,rfl,rfl,rfl,rfl,rfl,rfl,av⟩,?_⟩
    unfold gI;first|rw [au (by simpa using p43)]|(rw [ah (by simpa using p43)];rfl)
   intro h43 a H
   try have p43:=dF h43
   refine fT ?_;refine ⟨_,by exact (H).sub ⟨rfl,rfl,rfl,rfl,rfl,rfl,rfl,rfl,av⟩,?_⟩
   unfold gI;first|rw [au (by simpa using p43)]|(rw [ah (by simpa using p43)];rfl)
  clear H;intro un a w hI H;have hun:=hI;dsimp only [lca,aO] at H;refine kP H (SR fun _ bR=>Rm rfl (Rm rfl (Rk rfl (aR Sk aD 1 rfl rfl (Rm rfl (Rd rfl (Rk rfl (Rf Sk rfl ?_))))))));clear H;intro a H;refine bT aD 1 (vs:=[_]) _ H wn rfl rfl rfl rfl rfl rfl rfl rfl ?_;clear H;intro w H;dsimp only [List.set,setRow] at H;refine bR _ _ ?_;clear bR;refine kP H (SQ fun _ bW=>SB (SQ fun _ cK=>?_));clear H;intro a H
  have hsn:s1.n+un=s1.n+(gI x:Nat):=by omega
  rw [hsn] at H;obtain ⟨s2,hs2⟩:∃ s2:CS,s2=⟨s1.n+(gI x:Nat),s1.aY⟩:=⟨_,rfl⟩;rw [← hs2] at jc
  have aaN:s2.n=s1.n+(gI x:Nat):=by rw [hs2]
  have Pg:s2.aY=s1.aY:=by rw [hs2]
  rw [← aaN] at H;rw [← Pg] at hv1;refine rz ?_;refine mU (ι:=Bool) (Tc:=[(0,_),(1,_),(2,_),(3,_),(4,_),(11,_),(12,_)]) 15 (fun (q1:Bool)=>[(68,.bool q1)]) (fun (q1:Bool)=>q1=(decide (x.kind=3) && !body || decide (x.kind=6) && note)) (by exact H.sub ⟨rfl,rfl,rfl,rfl,rfl,rfl,rfl,av⟩) ?_ ?_
  ·intro Bv;refine kH H (aR gH aD 0 rfl rfl (Rc rfl (Rm rfl (Sp 57 rfl ?_ ?_)))) <;> clear H
   ·intro h57 a H
    try have p57:=dT h57
    refine kH H (YM h57 rfl (YN h57 rfl (Pt h57 rfl (Rm rfl (Sp 61 rfl ?_ ?_))))) <;> clear H
    ·intro pE a H
     try have p61:=dT pE
     refine kH H (aT pE rfl (aT pE rfl (Ku rfl (Ks pE rfl (Pt pE rfl ?_)))));clear H;intro a H;refine Bv (_) _ _ ?_ (by exact H.sub ⟨rfl,rfl,rfl,rfl,rfl,rfl,rfl,rfl,av⟩)
     clear jc oJ hN hX;first|(simp_all;done)|(simp_all;omega)
    intro pE a H
    try have p61:=dF pE
    refine kH H (YF gH pE rfl (YO aD 0 pE rfl (YC pE rfl (YM pE rfl (Sp 65 rfl ?_ ?_))))) <;> clear H
    ·intro kC a H
     try have p65:=dT kC
     refine kH H (YM kC rfl (PT pE kC rfl (Pf pE rfl ?_)));clear H;intro a H;refine Bv (_) _ _ ?_ (by exact H.sub ⟨rfl,rfl,rfl,rfl,rfl,rfl,rfl,rfl,av⟩)
     clear jc oJ hN hX;first|(simp_all;done)|(simp_all;omega)
    intro kC a H
    try have p65:=dF kC
    refine kH H (Ks kC rfl (PF pE kC rfl (Pf pE rfl ?_)));clear H;intro a H;refine Bv (_) _ _ ?_ (by exact H.sub ⟨rfl,rfl,rfl,rfl,rfl,rfl,rfl,rfl,av⟩)
    clear jc oJ hN hX;first|(simp_all;done)|(simp_all;omega)
   intro h57 a H
   try have p57:=dF h57
   refine kH H (aT h57 rfl (Pf h57 rfl (Rm rfl ?_)));clear H;intro a H;refine Km gH H (wg H rfl rfl rfl) rfl rfl ?_;clear H;intro a H;refine zK aD H (wg H rfl rfl rfl) rfl (H.hp.tN 0 rfl rfl) rfl ?_;clear H;intro a H;refine FP H (wg H rfl rfl rfl) rfl rfl rfl rfl ?_;clear H;intro a H;refine En H (wg H rfl rfl rfl) rfl rfl ?_;clear H;intro a H;refine V4 H 65 rfl ?_ ?_
   ·intro kC
    try have p65:=dT kC
    refine kH H (YM kC rfl ?_);clear H;intro a H;refine M7 H (wg H rfl rfl rfl) rfl kC rfl rfl ?_;clear H;intro a H;refine kH H (Pf rfl rfl ?_);clear H;intro a H;refine Bv (_) _ _ ?_ (by exact H.sub ⟨rfl,rfl,rfl,rfl,rfl,rfl,rfl,rfl,av⟩)
    clear jc oJ hN hX;first|(simp_all;done)|(simp_all;omega)
   intro kC
   try have p65:=dF kC
   refine kH H (Ks kC rfl ?_);clear H;intro a H;refine Qg H (wg H rfl rfl rfl) rfl kC rfl rfl ?_;clear H;intro a H;refine kH H (Pf rfl rfl ?_);clear H;intro a H;refine Bv (_) _ _ ?_ (by exact H.sub ⟨rfl,rfl,rfl,rfl,rfl,rfl,rfl,rfl,av⟩)
   clear jc oJ hN hX;first|(simp_all;done)|(simp_all;omega)
  clear H;intro q1 a w hI H;dsimp only [lca,aO] at H;simp only [mG,jU];have hq1:=hI;refine kH H (aL cK rfl (Cd rfl ?_ ?_)) <;> clear H cK
  ·intro dS a H
   try have p53:=dT dS
   refine aN (fun _ bY=>?_);have hF:=oJ 19 s2 (by decide) (by rw [jc,anV hq1 dS,uq (r:=(19,s2)) (show (19:Int)≠0 by decide)]);exact kP H (SC (aL bY rfl (LR results16 rfl fun H=>H.hp.bU (L':=iR D b v1 s2.n :: L1) (by repeat (first|exact cu _|apply List.Sublist.cons)) ⟨rfl,v1,L1,s2,ay vi hF.symm,rfl,hv1,fun h=>absurd (hF.symm.trans h) (by decide)⟩)))
  intro dS a H
  try have p53:=dF dS
  have UJ:¬ (decide (x.kind=3) && !body || decide (x.kind=6) && note)=true:=by rw [← hq1,dS];decide
  refine cO (fun _ dG=>?_);refine mU (ι:=Bool) (Tc:=[(0,_),(1,_),(2,_),(3,_),(4,_),(11,_),(12,_)]) 7 (fun (q2:Bool)=>[(76,.bool q2)]) (fun (q2:Bool)=>q2=(decide (x.kind=7) && decide (4≤t))) (by exact H.sub ⟨rfl,rfl,rfl,rfl,rfl,rfl,rfl,av⟩) ?_ ?_
  ·intro Mh;refine kH H (aR gH aD 0 rfl rfl (Rc rfl (Rm rfl (Sp 73 rfl ?_ ?_)))) <;> clear H
   ·intro jW a H
    try have p73:=dT jW
    refine kH H (YM jW rfl (YC jW rfl (Pt jW rfl ?_)));clear H;intro a H;refine Mh (_) _ _ ?_ (by exact H.sub ⟨rfl,rfl,rfl,rfl,rfl,rfl,rfl,rfl,av⟩)
    clear jc oJ hN hX;first|(simp_all;done)|(simp_all;omega)
   intro jW a H
   try have p73:=dF jW
   refine kH H (aT jW rfl (Pf jW rfl ?_));clear H;intro a H;refine Mh (_) _ _ ?_ (by exact H.sub ⟨rfl,rfl,rfl,rfl,rfl,rfl,rfl,rfl,av⟩)
   clear jc oJ hN hX;first|(simp_all;done)|(simp_all;omega)
  clear H;intro q2 a w hI H;dsimp only [lca,aO] at H;simp only [mG,jU];have hq2:=hI;refine kH H (ak dG rfl (Cd rfl ?_ ?_)) <;> clear H dG
  ·intro gX a H
   try have p69:=dT gX
   refine aN (fun _ dN=>?_);rw [gX] at hq2;have hq3:=Bool.and_eq_true_iff.1 hq2.symm;have hF:=oJ 17 s2 (by decide) (by rw [jc,oU hq3.1,anT (oU hq3.2),uq (r:=(17,s2)) (show (17:Int)≠0 by decide)]);exact kP H (SC (aL dN rfl (LR results16 rfl fun H=>H.hp.bU (L':=iR D b v1 s2.n :: L1) (by repeat (first|exact cu _|apply List.Sublist.cons)) ⟨rfl,v1,L1,s2,ay vi hF.symm,rfl,hv1,fun h=>absurd (hF.symm.trans h) (by decide)⟩)))
  intro gX a H
  try have p69:=dF gX
  have O8:x.kind=7→¬ 4≤t:=fun h1 h2=>by rw [gX,iq h1,iq h2] at hq2;cases hq2
  refine cO (fun _ dH=>?_);refine mU (ι:=Bool) (Tc:=[(0,_),(1,_),(2,_),(3,_),(4,_),(11,_),(12,_)]) 13 (fun (q3:Bool)=>[(90,.bool q3)]) (fun (q3:Bool)=>q3=(decide (x.kind=8) && !decide (1≤x.id∧x.id≤1073741824))) (by exact H.sub ⟨rfl,rfl,rfl,rfl,rfl,rfl,rfl,av⟩) ?_ ?_
  ·intro JB;refine kH H (aR gH aD 0 rfl rfl (Rc rfl (Rm rfl (Sp 81 rfl ?_ ?_)))) <;> clear H
   ·intro nN a H
    try have yD:=dT nN
    refine kH H (YF vE nN rfl (YO aD 0 nN rfl (YC nN rfl (YM nN rfl (Sp 85 rfl ?_ ?_))))) <;> clear H
    ·intro mK a H
     try have VF:=dT mK
     refine kH H (aZ mK rfl (PT nN mK rfl (Pt nN rfl ?_)));clear H;intro a H;refine JB (_) _ _ ?_ (by exact H.sub ⟨rfl,rfl,rfl,rfl,rfl,rfl,rfl,rfl,av⟩)
     clear jc oJ hN hX;first|(rw [iV yD];rfl)|(rw [iq yD,iV (by omega)];rfl)|(rw [iq yD,vg,← decide_not];exact decide_eq_decide.2 (by omega))
    intro mK a H
    try have VF:=dF mK
    refine kH H (YF vE mK rfl (YO aD 0 mK rfl (YC mK rfl (PF nN mK rfl (Pt nN rfl ?_)))));clear H;intro a H;refine JB (_) _ _ ?_ (by exact H.sub ⟨rfl,rfl,rfl,rfl,rfl,rfl,rfl,rfl,av⟩)
    clear jc oJ hN hX;first|(rw [iV yD];rfl)|(rw [iq yD,iV (by omega)];rfl)|(rw [iq yD,vg,← decide_not];exact decide_eq_decide.2 (by omega))
   intro nN a H
   try have yD:=dF nN
   refine kH H (aT nN rfl (aT nN rfl (Ku rfl (Ku rfl (Ku rfl (Ks nN rfl (Pf nN rfl ?_)))))));clear H;intro a H;refine JB (_) _ _ ?_ (by exact H.sub ⟨rfl,rfl,rfl,rfl,rfl,rfl,rfl,rfl,av⟩)
   clear jc oJ hN hX;first|(rw [iV yD];rfl)|(rw [iq yD,iV (by omega)];rfl)|(rw [iq yD,vg,← decide_not];exact decide_eq_decide.2 (by omega))
  clear H;intro q3 a w hI H;dsimp only [lca,aO] at H;simp only [mG,jU];have hq3:=hI;refine kH H (ak dH rfl (Cd rfl ?_ ?_)) <;> clear H dH
  ·intro uH a H
   try have CQ:=dT uH
   refine aN (fun _ dP=>?_);rw [uH] at hq3;have hq4:=Bool.and_eq_true_iff.1 hq3.symm
   have iB:¬ (1≤x.id∧x.id≤1073741824):=by have:=hq4.2;simp at this;omega
   have hF:=oJ 18 s2 (by decide) (by rw [jc,oU hq4.1,anU iB,uq (r:=(18,s2)) (show (18:Int)≠0 by decide)]);exact kP H (SC (aL dP rfl (LR results16 rfl fun H=>H.hp.bU (L':=iR D b v1 s2.n :: L1) (by repeat (first|exact cu _|apply List.Sublist.cons)) ⟨rfl,v1,L1,s2,ay vi hF.symm,rfl,hv1,fun h=>absurd (hF.symm.trans h) (by decide)⟩)))
  intro uH a H
  try have CQ:=dF uH
  have UK:x.kind=8→1≤x.id∧x.id≤1073741824:=fun h1=>by rw [uH,iq h1] at hq3;simpa using hq3
  rw [anY UJ O8 UK] at jc;refine fT ?_;refine bW _ _ ?_;clear bW;refine oG (ι:=CS × aj × OL) (Tc:=[(0,_),(1,_),(2,_),(3,_),(4,_),(11,_),(12,_)]) (Lc:=[(_,_)]) (fun gh=>[]) (fun gh=>[iR D b gh.2.1 gh.1.n]++gh.2.2) (fun gh=>G) (fun gh=>(eP (aK st li rv) body note t x s1=gD (fI (aK st li rv) x.kind x.head,gh.1) fun s=>if x.kind=6 then gU (aK st li rv) false true t x.flow s else if x.kind=7 then kD x.rows.length (fun s=>gN (aK st li rv) note (t+1) x.rows s) s else (0,s))∧xJ gh.2.1 gh.1.aY gh.2.2 L0∧gh.1.n=s1.n+(gI x:Nat)∧gh.1.aY.length≤s1.aY.length+1) (by exact (H).sub ⟨rfl,rfl,rfl,rfl,rfl,rfl,rfl,av⟩) ?_ ?_
  ·skip;refine cO (fun _ eT=>?_);refine mU (ι:=Bool) (Tc:=[(0,_),(1,_),(2,_),(3,_),(4,_),(11,_),(12,_)]) 8 (fun (q4:Bool)=>[(98,.bool q4)]) (fun (q4:Bool)=>q4=decide (x.kind=6∨x.kind=7)) (by exact H.sub ⟨rfl,rfl,rfl,rfl,rfl,rfl,rfl,av⟩) ?_ ?_
   ·intro Mi;refine kH H (aR gH aD 0 rfl rfl (Rc rfl (Rm rfl (Sp 94 rfl ?_ ?_)))) <;> clear H
    ·intro DU a H
     try have p94:=dT DU
     refine kH H (aZ DU rfl (Pt DU rfl ?_));clear H;intro a H;refine Mi (_) _ _ ?_ (by exact H.sub ⟨rfl,rfl,rfl,rfl,rfl,rfl,rfl,rfl,av⟩)
     clear jc oJ hN hX UJ O8 UK;first|(simp_all;done)|(simp_all;omega)
    intro DU a H
    try have p94:=dF DU
    refine kH H (YF gH DU rfl (YO aD 0 DU rfl (YC DU rfl (Pf DU rfl ?_))));clear H;intro a H;refine Mi (_) _ _ ?_ (by exact H.sub ⟨rfl,rfl,rfl,rfl,rfl,rfl,rfl,rfl,av⟩)
    clear jc oJ hN hX UJ O8 UK;first|(simp_all;done)|(simp_all;omega)
   clear H;intro q4 a w hI H;dsimp only [lca,aO] at H;simp only [mG,jU];have hq4:=hI;refine eT _ _ ?_;clear eT;refine qG H rfl ?_ ?_
   ·intro oq
    try have M0:=dT oq
    have wP:x.kind=6∨x.kind=7:=by rw [oq] at hq4;exact oU hq4.symm
    rw [au wP] at jc;refine kP H (SR fun _ fP=>Rm rfl (aR vE aD 0 rfl rfl ?_));clear H;intro a H;refine gW Y9 (Li:=[_]) (L:=iR D b v1 s2.n :: L1) H wn rfl (abK _ _ L0 _ D b v1 s2 x.id hv1 (Hp.owns (Li:=[_]) H.hp) (by rw [Pg];omega)) rfl ?_;clear H;rintro aso _ _ a w ⟨rfl,v2,L2,rfl,rfl,hv2⟩ - H;dsimp only [lca,aO] at H;refine kH H (ak fP rfl (SR fun _ gq=>Rm rfl (Rc rfl (Kz gq (Cd rfl ?_ ?_))))) <;> clear H fP gq
    ·intro SH a H
     try have MU:=dT SH
     refine aN (fun _ gG=>?_);have hF:=oJ (jo s2 x.id).1 _ MU (by rw [jc,uq MU]);exact kP H (SC (Rm rfl (aL gG rfl (LR results16 rfl fun H=>H.hp.bU (L':=iR D b v2 s2.n :: L2) (by repeat (first|exact cu _|apply List.Sublist.cons)) ⟨rfl,v2,L2,⟨s2.n,(jo s2 x.id).2.aY⟩,ay vi hF.symm,rfl,hv2,fun h=>absurd (hF.symm.trans h) MU⟩))))
    intro SH a H
    try have MU:=dF SH
    have Ob:(jo s2 x.id).1=0:=gL.1 MU;rw [tq Ob] at jc;have hub:=Qq s2 x.id
    unfold kQ at hub
    obtain ⟨s3,hs3⟩:∃ s3,s3=(jo s2 x.id).2:=⟨_,rfl⟩
    have JX:s3.n=s2.n:=by rw [hs3];rfl
    rw [← hs3] at hv2 hub jc;rw [← JX] at H
    have hsb:s3.aY.length≤s1.aY.length+1:=by rw [← Pg];omega
    refine fT ?_;refine ⟨(s3,v2,L2),by exact (H).sub ⟨rfl,rfl,rfl,rfl,rfl,rfl,rfl,av⟩,?_⟩;(try dsimp only);exact ⟨jc,hv2,by omega,hsb⟩
   intro oq
   try have M0:=dF oq
   have wP:¬ (x.kind=6∨x.kind=7):=by rw [oq] at hq4;exact of_decide_eq_false hq4.symm
   rw [ah wP,tq rfl] at jc;dsimp only at jc;have hw2:=hv1
   have hsb:s2.aY.length≤s1.aY.length+1:=by rw [Pg];omega
   refine fT ?_;refine ⟨(s2,v1,L1),by exact (H).sub ⟨rfl,rfl,rfl,rfl,rfl,rfl,rfl,av⟩,?_⟩;(try dsimp only);exact ⟨jc,hv1,aaN,hsb⟩
  clear H;rintro ⟨s3,v3,L3⟩ a w hI H;dsimp only at hI H;clear jc hv1;obtain ⟨jc,hv3,JX,hsb⟩:=hI;dsimp only [lca,aO] at H;refine kP H (SQ fun _ iP=>SR fun _ jm=>Rm rfl (aR gH aD 0 rfl rfl (Rf GZ rfl ?_)));clear H;intro a H;refine bK lU (cs:=[.slice pA pn pc,vi x.head.marks.ins,vi x.head.marks.move,.slice dA dn dc,.slice yA yn yc]) H wn rfl rfl (H.hp.fG 0 rfl rfl) rfl ?_;clear H;intro a H;refine gW Oe (Li:=[_]) (L:=iR D b v3 s3.n :: L3) H wn rfl (PK _ _ _ D st li rv b v3 s3.n hck hmz (Hp.owns (Li:=[_]) H.hp) x.kind x.head _ _ _ hhd (by omega)) rfl ?_;clear H;rintro asv _ _ a w ⟨rfl,rfl,rfl⟩ - H;dsimp only [lca,aO] at H;refine kH H (ak jm rfl (SR fun _ iH=>Rm rfl (Rc rfl (Kz iH (Cd rfl ?_ ?_))))) <;> clear H jm iH
  ·intro rD a H
   try have FI:=dT rD
   refine aN (fun _ kW=>?_);have hF:=oJ (fI (aK st li rv) x.kind x.head) s3 FI (by rw [jc,uq (by exact FI)]);exact kP H (SC (Rm rfl (aL kW rfl (LR results16 rfl fun H=>H.hp.bU (L':=iR D b v3 s3.n :: L3) (by repeat (first|exact cu _|apply List.Sublist.cons)) ⟨rfl,v3,L3,s3,ay vi hF.symm,rfl,hv3,fun h=>absurd (hF.symm.trans h) FI⟩))))
  intro rD a H
  try have FI:=dF rD
  rw [tq (r:=(fI (aK st li rv) x.kind x.head,s3)) (gL.1 FI)] at jc;dsimp only at jc;refine fT ?_;refine iP _ _ ?_;clear iP;refine oG (ι:=CS × aj × OL) (Tc:=[(0,_),(1,_),(2,_),(3,_),(4,_),(11,_),(12,_)]) (Lc:=[(_,_)]) (fun gh=>[]) (fun gh=>[iR D b gh.2.1 gh.1.n]++gh.2.2) (fun gh=>G) (fun gh=>(eP (aK st li rv) body note t x s1=if x.kind=7 then kD x.rows.length (fun s=>gN (aK st li rv) note (t+1) x.rows s) gh.1 else (0,gh.1))∧xJ gh.2.1 gh.1.aY gh.2.2 L0∧(x.kind=7→gh.1.n=s1.n+(gI x:Nat)∧gh.1.aY.length≤s1.aY.length+1)) (by exact (H).sub ⟨rfl,rfl,rfl,rfl,rfl,rfl,rfl,av⟩) ?_ ?_
  ·skip;refine kP H (SR fun _ kX=>aR gH aD 0 rfl rfl (Rc rfl (Kz kX (Cd rfl ?_ ?_)))) <;> clear H kX
   ·intro SK a H
    try have Vv:=dT SK
    rw [au Vv] at jc;refine kP H (SR fun _ jQ=>Rm rfl (aR Bh jy 0 rfl rfl (Rm rfl ?_)));clear H;intro a H;refine gW RJ (Li:=[_]) (L:=iR D b v3 s3.n :: L3) H wn rfl (ih _ _ L0 _ D st li rv b v3 s3 x.flow _ false true t hck hmz hv3 (Hp.owns (Li:=[_]) H.hp) hfl (by omega) ht0 BG (by omega) (by omega) (by omega)) rfl ?_;clear H;rintro asC _ _ a w ⟨rfl,v5,L5,s5,rfl,rfl,hv5,h5⟩ - H;dsimp only [lca,aO] at H;refine kH H (ak jQ rfl (SR fun _ lC=>Rm rfl (Rc rfl (Kz lC (Cd rfl ?_ ?_))))) <;> clear H jQ lC
    ·intro SN a H
     try have PV:=dT SN
     refine aN (fun _ lD=>?_);have hF:=oJ _ _ PV jc;exact kP H (SC (Rm rfl (aL lD rfl (LR results16 rfl fun H=>H.hp.bU (L':=iR D b v5 s5.n :: L5) (by repeat (first|exact cu _|apply List.Sublist.cons)) ⟨rfl,v5,L5,s5,ay vi hF.symm,rfl,hv5,fun h=>absurd (hF.symm.trans h) PV⟩))))
    intro SN a H
    try have PV:=dF SN
    have YP:=gL.1 PV;have hs5:=h5 YP
    have ako:eP (aK st li rv) body note t x s1=if x.kind=7 then kD x.rows.length (fun s=>gN (aK st li rv) note (t+1) x.rows s) s5 else (0,s5):=by rw [ah (by omega),jc,hs5,← YP]
    refine fT ?_;refine ⟨(s5,v5,L5),by exact (H).sub ⟨rfl,rfl,rfl,rfl,rfl,rfl,rfl,av⟩,?_⟩;(try dsimp only);exact ⟨ako,hv5,fun h=>by omega⟩
   intro SK a H
   try have Vv:=dF SK
   rw [ah Vv] at jc;refine fT ?_;refine ⟨(s3,v3,L3),by exact (H).sub ⟨rfl,rfl,rfl,rfl,rfl,rfl,rfl,av⟩,?_⟩;(try dsimp only);exact ⟨jc,hv3,fun _=>⟨JX,hsb⟩⟩
  clear H;rintro ⟨s3,v3,L3⟩ a w hI H;dsimp only at hI H;clear jc hv3;obtain ⟨jc,hv3,alm⟩:=hI;dsimp only [lca,aO] at H;refine kP H (SR fun _ lX=>aR gH aD 0 rfl rfl (Rc rfl (Kz lX (Cd rfl ?_ ?_)))) <;> clear H lX
  ·intro h128 a H
   try have El:=dT h128
   rw [au El] at jc;obtain ⟨JX,hsb⟩:=alm El;have ht7:=O8 El;refine kP H (SR fun _ lY=>Rm rfl (aR qH qR 0 rfl rfl (Rm rfl (Rm rfl (Rd rfl ?_)))));clear H;intro a H;refine gW ahH (Li:=[_]) (L:=iR D b v3 s3.n :: L3) H wn rfl (amN ih hm _ _ L0 _ D st li rv b v3 s3 x.rows _ note (t+1) hck hmz hv3 (Hp.owns (Li:=[_]) H.hp) hrw (by omega) (by omega) (by omega) (by omega) (by omega) (by omega)) rfl ?_;clear H;rintro asH _ _ a w ⟨rfl,v6,L6,s6,rfl,rfl,hv6,h6⟩ - H;dsimp only [lca,aO] at H;refine kH H (ak lY rfl (SR fun _ lZ=>Rm rfl (Rc rfl (Kz lZ (Cd rfl ?_ ?_))))) <;> clear H lY lZ
   ·intro SV a H
    try have PW:=dT SV
    refine aN (fun _ mV=>?_);have hF:=oJ _ _ PW jc;exact kP H (SC (Rm rfl (aL mV rfl (LR results16 rfl fun H=>H.hp.bU (L':=iR D b v6 s6.n :: L6) (by repeat (first|exact cu _|apply List.Sublist.cons)) ⟨rfl,v6,L6,s6,ay vi hF.symm,rfl,hv6,fun h=>absurd (hF.symm.trans h) PW⟩))))
   intro SV a H
   try have PW:=dF SV
   have e137:=gL.1 PW
   have OT:eP (aK st li rv) body note t x s1=(0,s6):=by rw [jc,h6 e137,← e137]
   refine kP H (Kc K6 (SC (Rm rfl (Rd rfl (Ra rfl ?_)))));clear H K6;intro a H;refine aH ?_;refine cB ((k+1,s6,v6,L6)) (by exact (H.dx (Pl:=[_,_]) (bZ:=[_]) [1] (by decide) rfl).sub ⟨rfl,rfl,rfl,rfl,rfl,rfl,av⟩) ?_ ?_
   ·(try dsimp only);exact ⟨by omega,hN OT,hv6,by have:=Je OT;omega,by have:=Je OT;omega,by have:=Je OT;omega⟩
   first|omega|(dsimp only;omega)
  intro h128 a H
  try have El:=dF h128
  rw [ah El] at jc;refine kP H (Kc K6 (SC (Rm rfl (Rd rfl (Ra rfl ?_)))));clear H K6;intro a H;refine aH ?_;refine cB ((k+1,s3,v3,L3)) (by exact (H.dx (Pl:=[_,_]) (bZ:=[_]) [1] (by decide) rfl).sub ⟨rfl,rfl,rfl,rfl,rfl,rfl,av⟩) ?_ ?_
  ·(try dsimp only);exact ⟨by omega,hN jc,hv3,by have:=Je jc;omega,by have:=Je jc;omega,by have:=Je jc;omega⟩
  first|omega|(dsimp only;omega)
 intro h23 a H
 try have CP:=dF h23
 have hk3:l.drop k=[]:=eU (by omega);rw [hk3,gU] at hX;refine dJ ?_;refine K2 _ _ ?_;clear K2;exact kP H (SR fun _ qX=>ak qX rfl (LR results16 rfl fun H=>H.hp.gB ⟨rfl,v1,L1,s1,ay vi (by rw [← hX]),rfl,hv1,fun _=>by rw [← hX]⟩))
theorem abI:∀ m:Nat,m≤4294967297→Np m
 | 0,_=>fun _ _ _ _ _ _ _ _ _ _ _ _ _ _ _ _ _ _ _ _ _ h=>absurd h (by omega)
 | m+1,hm=>amG (abI m (by omega)) (by omega)
end
section
open Go.RowKit
theorem apy (G:GH) (w0:World) (hG:Hold G w0) (s:wo) (a b c d:aj) (hR:Dp G s a b c d) (hsl:s.styles.length≤4294967296) (hz:Ld s) :
  Calls prog 38 #[.agg #[a,b,c,d]] w0 (bV w0 G fun u G'=>∃ r,u=.bool r):=by
 obtain ⟨sA,sc,rfl,-,-,-⟩:=hR.st.slice;obtain ⟨lA,lc,rfl,-,-,-⟩:=hR.li.slice;obtain ⟨cA,cc,rfl,-,-,-⟩:=hR.cm.slice;obtain ⟨vA,vc,rfl,-,-,-⟩:=hR.va.slice;have hl1:=hz.ln
 simp only [bN] at hR ⊢
 refine eN [(0,_)] func38 rfl ntmps38 rfl rfl hG ?_;intro a H;refine cO (fun _ K1=>?_);refine fD (cs:=[_,_,_,_]) H wn rfl rfl rfl ?_;clear H;intro b1 a w hb1 H;refine kH H (ak K1 rfl (SQ fun _ K2=>SQ fun _ K3=>?_));clear H K1;intro a H;obtain ⟨Ga,hma,hb1',H⟩:=H.eD
 have hc0:aF Ga b1 0=some (.slice sA s.styles.length sc):=by unfold aF;rw [hb1'];rfl
 have hc1:aF Ga b1 1=some (.slice lA s.lists.length lc):=by unfold aF;rw [hb1'];rfl
 have hc2:aF Ga b1 2=some (.slice cA s.comments.length cc):=by unfold aF;rw [hb1'];rfl
 have hc3:aF Ga b1 3=some (.slice vA s.vars.length vc):=by unfold aF;rw [hb1'];rfl
 have hst:=hR.st.mono hma;have wR:=hR.li.mono hma;refine kP H (SC (Rf Fa rfl (Rg qQ rfl (by assumption) ?_)));clear H;intro a H;refine kH H (Rl nR rfl (Rc rfl (Rm rfl (Sp 9 rfl ?_ ?_)))) <;> clear H
 ·intro h9 a H
  exact kH H (aT h9 rfl (aT h9 rfl (Pt h9 rfl (Rm rfl (aT rfl rfl (aT rfl rfl (Pt rfl rfl (Rm rfl (aT rfl rfl (aT rfl rfl (Pt rfl rfl (Kn K3 (Ct rfl rfl (SR fun _ K4=>ak K4 rfl (LR results38 rfl fun H=>H.rt ⟨_,rfl⟩)))))))))))))))
 intro h9 a H
 try have p9:=dF h9
 refine kH H (YF Bd h9 rfl (YR xu h9 rfl (by assumption) ?_));clear H;intro a H;refine kH H (YL xA h9 rfl (YC h9 rfl (Pf h9 rfl (Rm rfl (Sp 15 rfl ?_ ?_))))) <;> clear H
 ·intro jV a H
  exact kH H (aT jV rfl (aT jV rfl (Pt jV rfl (Rm rfl (aT rfl rfl (aT rfl rfl (Pt rfl rfl (Kn K3 (Ct rfl rfl (SR fun _ K5=>ak K5 rfl (LR results38 rfl fun H=>H.rt ⟨_,rfl⟩)))))))))))
 intro jV a H
 try have qo:=dF jV
 refine kH H (YF GV jV rfl (YR AB jV rfl (by assumption) ?_));clear H;intro a H;refine kH H (YL zN jV rfl (YC jV rfl (Pf jV rfl (Rm rfl (Sp 21 rfl ?_ ?_))))) <;> clear H
 ·intro h21 a H
  exact kH H (aT h21 rfl (aT h21 rfl (Pt h21 rfl (Kn K3 (Ct rfl rfl (SR fun _ K6=>ak K6 rfl (LR results38 rfl fun H=>H.rt ⟨_,rfl⟩)))))))
 intro h21 a H
 try have ou:=dF h21
 refine kH H (YF GX h21 rfl (YR uV h21 rfl (by assumption) ?_));clear H;intro a H;refine kH H (YL vW h21 rfl (YC h21 rfl (Pf h21 rfl (Kn K3 (Cd rfl ?_ ?_))))) <;> clear H K3
 ·intro fE a H
  exact kP H (SR fun _ K7=>ak K7 rfl (LR results38 rfl fun H=>H.rt ⟨_,rfl⟩))
 intro fE a H
 try have p26:=dF fE
 refine kP H (Kc K2 (SQ fun _ K8=>SR fun _ K9=>ak K9 rfl (SB ?_)));clear H K2 K9;intro a H;skip;refine dV (ι:=Nat) (Tc:=[(1,_)]) (Lc:=[]) (fun gh=>[(3,vi gh)]) (fun gh=>[]) (fun gh=>Ga) (fun gh=>gh≤s.styles.length) (fun gh=>s.styles.length - gh) (0) (by exact (H).sub ⟨rfl,rfl,av⟩) ?_ ?_
 ·exact fQ _
 clear H;intro k a w hI H;have hk:=hI;dsimp only [lca,aO] at H;refine kP H (SQ fun _ aU=>SR fun _ bD=>Rm rfl (Rf Fa rfl (Rg qQ rfl (by assumption) ?_)));clear H;intro a H;refine kH H (Rl nR rfl (Rc rfl (Kz bD (Cd rfl ?_ ?_)))) <;> clear H bD
 ·intro h31 a H
  try have p31:=dT h31
  have hk2:k < s.styles.length:=by omega
  obtain ⟨b',o',pA,pc,rfl,hrow,-,-⟩:=BQ hst hk2;have hq:=hrow 5 _ rfl;refine kP H (Kc aU (SQ fun _ bE=>SB (SR fun _ bQ=>Rf Fa rfl (Rg qQ rfl (by assumption) ?_))));clear H aU;intro a H;refine kH H (Rm rfl (Ri nR kN rfl rfl (Rf Sb rfl (Rg zM rfl (by assumption) ?_))));clear H;intro a H;refine kH H (Rl tV rfl (Rc rfl (Kz bQ (Cd rfl ?_ ?_)))) <;> clear H bQ
  ·intro mY a H
   exact kP H (SR fun _ bR=>ak bR rfl (LR results38 rfl fun H=>H.rt ⟨_,rfl⟩))
  intro mY a H
  try have p41:=dF mY
  refine kP H (Kc bE (SC (Rm rfl (Rd rfl (Ra rfl ?_)))));clear H bE;intro a H;refine aH ?_;refine cB ((k+1)) (by exact (H).sub ⟨rfl,rfl,av⟩) ?_ ?_
  ·omega
  first|omega|(dsimp only;omega)
 intro h31 a H
 try have p31:=dF h31
 refine dJ ?_;refine K8 _ _ ?_;clear K8;refine kP H (SQ fun _ bW=>SR fun _ cK=>ak cK rfl (SB ?_));clear H cK;intro a H;skip;refine dV (ι:=Nat) (Tc:=[(1,_)]) (Lc:=[]) (fun gh=>[(4,vi gh)]) (fun gh=>[]) (fun gh=>Ga) (fun gh=>gh≤s.lists.length) (fun gh=>s.lists.length - gh) (0) (by exact (H).sub ⟨rfl,rfl,av⟩) ?_ ?_
 ·exact fQ _
 clear H;intro n a w hI H;have hn:=hI;dsimp only [lca,aO] at H;refine kP H (SQ fun _ bY=>SR fun _ dG=>Rm rfl (Rf Bd rfl (Rg xu rfl (by assumption) ?_)));clear H;intro a H;refine kH H (Rl xA rfl (Rc rfl (Kz dG (Cd rfl ?_ ?_)))) <;> clear H dG
 ·intro h46 a H
  try have p46:=dT h46
  have hn2:n < s.lists.length:=by omega
  obtain ⟨b',o',B,d,rfl,hrow,-⟩:=Im wR hn2;have hq:=hrow 1 _ rfl;refine kP H (Kc bY (SQ fun _ dN=>SB (SR fun _ dH=>Rf Bd rfl (Rg xu rfl (by assumption) ?_))));clear H bY;intro a H;refine kH H (Rm rfl (Ri xA zL rfl rfl (Rf Sc rfl (Rg Wv rfl (by assumption) ?_))));clear H;intro a H;refine kH H (Rl Nc rfl (Rc rfl (Kz dH (Cd rfl ?_ ?_)))) <;> clear H dH
  ·intro qj a H
   exact kP H (SR fun _ dP=>ak dP rfl (LR results38 rfl fun H=>H.rt ⟨_,rfl⟩))
  intro qj a H
  try have p56:=dF qj
  refine kP H (Kc dN (SC (Rm rfl (Rd rfl (Ra rfl ?_)))));clear H dN;intro a H;refine aH ?_;refine cB ((n+1)) (by exact (H).sub ⟨rfl,rfl,av⟩) ?_ ?_
  ·omega
  first|omega|(dsimp only;omega)
 intro h46 a H
 refine dJ ?_;refine bW _ _ ?_;clear bW;exact kP H (SR fun _ eT=>ak eT rfl (LR results38 rfl fun H=>H.rt ⟨_,rfl⟩))
end
section
open Go.RowKit
end
section
open Go.RowKit
end
section
open Go.RowKit
def aiw (t:Int) (a:Nat × aC):Bool:=decide ((a.1:Int)+gI a.2≤t)
def lA (t:Int) (A:List (Nat × aC)):List aC:=(A.filter (aiw t)).map (·.2)
end
section
open Go.RowKit
section
variable {N:Nat} {D:List Deferred} {w0:World} {F:Nat→Prop} {G0 G:GH} {L Lo:OL} {T:List (Nat × aj)}
variable {r:Option Nat} {P:Program} {ops:Array Oper} {Q:Exit→Act→World→Prop} {rest:List Oper} {a:Act} {w:World}
variable {d:Nat} {ty:TypeId} {pos:String} {aS:Array Edge} {g:Option (Nat × Bool)}
end
end
section
open Go.RowKit
theorem gJ.at {w0 w:World} {F:Nat→Prop} {G0 G:GH} {L Lo:OL} {e sz n c b o:Nat} {xs:List aj} (h:gJ e sz (.slice (some ⟨b,o,none⟩) n c) n xs Lo) (H:Hp w0 F G0 G L w) (hsub:∀ x∈Lo,x∈L) {i:Nat} {u:aj} (hi:xs[i]?=some u):w.cell? ⟨b,i,none⟩=some u:=by
 rcases h.2 with ⟨h1,_⟩|⟨b2,cap,cur,he,hl,h1,h2,h3,h4⟩
 ·cases h1
 ·injection he with e1
  injection e1 with e1
  injection e1 with e1
  subst e1
  refine H.PN (c:=cur) (e:=e) (fz:=(0,0)) (hsub _ (by rw [hl];exact List.mem_singleton_self _)) ?_
  have hx:i < xs.length:=(kG.1 hi).1
  rw [h.1] at hx
  rw [← h4,zY,au hx,Array.getElem?_toList] at hi
  exact hi
theorem flat_get {sz:Nat}:∀ {css:List (List aj)} {k:Nat} (hk:k < css.length) (h:∀ cs∈css,cs.length=sz) (j:Nat),j < sz→css.flatten[k*sz+j]?=css[k][j]?
 | c :: css,0,_,h,j,hj=>by
  rw [List.flatten_cons,Nat.zero_mul,ng,List.getElem_cons_zero,Ce (by rw [h c jg];exact hj)]
 | c :: css,k+1,hk,h,j,hj=>by
  have ih:=flat_get (css:=css) (k:=k) (by simpa using hk) (fun cs hc=>h cs (sW _ hc)) j hj
  rw [List.flatten_cons,List.getElem_cons_succ,Cg (by rw [h c jg,Nat.succ_mul];omega),h c jg,show (k+1)*sz+j - sz=k*sz+j by rw [Nat.succ_mul];omega]
  exact ih
theorem gP.at {G:GH} {sz:Nat} {rows:List (List Dat)} {xs:List aj} (h:gP G sz rows xs) {k:Nat} {r:List Dat} (hk:rows[k]?=some r):∃ cs,cs.length=sz∧(∀ j u,cs[j]?=some u→xs[k*sz+j]?=some u)∧bM G r cs:=by
 obtain ⟨css,rfl,h2,h3⟩:=h
 have hkl:k < css.length:=by rw [h2];exact (kG.1 hk).1
 obtain ⟨hr,hl⟩:=h3 k r css[k] hk (fH hkl)
 refine ⟨css[k],hl,fun j u hj=>?_,hr⟩
 rw [flat_get hkl (fun cs hc=>?_) j (by rw [← hl];exact (kG.1 hj).1)]
 ·exact hj
 ·obtain ⟨i,hi,rfl⟩:=List.getElem_of_mem hc
  exact (h3 i rows[i] css[i] (fH (by omega)) (fH hi)).2
end
section
open Go.RowKit
def XO (l:List aC):Prop:=∀ (k:Nat) (h:k+1 < l.length),¬ (l[k].kind=1∧l[k+1].kind=1∧l[k].head=l[k+1].head)
theorem XO.one {l:List aC} (h:l.length≤1):XO l:=fun k hk=>by omega
end
section
open Go.RowKit
end
section
open Go.RowKit
end
section
open Go.RowKit
end
section
open Go.RowKit
theorem aqL (l m:List aC):bB (l++m)=bB l+bB m:=by simp [bB,Qj]
end
section
open Go.RowKit
end
section
open Go.RowKit
end
section
open Go.RowKit
theorem WR:∀ {m l:List aC},m.Sublist l→bB m≤bB l
 | _,_,.slnil=>dB _
 | _,_,.cons a h=>by have:=WR h;simp only [bB,dW,eu] at *;omega
 | _,_,.cons_cons a h=>by have:=WR h;simp only [bB,dW,eu] at *;omega
end
section
open Go.RowKit
end
section
open Go.RowKit
structure XP where
 from_:Int
 to:Int
 mark:Bool
 props:List jX
def XP.dat (a:XP):List Dat:=[li a.from_,li a.to,.lf (.bool a.mark),.sl 2 (a.props.map jX.dat)]
end
section
open Go.RowKit
def cl0:bq:=.mk 0 hd0 []
def rw0:bH:=.mk hd0 [cl0]
end
section
open Go.RowKit
end
section
open Go.RowKit
theorem RQ:∀ args w,(callFunc 39 args).run prog w=.ok (.enter 39 args) w:=enters func39 rfl (by kernel_rfl)
theorem ahQ:∀ args w,(callFunc 89 args).run prog w=.ok (.enter 89 args) w:=enters func89 rfl (by kernel_rfl)
theorem Eu (n:Nat):0≤(n:Int).tdiv 8∧(n:Int).tdiv 8≤n:=by
 rw [Int.tdiv_eq_ediv_of_nonneg (by omega)];omega
abbrev rV (b:Nat) (n:Int):Nat × Obj:=(b,.cells #[vi n] 3 (0,0))
def QU (bl:Nat) (left:Int) (z:Nat) (u:aj) (_:GH) (L':OL):Prop:=∃ b lf,u=.bool b∧L'=[rV bl lf]∧left - 4*(z:Int)≤lf∧lf≤left
def ND (n:Nat):Prop:=∀ (G:GH) (w0:World) (l:List aC) (v:aj) (uP left:Int) (bl:Nat),iT G [rV bl left] w0→aB G (.sl 11 (l.map aC.dat)) v→bB l < n→0≤uP→uP≤1000→left≤1000→-1000000000000≤left - 4*(bB l:Int) →
 Calls prog 39 #[v,vi uP,(aP bl 0)] w0 (iE w0 G [rV bl left] (QU bl left (bB l)))
theorem aef (l m:List bH):eG (l++m)=eG l+eG m:=by simp [eG,Qj]
theorem aeb (l m:List bq):iC (l++m)=iC l+iC m:=by simp [iC,Qj]
theorem aqM {l:List aC} {k:Nat} (h:k < l.length):bB (l.take (k+1))=bB (l.take k)+(1+dh l[k].dat):=by rw [lG h,aqL];simp [bB,eu]
theorem aqN {l:List bH} {k:Nat} (h:k < l.length):eG (l.take (k+1))=eG (l.take k)+(1+dh l[k].dat):=by rw [lG h,aef];simp [eG,eu]
theorem aqK {l:List bq} {k:Nat} (h:k < l.length):iC (l.take (k+1))=iC (l.take k)+(1+dh l[k].dat):=by rw [lG h,aeb];simp [iC,eu]
theorem aee (l:List aC) (k:Nat):bB (l.take k)≤bB l:=WR (List.take_sublist k l)
theorem aeh (l:List bH) (k:Nat):eG (l.take k)≤eG l:=by
 have:=aef (l.take k) (l.drop k);rw [List.take_append_drop] at this;omega
theorem aed (l:List bq) (k:Nat):iC (l.take k)≤iC l:=by
 have:=aeb (l.take k) (l.drop k);rw [List.take_append_drop] at this;omega
theorem akf {G:GH} {b o:Nat} {x q1 q2 q3 q4 q5 f:aj} (h:∀ j u,[x,q1,q2,q3,q4,q5,f][j]?=some u→aF G b (o+j)=some u):∀ j u,[q1,q2,q3,q4,q5][j]?=some u→aF G b (o+1+j)=some u:=by
 intro j u hj;rw [Nat.add_assoc,Nat.add_comm 1 j];refine h (j+1) u ?_
 match j,hj with
 | 0,hj=>exact hj
 | 1,hj=>exact hj
 | 2,hj=>exact hj
 | 3,hj=>exact hj
 | 4,hj=>exact hj
 | n+5,hj=>simp at hj
set_option maxHeartbeats 1000000 in
theorem apv {n:Nat} (ih:ND n) (hn:n≤4294967296)
  (hrows:∀ (G:GH) (w0:World) (l:List bH) (v:aj) (uP left:Int) (bl:Nat),iT G [rV bl left] w0→aB G (.sl 6 (l.map bH.dat)) v→eG l < n→0≤uP→uP≤1000→left≤1000→-1000000000000≤left - 4*(eG l:Int) →
   Calls prog 89 #[v,vi uP,(aP bl 0)] w0 (iE w0 G [rV bl left] (QU bl left (eG l)))):ND (n+1):=by
 intro G w0 l v uP left bl hO hv hz hl0 hl1 hf1 hf0;obtain ⟨A,c,rfl,hc1,hc2,hg⟩:=hv.slice;rw [bN] at *;have hll:=Dg l;refine kS (N:=89) (T:=[(0,_),(1,_),(2,_)]) func39 rfl ntmps39 rfl rfl hO ?_;intro a H;refine kP H (SR fun _ K1=>ak K1 rfl (SQ fun _ K2=>SR fun _ K3=>ak K3 rfl (SB ?_)));clear H K1 K3;intro a H;skip;refine dV (ι:=Nat × Int × GH) (Tc:=[(0,_),(1,_),(2,_)]) (Lc:=[]) (fun gh=>[(7,vi gh.1)]) (fun gh=>[rV bl gh.2.1]) (fun gh=>gh.2.2) (fun gh=>gh.1≤l.length∧left - 4*(bB (l.take gh.1):Int)≤gh.2.1∧gh.2.1≤left∧(∀ b o,G b=some o→gh.2.2 b=some o)) (fun gh=>l.length - gh.1) ((0,left,G)) (by exact (H).sub ⟨rfl,rfl,rfl,rfl,av⟩) ?_ ?_
 ·exact ⟨by omega,by show left - 4*((0:Nat):Int)≤left;omega,Int.le_refl _,fun _ _ h=>h⟩
 clear H;rintro ⟨k,lf,g⟩ a w hI H;dsimp only at hI H;obtain ⟨hk,hlo,hhi,hgm⟩:=hI;have hzk:=aee l k;dsimp only [lca,aO] at H;refine kP H (SQ fun _ K4=>SR fun _ K5=>Rm rfl (Rm rfl (Rl jM rfl (Rc rfl (Kz K5 (Cd rfl ?_ ?_)))))) <;> clear H K5
 ·intro h11 a H
  try have yC:=dT h11
  have hk2:k < l.length:=by omega
  obtain ⟨b,o,pA,pn,pc,dA,dn,dc,yA,yn,yc,fA,fn,fc,rA,rn,rc,rfl,hrow,hhd,hfl,hrw⟩:=Bl hk2 hg;have r3:aF g b (o+k*11+3)=some (.string l[k].text):=aJ hgm (hrow 3 _ rfl);have r4:aF g b (o+k*11+4+0)=some (.slice pA pn pc):=aJ hgm (hrow 4 _ rfl);have r7:aF g b (o+k*11+4+1+2)=some (.slice dA dn dc):=aJ hgm (hrow 7 _ rfl);have r8:aF g b (o+k*11+4+1+3)=some (.slice yA yn yc):=aJ hgm (hrow 8 _ rfl);have r9:aF g b (o+k*11+9)=some (.slice fA fn fc):=aJ hgm (hrow 9 _ rfl);have P8:aF g b (o+k*11+10)=some (.slice rA rn rc):=aJ hgm (hrow 10 _ rfl);have q1:=Eu pn;have q2:=Eu dn;have q3:=Eu yn;have hzi:=oN l[k];have U8:=Df l[k].head;have l1:=hhd.props.len;have l2:=hhd.bJ.len;have l3:=hhd.layers.len;have m1:=nC (l[k].head.props.map jX.dat);have m2:=nC (l[k].head.marks.bJ.map kV.dat);have m3:=nC (l[k].head.marks.layers.map lF.dat);have hzs:=aqM hk2;have hzt:=aee l (k+1);refine kP H (Kc K4 (SQ fun _ K6=>SB (SQ fun _ K7=>?_)));clear H K4;intro a H;refine dI hmx [[],[],[1],[1,2],[1,2,3],[],[],[5,6],[5,6,7],(ra 5 4),(ra 5 5),(ra 5 6),(ra 5 7),(ra 1 12),[],[],[14,15],[14,15,16],(ra 14 4),(ra 14 5),(ra 14 6),(ra 14 7),(ra 14 8),(ra 1 22),[],[],[24,25],[24,25,26],(ra 24 4),(ra 24 5),(ra 24 6),(ra 24 7),(ra 24 8),(ra 1 32),(ra 0 34),(ra 0 35)] [35] (by kernel_rfl) [_,_,_,vi lf,_,_,_,_,_,_,_,_,vi ((pn:Int).tdiv 8),_,_,_,_,_,_,_,_,_,vi ((dn:Int).tdiv 8),_,_,_,_,_,_,_,_,_,vi ((yn:Int).tdiv 8),_,_] H (aI (Z0 rfl (Rm rfl)) (Z0 rfl (Rm rfl)) (Z1 1 15 rfl (Rk rfl)) (Z1 2 16 rfl (Ro aD 0 rfl)) (aI (Z1 3 17 rfl (Rs rfl)) (Z0 rfl (Rm rfl)) (Z0 rfl (Rm rfl)) (Z2 5 19 6 20 rfl (Ri jM eH rfl rfl)) (aI (Z1 7 21 rfl (Rf GZ rfl)) (Z1 8 22 rfl (Rf Cq rfl)) (X1 9 23 rfl fun hG=>Rg zM rfl (aJ hG r4)) (Z1 10 24 rfl (Rl tV rfl)) (aI ?_ (Z2 4 18 12 26 rfl (Rs rfl)) (Z0 rfl (Rm rfl)) (Z0 rfl (Rm rfl)) (aI (Z2 14 28 15 29 rfl (Ri jM eH rfl rfl)) (Z1 16 30 rfl (Rf GZ rfl)) (Z1 17 31 rfl (Rf vD rfl)) (Z1 18 32 rfl (Rf mJ rfl)) (aI (X1 19 33 rfl fun hG=>Rg mR rfl (aJ hG r7)) (Z1 20 34 rfl (Rl lW rfl)) ?_ (Z2 13 27 22 36 rfl (Rs rfl)) (aI (Z0 rfl (Rm rfl)) (Z0 rfl (Rm rfl)) (Z2 24 38 25 39 rfl (Ri jM eH rfl rfl)) (Z1 26 40 rfl (Rf GZ rfl)) (aI (Z1 27 41 rfl (Rf vD rfl)) (Z1 28 42 rfl (Rf wF rfl)) (X1 29 43 rfl fun hG=>Rg xk rfl (aJ hG r8)) (Z1 30 44 rfl (Rl tX rfl)) (aI ?_ (Z2 23 37 32 46 rfl (Rs rfl)) (Z1 0 14 rfl (Rk rfl)) (cZ rfl) dQ))))))))) ?_
  ·refine fq 11 25 rfl rfl fun _ a w G1 hG HT H fin=>?_;refine Eo _ H wn rfl rfl (by omega) rfl (by omega) (by omega) rfl ?_;clear H;intro a H;exact fin H iJ rfl
  ·refine fq 21 35 rfl rfl fun _ a w G1 hG HT H fin=>?_;refine Eo _ H wn rfl rfl (by omega) rfl (by omega) (by omega) rfl ?_;clear H;intro a H;exact fin H iJ rfl
  ·refine fq 31 45 rfl rfl fun _ a w G1 hG HT H fin=>?_;refine Eo _ H wn rfl rfl (by omega) rfl (by omega) (by omega) rfl ?_;clear H;intro a H;exact fin H iJ rfl
  clear H;intro a w G uJ H hv;have H:=H.bC (hv 33 47 rfl rfl) rfl;have H:=H.bC (hv 34 48 rfl rfl) rfl;clear hv;refine bT aD 0 (vs:=[_]) _ H wn rfl rfl rfl rfl rfl rfl rfl rfl ?_;clear H;intro w H;dsimp only [List.set,setRow] at H;refine aH ⟨rfl,?_⟩;refine K7 _ _ ?_;clear K7;refine kP H (SR fun _ K8=>Rm rfl (Rk rfl (Ro aD 0 rfl (Rc rfl (Rm rfl (Sp 53 rfl ?_ ?_)))))) <;> clear H
  ·intro dS a H
   try have p53:=dT dS
   refine kH H (aT dS rfl (Pt dS rfl (Rm rfl (aZ rfl rfl (aT rfl rfl (aT rfl rfl (Pt rfl rfl (Rm rfl (aZ rfl rfl (aZ rfl rfl (aT rfl rfl (aT rfl rfl (Pt rfl rfl (Rm rfl (aZ rfl rfl (aZ rfl rfl (aZ rfl rfl (Pt rfl rfl (Kz K8 (Ct rfl rfl (SR fun _ K9=>ak K9 rfl ?_)))))))))))))))))))));clear H K8 K9;intro a H;refine lr H results39 rfl ?_;exact H.hp.gB ⟨_,_,rfl,rfl,by omega,by omega⟩
  intro dS a H
  try have p53:=dF dS
  replace r3:=aJ uJ r3;replace r9:=aJ uJ r9;replace P8:=aJ uJ P8;refine kH H (YM dS rfl (YC dS rfl (Pf dS rfl (Rm rfl (Sp 57 rfl ?_ ?_))))) <;> clear H
  ·intro h57 a H
   try have p57:=dT h57
   exact kH H (aZ h57 rfl (aT h57 rfl (aT h57 rfl (Pt h57 rfl (Rm rfl (aZ rfl rfl (aZ rfl rfl (aT rfl rfl (aT rfl rfl (Pt rfl rfl (Rm rfl (aZ rfl rfl (aZ rfl rfl (aZ rfl rfl (Pt rfl rfl (Kz K8 (Ct rfl rfl (SR fun _ aU=>ak aU rfl (LR results39 rfl fun H=>H.hp.gB ⟨_,_,rfl,rfl,by omega,by omega⟩)))))))))))))))))))
  intro h57 a H
  try have p57:=dF h57
  refine kH H (YM h57 rfl (YM h57 rfl (YI jM eH h57 rfl rfl (YF vF h57 rfl (YR gZ h57 rfl (by assumption) ?_)))));clear H;intro a H;refine BO iD H (wg H rfl rfl h57) rfl rfl ?_;clear H;intro a H;refine kH H (YC h57 rfl (Pf h57 rfl (Rm rfl (Sp 66 rfl ?_ ?_)))) <;> clear H
  ·intro pF a H
   try have p66:=dT pF
   exact kH H (aZ pF rfl (aZ pF rfl (aT pF rfl (aT pF rfl (Pt pF rfl (Rm rfl (aZ rfl rfl (aZ rfl rfl (aZ rfl rfl (Pt rfl rfl (Kz K8 (Ct rfl rfl (SR fun _ bD=>ak bD rfl (LR results39 rfl fun H=>H.hp.gB ⟨_,_,rfl,rfl,by omega,by omega⟩))))))))))))))
  intro pF a H
  try have p66:=dF pF
  refine kH H (YM pF rfl (YM pF rfl (YI jM eH pF rfl rfl (YF Bh pF rfl (YR jy pF rfl (by assumption) ?_)))));clear H;intro a H;refine kH H (YM pF rfl ?_);clear H;intro a H;refine mQ _ H (wg H rfl rfl pF) rfl rfl rfl (by omega) (by omega) rfl ?_;clear H;intro a H;refine kH H (YM pF rfl ?_);clear H;intro a H;refine gW RQ (Li:=[]) (L:=[rV bl _]) H (wg H rfl rfl pF) rfl (ih _ _ l[k].flow _ (uP - 1) _ bl (Hp.owns (Li:=[]) H.hp) (hfl.mono fun b o h=>uJ b o (hgm b o h)) (by omega) (by omega) (by omega) (by omega) (by omega)) rfl ?_;clear H;rintro v75 G75 L75 a w ⟨b75,lf75,rfl,rfl,arM,arJ⟩ Uz H;dsimp only [List.nil_append] at H;replace P8:=aJ Uz P8;refine kH H (YN pF rfl (Pf pF rfl (Rm rfl (Sp 78 rfl ?_ ?_)))) <;> clear H
  ·intro qK a H
   try have VD:=dT qK
   exact kH H (aZ qK rfl (aZ qK rfl (aZ qK rfl (Pt qK rfl (Kz K8 (Ct rfl rfl (SR fun _ bE=>ak bE rfl (LR results39 rfl fun H=>H.hp.gB ⟨_,_,rfl,rfl,by omega,by omega⟩))))))))
  intro qK a H
  try have VD:=dF qK
  refine kH H (YM qK rfl (YM qK rfl (YI jM eH qK rfl rfl (YF qH qK rfl (YR qR qK rfl (by assumption) ?_)))));clear H;intro a H;refine kH H (YM qK rfl (YM qK rfl ?_));clear H;intro a H;refine gW ahQ (Li:=[]) (L:=[rV bl _]) H (wg H rfl rfl qK) rfl (hrows _ _ l[k].rows _ uP _ bl (Hp.owns (Li:=[]) H.hp) (hrw.mono fun b o h=>Uz b o (uJ b o (hgm b o h))) (by omega) (by omega) (by omega) (by omega) (by omega)) rfl ?_;clear H;rintro v86 G86 L86 a w ⟨b86,amu,rfl,rfl,arN,arK⟩ akC H;dsimp only [List.nil_append] at H;refine kH H (YN qK rfl (Pf qK rfl (Kz K8 (Cd rfl ?_ ?_)))) <;> clear H K8
  ·intro vH a H
   try have MX:=dT vH
   exact kP H (SR fun _ bQ=>ak bQ rfl (LR results39 rfl fun H=>H.hp.gB ⟨_,_,rfl,rfl,by omega,by omega⟩))
  intro vH a H
  try have MX:=dF vH
  refine kP H (Kc K6 (SC (Rm rfl (Rd rfl (Ra rfl ?_)))));clear H K6;intro a H;refine aH ?_;refine cB ((k+1,amu,G86)) (by exact (H).sub ⟨rfl,rfl,rfl,rfl,av⟩) ?_ ?_
  ·(try dsimp only);exact ⟨by omega,by omega,by omega,fun b o h=>akC b o (Uz b o (uJ b o (hgm b o h)))⟩
  first|omega|(dsimp only;omega)
 intro h11 a H
 try have yC:=dF h11
 refine dJ ?_;refine K2 _ _ ?_;clear K2;exact kP H (SR fun _ bR=>ak bR rfl (LR results39 rfl fun H=>H.hp.gB ⟨_,_,rfl,rfl,by omega,by omega⟩))
set_option maxHeartbeats 1000000 in
theorem apx {n:Nat} (ih:ND n) (hn:n≤4294967296) (G:GH) (w0:World) (l:List bH) (v:aj) (uP left:Int) (bl:Nat) (hO:iT G [rV bl left] w0) (hv:aB G (.sl 6 (l.map bH.dat)) v) (hz:eG l < n) (hl0:0≤uP) (hl1:uP≤1000) (hf1:left≤1000) (hf0:-1000000000000≤left - 4*(eG l:Int)) :
  Calls prog 89 #[v,vi uP,(aP bl 0)] w0 (iE w0 G [rV bl left] (QU bl left (eG l))):=by
 obtain ⟨A,c,rfl,hc1,hc2,hg⟩:=hv.slice;rw [bN] at *;have hll:=Dh l;refine kS (N:=121) (T:=[(0,_),(1,_),(2,_)]) func89 rfl ntmps89 rfl rfl hO ?_;intro a H;refine kP H (SR fun _ K1=>ak K1 rfl (SQ fun _ K2=>SR fun _ K3=>ak K3 rfl (SB ?_)));clear H K1 K3;intro a H;skip;refine dV (ι:=Nat × Int × GH) (Tc:=[(0,_),(1,_),(2,_)]) (Lc:=[]) (fun gh=>[(7,vi gh.1)]) (fun gh=>[rV bl gh.2.1]) (fun gh=>gh.2.2) (fun gh=>gh.1≤l.length∧left - 4*(eG (l.take gh.1):Int)≤gh.2.1∧gh.2.1≤left∧(∀ b o,G b=some o→gh.2.2 b=some o)) (fun gh=>l.length - gh.1) ((0,left,G)) (by exact (H).sub ⟨rfl,rfl,rfl,rfl,av⟩) ?_ ?_
 ·exact ⟨by omega,by show left - 4*((0:Nat):Int)≤left;omega,Int.le_refl _,fun _ _ h=>h⟩
 clear H;rintro ⟨k,lf,g⟩ a w hI H;dsimp only at hI H;obtain ⟨hk,hlo,hhi,hgm⟩:=hI;have hzk:=aeh l k;dsimp only [lca,aO] at H;refine kP H (SQ fun _ K4=>SR fun _ K5=>Rm rfl (Rm rfl (Rl jG rfl (Rc rfl (Kz K5 (Cd rfl ?_ ?_)))))) <;> clear H K5
 ·intro eO a H
  try have nZ:=dT eO
  have hk2:k < l.length:=by omega
  obtain ⟨b,o,pA,pn,pc,dA,dn,dc,yA,yn,yc,cA,cn,cc,rfl,hrow,hhd,hcl⟩:=CW hk2 hg;have r0:aF g b (o+k*6+0+0)=some (.slice pA pn pc):=aJ hgm (hrow 0 _ rfl);have r3:aF g b (o+k*6+0+1+2)=some (.slice dA dn dc):=aJ hgm (hrow 3 _ rfl);have r4:aF g b (o+k*6+0+1+3)=some (.slice yA yn yc):=aJ hgm (hrow 4 _ rfl);have r5:aF g b (o+k*6+5)=some (.slice cA cn cc):=aJ hgm (hrow 5 _ rfl);have hcn:=hcl.len;rw [bN] at hcn;subst hcn;have hcc:=hcl.slice;have q1:=Eu pn;have q2:=Eu dn;have q3:=Eu yn;have hzi:=tY l[k];have U8:=Df l[k].head;have l1:=hhd.props.len;have l2:=hhd.bJ.len;have l3:=hhd.layers.len;have m1:=nC (l[k].head.props.map jX.dat);have m2:=nC (l[k].head.marks.bJ.map kV.dat);have m3:=nC (l[k].head.marks.layers.map lF.dat);have hzs:=aqN hk2;have hzt:=aeh l (k+1);have ajS:=Dc l[k].cells;refine kP H (Kc K4 (SQ fun _ K6=>SB (SQ fun _ K7=>?_)));clear H K4;intro a H;refine dI hmx [[],[],[1],[1,2],[1,2,3],[],[],[5,6],[5,6,7],(ra 5 4),(ra 5 5),(ra 5 6),(ra 5 7),(ra 1 12),[],[],[14,15],[14,15,16],(ra 14 4),(ra 14 5),(ra 14 6),(ra 14 7),(ra 14 8),(ra 1 22),[],[],[24,25],[24,25,26],(ra 24 4),(ra 24 5),(ra 24 6),(ra 24 7),(ra 24 8),(ra 1 32),(ra 0 34),(ra 0 35)] [35] (by kernel_rfl) [_,_,_,vi lf,_,_,_,_,_,_,_,_,vi ((pn:Int).tdiv 8),_,_,_,_,_,_,_,_,_,vi ((dn:Int).tdiv 8),_,_,_,_,_,_,_,_,_,vi ((yn:Int).tdiv 8),_,_] H (aI (Z0 rfl (Rm rfl)) (Z0 rfl (Rm rfl)) (Z1 1 17 rfl (Rk rfl)) (Z1 2 18 rfl (Ro aD 0 rfl)) (aI (Z1 3 19 rfl (Rs rfl)) (Z0 rfl (Rm rfl)) (Z0 rfl (Rm rfl)) (Z2 5 21 6 22 rfl (Ri jG jJ rfl rfl)) (aI (Z1 7 23 rfl (Rf GU rfl)) (Z1 8 24 rfl (Rf Cq rfl)) (X1 9 25 rfl fun hG=>Rg zM rfl (aJ hG r0)) (Z1 10 26 rfl (Rl tV rfl)) (aI ?_ (Z2 4 20 12 28 rfl (Rs rfl)) (Z0 rfl (Rm rfl)) (Z0 rfl (Rm rfl)) (aI (Z2 14 30 15 31 rfl (Ri jG jJ rfl rfl)) (Z1 16 32 rfl (Rf GU rfl)) (Z1 17 33 rfl (Rf vD rfl)) (Z1 18 34 rfl (Rf mJ rfl)) (aI (X1 19 35 rfl fun hG=>Rg mR rfl (aJ hG r3)) (Z1 20 36 rfl (Rl lW rfl)) ?_ (Z2 13 29 22 38 rfl (Rs rfl)) (aI (Z0 rfl (Rm rfl)) (Z0 rfl (Rm rfl)) (Z2 24 40 25 41 rfl (Ri jG jJ rfl rfl)) (Z1 26 42 rfl (Rf GU rfl)) (aI (Z1 27 43 rfl (Rf vD rfl)) (Z1 28 44 rfl (Rf wF rfl)) (X1 29 45 rfl fun hG=>Rg xk rfl (aJ hG r4)) (Z1 30 46 rfl (Rl tX rfl)) (aI ?_ (Z2 23 39 32 48 rfl (Rs rfl)) (Z1 0 16 rfl (Rk rfl)) (cZ rfl) dQ))))))))) ?_
  ·refine fq 11 27 rfl rfl fun _ a w G1 hG HT H fin=>?_;refine Eo _ H wn rfl rfl (by omega) rfl (by omega) (by omega) rfl ?_;clear H;intro a H;exact fin H iJ rfl
  ·refine fq 21 37 rfl rfl fun _ a w G1 hG HT H fin=>?_;refine Eo _ H wn rfl rfl (by omega) rfl (by omega) (by omega) rfl ?_;clear H;intro a H;exact fin H iJ rfl
  ·refine fq 31 47 rfl rfl fun _ a w G1 hG HT H fin=>?_;refine Eo _ H wn rfl rfl (by omega) rfl (by omega) (by omega) rfl ?_;clear H;intro a H;exact fin H iJ rfl
  clear H;intro a w G uJ H hv;have H:=H.bC (hv 33 49 rfl rfl) rfl;have H:=H.bC (hv 34 50 rfl rfl) rfl;clear hv;refine bT aD 0 (vs:=[_]) _ H wn rfl rfl rfl rfl rfl rfl rfl rfl ?_;clear H;intro w H;dsimp only [List.set,setRow] at H;refine aH ⟨rfl,?_⟩;refine K7 _ _ ?_;clear K7;refine aN (fun _ K8=>?_);refine aN (fun _ K9=>?_);obtain ⟨lf1,akp⟩:∃ x,x=lf - 1 - (pn:Int).tdiv 8 - (dn:Int).tdiv 8 - (yn:Int).tdiv 8:=⟨_,rfl⟩;rw [← akp] at H;have Mv:∀ b o,g b=some o→G b=some o:=uJ;obtain ⟨g1,hg1⟩:∃ x,x=G:=⟨_,rfl⟩;rw [← hg1] at H Mv;refine kP H (SC (aL K9 rfl (SB ?_)));clear H K9;intro a H;skip;refine dV (ι:=Nat × Int × GH) (Tc:=[(0,_),(1,_),(2,_),(7,_)]) (Lc:=[]) (fun gh=>[(8,vi gh.1)]) (fun gh=>[rV bl gh.2.1]) (fun gh=>gh.2.2) (fun gh=>gh.1≤l[k].cells.length∧lf1 - 4*(iC (l[k].cells.take gh.1):Int)≤gh.2.1∧gh.2.1≤lf1∧(∀ b o,g b=some o→gh.2.2 b=some o)) (fun gh=>l[k].cells.length - gh.1) ((0,lf1,g1)) (by exact (H).sub ⟨rfl,rfl,rfl,rfl,rfl,av⟩) ?_ ?_
  ·exact ⟨by omega,by show lf1 - 4*((0:Nat):Int)≤lf1;omega,Int.le_refl _,Mv⟩
  clear H;rintro ⟨j,lf2,g2⟩ a w hI H;dsimp only at hI H;obtain ⟨hj,hlo2,hhi2,pI⟩:=hI;have kI:=fun b o h=>pI b o (hgm b o h);have arX:=aed l[k].cells j;replace r5:=aJ pI r5;dsimp only [lca,aO] at H;refine kP H (SQ fun _ aU=>SR fun _ bD=>Rm rfl (Rm rfl (Rm rfl (Ri jG jJ rfl rfl (Rf qh rfl (Rg qy rfl (by assumption) ?_))))));clear H;intro a H;refine kH H (Rl lQ rfl (Rc rfl (Kz bD (Cd rfl ?_ ?_)))) <;> clear H bD
  ·intro ji a H
   try have p58:=dT ji
   have hj2:j < l[k].cells.length:=by omega
   obtain ⟨b2,o2,qA,qn,qc,eA,en,ec,zA,zn,zc,fA,fn,fc,rfl,hrow2,Mw,Uo⟩:=AY hj2 hcl.at_;have t2:aF g2 b2 (o2+j*7+6)=some (.slice fA fn fc):=aJ kI (hrow2 6 _ rfl);have p1:=Eu qn;have p2:=Eu en;have p3:=Eu zn;have alQ:=uX l[k].cells[j];have arW:=Df l[k].cells[j].head;have l4:=Mw.props.len;have l5:=Mw.bJ.len;have l6:=Mw.layers.len;have m4:=nC (l[k].cells[j].head.props.map jX.dat);have m5:=nC (l[k].cells[j].head.marks.bJ.map kV.dat);have m6:=nC (l[k].cells[j].head.marks.layers.map lF.dat);have alR:=aqK hj2;have arZ:=aed l[k].cells (j+1);refine kP H (Kc aU (SQ fun _ bE=>SB (SR fun _ bQ=>Rm rfl (Rm rfl (Ri jG jJ rfl rfl (Rf qh rfl (Rg qy rfl (by assumption) ?_)))))));clear H aU;intro a H;refine kH H (Rm rfl (Ri lQ jK rfl rfl (Rf LM rfl ?_)));clear H;intro a H;refine bK lU (cs:=[.slice qA qn qc,vi l[k].cells[j].head.marks.ins,vi l[k].cells[j].head.marks.move,.slice eA en ec,.slice zA zn zc]) H wn rfl rfl (fun i v hi=>H.hp.aF (aJ kI (akf hrow2 i v hi))) rfl ?_;clear H;intro a H;refine dY lU H wn rfl ?_;clear H;intro b9 a w uL H;refine bT lU 0 (vs:=[_,_,_,_,_]) _ H wn rfl rfl rfl rfl rfl rfl rfl rfl ?_;clear H;intro w H;dsimp only [List.set,setRow] at H;refine bQ _ _ ?_;clear bQ;refine aN (fun _ bR=>?_);refine dI hmx [[],[],[1],[1,2],[1,2,3],[],[5],[5,6],[5,6,7],(ra 1 8),[],[10],[10,11],[10,11,12],(ra 10 4),(ra 1 14),[],[16],[16,17],[16,17,18],(ra 16 4),(ra 1 20),(ra 0 22),(ra 0 23)] [23] (by kernel_rfl) [_,_,_,vi lf2,_,_,.slice qA qn qc,_,vi ((qn:Int).tdiv 8),_,_,_,.slice eA en ec,_,vi ((en:Int).tdiv 8),_,_,_,.slice zA zn zc,_,vi ((zn:Int).tdiv 8),_,_] H (aI (Z0 rfl (Rm rfl)) (Z0 rfl (Rm rfl)) (Z1 1 71 rfl (Rk rfl)) (Z1 2 72 rfl (Ro aD 1 rfl)) (aI (Z1 3 73 rfl (Rs rfl)) (Z0 rfl (Rf Cq rfl)) (Z1 5 75 rfl (Ro zM 0 rfl)) (Z1 6 76 rfl (Rl tV rfl)) (aI ?_ (Z2 4 74 8 78 rfl (Rs rfl)) (Z0 rfl (Rf vD rfl)) (Z1 10 80 rfl (Rf mJ rfl)) (aI (Z1 11 81 rfl (Ro mR 0 rfl)) (Z1 12 82 rfl (Rl lW rfl)) ?_ (Z2 9 79 14 84 rfl (Rs rfl)) (aI (Z0 rfl (Rf vD rfl)) (Z1 16 86 rfl (Rf wF rfl)) (Z1 17 87 rfl (Ro xk 0 rfl)) (Z1 18 88 rfl (Rl tX rfl)) (aI ?_ (Z2 15 85 20 90 rfl (Rs rfl)) (Z1 0 70 rfl (Rk rfl)) (cZ rfl) dQ)))))) ?_
   ·refine fq 7 77 rfl rfl fun _ a w G1 hG HT H fin=>?_;refine Eo _ H wn rfl rfl (by omega) rfl (by omega) (by omega) rfl ?_;clear H;intro a H;exact fin H iJ rfl
   ·refine fq 13 83 rfl rfl fun _ a w G1 hG HT H fin=>?_;refine Eo _ H wn rfl rfl (by omega) rfl (by omega) (by omega) rfl ?_;clear H;intro a H;exact fin H iJ rfl
   ·refine fq 19 89 rfl rfl fun _ a w G1 hG HT H fin=>?_;refine Eo _ H wn rfl rfl (by omega) rfl (by omega) (by omega) rfl ?_;clear H;intro a H;exact fin H iJ rfl
   clear H;intro a w G Fh H hv;have H:=H.bC (hv 21 91 rfl rfl) rfl;have H:=H.bC (hv 22 92 rfl rfl) rfl;clear hv;refine bT aD 1 (vs:=[_]) _ H wn rfl rfl rfl rfl rfl rfl rfl rfl ?_;clear H;intro w H;dsimp only [List.set,setRow] at H;refine aH ⟨rfl,?_⟩;refine bR _ _ ?_;clear bR;refine kP H (SR fun _ bW=>Rm rfl (Rk rfl (Ro aD 1 rfl (Rc rfl (Rm rfl (Sp 97 rfl ?_ ?_)))))) <;> clear H
   ·intro h97 a H
    try have p97:=dT h97
    exact kH H (aT h97 rfl (Pt h97 rfl (Rm rfl (aZ rfl rfl (aZ rfl rfl (aZ rfl rfl (aZ rfl rfl (aT rfl rfl (Pt rfl rfl (Kz bW (Ct rfl rfl (SR fun _ cK=>ak cK rfl (LR results89 rfl fun H=>H.hp.bU (L':=[rV bl _]) (by repeat (first|exact cu _|apply List.Sublist.cons)) ⟨_,_,rfl,rfl,by omega,by omega⟩)))))))))))))
   intro h97 a H
   try have p97:=dF h97
   replace r5:=aJ Fh r5;replace t2:=aJ Fh t2;refine kH H (YM h97 rfl (YC h97 rfl (Pf h97 rfl (Rm rfl (Sp 101 rfl ?_ ?_))))) <;> clear H
   ·intro nu a H
    try have MS:=dT nu
    exact kH H (aZ nu rfl (aZ nu rfl (aZ nu rfl (aZ nu rfl (aT nu rfl (Pt nu rfl (Kz bW (Ct rfl rfl (SR fun _ bY=>ak bY rfl (LR results89 rfl fun H=>H.hp.bU (L':=[rV bl _]) (by repeat (first|exact cu _|apply List.Sublist.cons)) ⟨_,_,rfl,rfl,by omega,by omega⟩))))))))))
   intro nu a H
   try have MS:=dF nu
   refine kH H (YM nu rfl (YM nu rfl (YI jG jJ nu rfl rfl (YF qh nu rfl (YR qy nu rfl (by assumption) ?_)))));clear H;intro a H;refine kH H (YM nu rfl (YI lQ jK nu rfl rfl (YF Cn nu rfl (YR jy nu rfl (by assumption) ?_))));clear H;intro a H;refine kH H (YM nu rfl ?_);clear H;intro a H;refine mQ _ H (wg H rfl rfl nu) rfl rfl rfl (by omega) (by omega) rfl ?_;clear H;intro a H;refine kH H (YM nu rfl ?_);clear H;intro a H;refine gW RQ (Li:=[_]) (L:=[rV bl _]) (H.dx (Pl:=[_,_]) (bZ:=[_,_]) [0,1] (by decide) rfl) (wg H rfl rfl nu) rfl (ih _ _ l[k].cells[j].flow _ (uP - 1) _ bl (Hp.owns (Li:=[_]) (H.dx (Pl:=[_,_]) (bZ:=[_,_]) [0,1] (by decide) rfl).hp) (Uo.mono fun b o h=>Fh b o (kI b o h)) (by omega) (by omega) (by omega) (by omega) (by omega)) rfl ?_;clear H;rintro asw aej aqS a w ⟨aqV,lf3,rfl,rfl,hlo3,hhi3⟩ aks H;dsimp only [lca,aO] at H;refine kH H (YN nu rfl (Pf nu rfl (Kz bW (Cd rfl ?_ ?_)))) <;> clear H bW
   ·intro h116 a H
    try have PU:=dT h116
    exact kP H (SR fun _ dG=>ak dG rfl (LR results89 rfl fun H=>H.hp.bU (L':=[rV bl _]) (by repeat (first|exact cu _|apply List.Sublist.cons)) ⟨_,_,rfl,rfl,by omega,by omega⟩))
   intro h116 a H
   try have PU:=dF h116
   refine kP H (Kc bE (SC (Rm rfl (Rd rfl (Ra rfl ?_)))));clear H bE;intro a H;refine aH ?_;refine cB ((j+1,lf3,aej)) (by exact (H.dx (Pl:=[_,_]) (bZ:=[_]) [1] (by decide) rfl).sub ⟨rfl,rfl,rfl,rfl,rfl,av⟩) ?_ ?_
   ·(try dsimp only);exact ⟨by omega,by omega,by omega,fun b o h=>aks b o (Fh b o (pI b o h))⟩
   first|omega|(dsimp only;omega)
  intro ji a H
  try have p58:=dF ji
  refine dJ ?_;refine K8 _ _ ?_;clear K8;refine kP H (SR fun _ dN=>Rm rfl (Rk rfl (Ro aD 0 rfl (Rc rfl (Kz dN (Cd rfl ?_ ?_)))))) <;> clear H dN
  ·intro ny a H
   try have FJ:=dT ny
   exact kP H (SR fun _ dH=>ak dH rfl (LR results89 rfl fun H=>H.hp.bU (L':=[rV bl _]) (by repeat (first|exact cu _|apply List.Sublist.cons)) ⟨_,_,rfl,rfl,by omega,by omega⟩))
  intro ny a H
  try have FJ:=dF ny
  refine kP H (Kc K6 (SC (Rm rfl (Rd rfl (Ra rfl ?_)))));clear H K6;intro a H;refine aH ?_;refine cB ((k+1,lf2,g2)) (by exact (H).sub ⟨rfl,rfl,rfl,rfl,av⟩) ?_ ?_
  ·(try dsimp only);exact ⟨by omega,by omega,by omega,kI⟩
  first|omega|(dsimp only;omega)
 intro eO a H
 try have nZ:=dF eO
 refine dJ ?_;refine K2 _ _ ?_;clear K2;exact kP H (SR fun _ dP=>ak dP rfl (LR results89 rfl fun H=>H.hp.bU (L':=[rV bl _]) (by repeat (first|exact cu _|apply List.Sublist.cons)) ⟨_,_,rfl,rfl,by omega,by omega⟩))
theorem V8:∀ n:Nat,n≤4294967296→ND n
 | 0,_=>fun _ _ _ _ _ _ _ _ _ hz=>absurd hz (Nat.not_lt_zero _)
 | n+1,h=>apv (V8 n (by omega)) (by omega) (fun G w0 l v uP left bl hO hv hz h1 h2 h3 h4=>apx (V8 n (by omega)) (by omega) G w0 l v uP left bl hO hv hz h1 h2 h3 h4)
theorem apw (G:GH) (w0:World) (hG:Hold G w0) (l:List aC) (v:aj) (hv:aB G (.sl 11 (l.map aC.dat)) v) (hz:bB l≤1073741824) :
  Calls prog 10 #[v] w0 (bV w0 G fun u G'=>∃ b,u=.bool b):=by
 refine eN [(0,_)] func10 rfl ntmps10 rfl rfl hG ?_;intro a H;refine kP H (SR fun _ K1=>ak K1 rfl (SR fun _ K2=>?_));clear H K1;intro a H;refine dY aD H wn rfl ?_;clear H;intro b3 a w hb3 H;refine bT aD 0 (vs:=[_]) _ H wn rfl rfl rfl rfl rfl rfl rfl rfl ?_;clear H;intro w H;dsimp only [List.set,setRow] at H;refine K2 _ _ ?_;clear K2;refine kP H (SR fun _ K3=>Rm rfl ?_);clear H;intro a H;refine gW RQ (Li:=[]) (L:=[rV b3 300]) H wn rfl (V8 4294967296 (dB _) _ _ l v 12 300 b3 (Hp.owns (Li:=[]) H.hp) hv (by omega) (by decide) (by decide) (by decide) (by omega)) rfl ?_;clear H;rintro v5 G5 L5 a w ⟨b5,lf5,rfl,rfl,-,-⟩ hm5 H;exact kH H (ak K3 rfl (LR results10 rfl fun H=>H.rt ⟨_,rfl⟩))
end
end Go.Proofs.YthmanofbmnfemaaGreat
