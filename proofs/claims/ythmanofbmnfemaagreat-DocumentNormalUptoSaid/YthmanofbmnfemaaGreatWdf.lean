/-
  What the claim stands on, part 6: Mck Dnc Mis Pm13 Mus Mud Rf13 Mnm Nd13 Ne13 Kt K13 Kn13 Mid Mhd Mow Mro Mfl Sms13 Par It Div Nrm Pas L14 L14b L14c L14d L14e Sl Txt Sec K14 K14b Sml Mdk Eqi En.
-/
import Derived.Test.YthmanofbmnfemaaGreatWde
namespace Go.Proofs.YthmanofbmnfemaaGreat
open Go.Proofs.Tryz
set_option maxRecDepth 20000
set_option maxHeartbeats 4000000
section
open Go.RowKit
instance:dL prog 56 0 0:=⟨by kernel_rfl⟩
variable {us:List Int} {uo:ak}
abbrev iC (uo:ak) (D:gM) (b:Nat) (v:ak) (n:Int):Nat × Obj:=(b,.cells #[aM D.f,aM D.p,vi D.ins,vi D.move,aM D.d,aM D.y,aM D.r,aM D.s1,aM D.s2,aM D.s3,aM D.s4,v,uo,vi n] 56 (0,0))
structure BJ (us:List Int) (uo:ak) (G:GH) (D:gM) (st:List bH) (li:List dz) (rv:List bD):Prop where
 sty:ay G (.sl 6 (st.map bH.dat)) (aM D.s1)
 lU:ay G (.sl 2 (li.map dz.dat)) (aM D.s2)
 rev:ay G (.sl 3 (rv.map bD.dat)) (aM D.r)
 WT:ay G (.sl 1 (us.map fun k=>[.lf (.int .i64 k)])) uo
theorem BJ.mono {G G':GH} {D:gM} {st:List bH} {li:List dz} {rv:List bD} (h:BJ us uo G D st li rv) (hm:∀ b o,G b=some o→G' b=some o):BJ us uo G' D st li rv:=⟨h.sty.mono hm,h.lU.mono hm,h.rev.mono hm,h.WT.mono hm⟩
structure Gy (st:List bH) (li:List dz) (rv:List bD):Prop where
 fr:zK (st.map bH.id)
 sn:st.length≤4294967296
 ln:li.length≤4294967296
 rn:rv.length≤4294967296
theorem apX {G:GH} {r:List Int} {A:Option Addr} {n c k:Nat} (hv:ay G (.sl 1 (r.map fun k=>[li k])) (.slice A n c)) (hk:k < r.length):∃ b o,A=some ⟨b,o,none⟩∧aC G b (o+k*1)=some (vi r[k]):=by
 obtain ⟨A',c',he,-,-,hg⟩:=hv.slice
 injection he with e1 e2 e3
 subst e1;obtain ⟨b,o,cs,h1,h2,h3,h4⟩:=hg k [li r[k]] (by simp [hk]);obtain ⟨v1,_,rfl,⟨rfl,-⟩,rfl⟩:∃ v vs,cs=v :: vs∧ay G (li r[k]) v∧aZ G [] vs:=h4;exact ⟨b,o,h1,by simpa using h3 0 _ rfl⟩
theorem WH {α:Type} {l:List α} {x:α} {k:Nat} (hk:l.length≤k) (h:x∉l.take k):x∉l:=by rwa [iL hk] at h
theorem WI {α:Type} {l:List α} {x:α} {k:Nat} (hk:k < l.length) (h:x∉l.take k) (hn:¬ l[k]=x):x∉l.take (k+1):=by
 rw [gI hk,ng,qO];exact fun h'=>h'.elim h fun e=>hn e.symm
theorem P5 (G:GH) (w0:World) (hG:Hold G w0) (l:List Int) (v:ak) (hv:ay G (.sl 1 (l.map fun k=>[li k])) v) (x:Int) :
  Calls prog 71 #[v,vi x] w0 (bB w0 G fun u G'=>u=.bool (decide (x∈l))∧G=G'):=by
 obtain ⟨A,c,rfl,hc1,hc2,-⟩:=hv.slice;have hml:maxLen=9223372036854775807:=rfl;rw [bE] at *;refine eN [(0,_),(1,_)] func71 rfl ntmps71 rfl rfl hG ?_;refine aj 8 ?_;intro a H;refine dD (ι:=Nat) (Tc:=[(0,_),(1,_)]) (Lc:=[]) (fun gh=>[(5,vi gh)]) (fun gh=>[]) (fun gh=>G) (fun gh=>gh≤l.length∧x∉l.take gh) (fun gh=>l.length - gh) (0) sB ?_ ?_
 ·exact ⟨eG _,by simp⟩
 clear H;intro k a w hI H;obtain ⟨hk,he⟩:=hI;dsimp only [lca,aQ] at H;refine cK 7 H ?_ ?_ <;> clear H
 ·intro p9
  have hk2:k < l.length:=by omega
  obtain ⟨b,o,rfl,hcell⟩:=apX hv hk2;refine goB 11 ?_ ?_
  ·intro kF
   refine aJ 3 ?_;exact ⟨dJ (eZ (kF ▸ iq hk2)).symm,rfl⟩
  intro kF
  refine aj 5 ?_;intro a H;refine aI ?_;refine bR ((k+1)) sB ?_ ?_
  ·exact ⟨by omega,WI hk2 he kF⟩
  first|omega|(dsimp only;omega)
 intro p9
 refine aJ 4 ?_;exact ⟨dJ (gD (WH (by omega) he)).symm,rfl⟩
theorem WB (G:GH) (w0:World) (hG:Hold G w0) (D:gM) (st:List bH) (li:List dz) (rv:List bD) (b:Nat) (v:ak) (n:Int) (hk:BJ us uo G D st li rv) (hz:Gy st li rv) (hb:G b=some (iC uo D b v n).2) (x:Int) :
  Calls prog 97 #[(aK b 0),vi x] w0 (bB w0 G fun u G'=>u=.bool (decide (x∈rv.map bD.id))∧G=G'):=by
 have hc6:aC G b 6=some (aM D.r):=by unfold aC;rw [hb];rfl
 have jO:=hk.rev
 generalize aM D.r=v6 at hc6 jO
 obtain ⟨A,c,rfl,hc1,hc2,-⟩:=jO.slice;have hrn:=hz.rn;rw [bE] at *;refine eN [(0,_),(1,_)] func97 rfl ntmps97 rfl rfl hG ?_;refine aj 8 ?_;intro a H;refine dD (ι:=Nat) (Tc:=[(0,_),(1,_)]) (Lc:=[]) (fun gh=>[(5,vi gh)]) (fun gh=>[]) (fun gh=>G) (fun gh=>gh≤rv.length∧x∉(rv.map bD.id).take gh) (fun gh=>rv.length - gh) (0) sB ?_ ?_
 ·exact ⟨eG _,by simp⟩
 clear H;intro k a w hI H;obtain ⟨hk,he⟩:=hI;dsimp only [lca,aQ] at H;refine cK 11 H ?_ ?_ <;> clear H
 ·intro oJ
  have hk2:k < rv.length:=by omega
  obtain ⟨b',o,rfl,hrow⟩:=FH jO hk2;have hcell:=hrow 0 _ rfl;refine goB 16 ?_ ?_
  ·intro p26
   refine aJ 3 ?_;exact ⟨dJ (eZ (List.mem_map.2 ⟨_,iq hk2,p26⟩)).symm,rfl⟩
  intro p26
  refine aj 5 ?_;intro a H;refine aI ?_;refine bR ((k+1)) sB ?_ ?_
  ·exact ⟨by omega,WI (l:=rv.map bD.id) (by simpa using hk2) he (by simpa using p26)⟩
  first|omega|(dsimp only;omega)
 intro oJ
 refine aJ 4 ?_;exact ⟨dJ (gD (WH (by simp;omega) he)).symm,rfl⟩
theorem amN {l:List bH} (f:zK (l.map bH.id)) {i j:Nat} (hi:i < l.length) (hj:j < l.length) (h:l[i].id=l[j].id):i=j:=by
 rcases Nat.lt_trichotomy i j with c|c|c
 ·have:=f j (by simpa using hj);exact absurd (List.mem_take_iff_getElem.2 ⟨i,by simp;omega,by simpa using h⟩) this
 ·exact c
 have:=f i (by simpa using hi);exact absurd (List.mem_take_iff_getElem.2 ⟨j,by simp;omega,by simpa using h.symm⟩) this
theorem auM {l:List bH} (f:zK (l.map bH.id)) {x:Int} {k:Nat} (hk:k < l.length) (h:l[k].id=x):Ep l x=l[k].kind:=by
 unfold Ep
 cases e:l.find? fun s=>decide (s.id=x) with
 | none=>exact absurd (List.find?_eq_none.1 e _ (iq hk)) (by simpa using h)
 | some s =>
  obtain ⟨j,hj,rfl⟩:=List.getElem_of_mem (List.mem_of_find?_eq_some e);have h2:=List.find?_some e;have:=amN f hj hk (by rw [h];simpa using h2);subst this
  rfl
theorem auN {l:List bH} {x K:Int} (hK:K≠0) (h:∀ j (hj:j < l.length),¬ (l[j].id=x∧l[j].kind=K)):Ep l x≠K:=by
 unfold Ep
 cases e:l.find? fun s=>decide (s.id=x) with
 | none=>exact fun h'=>hK h'.symm
 | some s =>
  obtain ⟨j,hj,rfl⟩:=List.getElem_of_mem (List.mem_of_find?_eq_some e);have h2:=List.find?_some e;exact fun h'=>h j hj ⟨by simpa using h2,h'⟩
theorem Nh (G:GH) (w0:World) (hG:Hold G w0) (D:gM) (st:List bH) (li:List dz) (rv:List bD) (b:Nat) (v:ak) (n:Int) (hk:BJ us uo G D st li rv) (hz:Gy st li rv) (hb:G b=some (iC uo D b v n).2) (key x:Int) :
  Calls prog 96 #[(aK b 0),vi key,vi x] w0 (bB w0 G fun u G'=>u=vi (jY st (li.map dz.id) key x)∧G=G'):=by
 have hc7:aC G b 7=some (aM D.s1):=by unfold aC;rw [hb];rfl
 have hc8:aC G b 8=some (aM D.s2):=by unfold aC;rw [hb];rfl
 have hst:=hk.sty;have wW:=hk.lU
 generalize aM D.s1=v7 at hc7 hst
 generalize aM D.s2=v8 at hc8 wW
 obtain ⟨A,c,rfl,hc1,hc2,-⟩:=hst.slice;obtain ⟨B,d,rfl,hd1,hd2,-⟩:=wW.slice;have hsn:=hz.sn;have hln:=hz.ln;rw [bE] at *;refine eN [(0,_),(1,_),(2,_)] func96 rfl ntmps96 rfl rfl hG ?_;refine goB 8 ?_ ?_
 ·intro lu
  refine aJ 3 ?_;exact ⟨aB vi (by rw [lu];unfold jY;simp [bK]),rfl⟩
 intro lu
 refine aj 6 ?_;intro a H;refine oQ (ι:=Bool) (Tc:=[(0,_),(1,_),(2,_),(13,_)]) (Lc:=[]) (fun gh=>[(14,.bool gh)]) (fun gh=>[]) (fun gh=>G) (fun gh=>gh=decide (key=20∨key=1)) sB ?_ ?_
 ·refine cK 4 H ?_ ?_ <;> clear H
  ·intro kM
   intro a H;refine iE ?_;refine ⟨decide (key=20),sB,?_⟩
   simp_all
  intro kM
  refine aj 3 ?_;intro a H;refine aI ?_;refine ⟨decide (key=1),sB,?_⟩
  simp_all
 clear H;intro q a w hI H;subst hI;dsimp only [lca,aQ] at H;refine cK 0 H ?_ ?_ <;> clear H
 ·intro kM
  refine aj 3 ?_;intro a H;refine oQ (ι:=Int) (Tc:=[(0,_),(2,_)]) (Lc:=[]) (fun gh=>[(7,vi gh)]) (fun gh=>[]) (fun gh=>G) (fun gh=>(key=20∨key=1)∧gh=(if key=1 then 2 else 1)) sB ?_ ?_
  ·refine cK 4 H ?_ ?_ <;> clear H
   ·intro nM
    refine aj 2 ?_;intro a H;refine aI ?_;refine ⟨2,sB,?_⟩;exact ⟨kM,by first|exact (au (by omega)).symm|exact (ah (by omega)).symm⟩
   intro nM
   intro a H;refine iE ?_;refine ⟨1,sB,?_⟩;exact ⟨kM,by first|exact (au (by omega)).symm|exact (ah (by omega)).symm⟩
  clear H;intro kd a w hI H;obtain ⟨hkk,hkd⟩:=hI
  have hE:jY st (li.map dz.id) key x=bK (decide (x≠0∧Ep st x≠kd)) 25:=by rw [jY,au hkk,hkd]
  dsimp only [lca,aQ] at H;refine dG 5 H ?_;clear H;intro a H;refine dD (ι:=Nat) (Tc:=[(0,_),(2,_),(7,_)]) (Lc:=[]) (fun gh=>[(8,vi gh)]) (fun gh=>[]) (fun gh=>G) (fun gh=>gh≤st.length∧∀ j (hj:j < st.length),j < gh→¬ (st[j].id=x∧st[j].kind=kd)) (fun gh=>st.length - gh) (0) sB ?_ ?_
  ·exact ⟨eG _,fun j _ h=>absurd h (by omega)⟩
  clear H;intro k a w hI H;obtain ⟨hk,he⟩:=hI;dsimp only [lca,aQ] at H;refine cK 12 H ?_ ?_ <;> clear H
  ·intro p27
   have hk2:k < st.length:=by omega
   obtain ⟨b',o,pA,pc,rfl,hrow,-,-⟩:=Bv hst hk2;refine aj 12 ?_;intro a H;refine aT jk (cs:=[_,_,_,_,_,_]) H wn rfl rfl (fun j v hj=>H.hp.aC (hrow j v hj)) rfl ?_;clear H;intro a H;refine dx jk H wn rfl ?_;clear H;intro b9 a w qE H;refine bq jk 0 (vs:=[_,_,_,_,_,_]) _ H wn rfl rfl rfl rfl rfl rfl rfl rfl ?_;clear H;intro w H;dsimp only [List.set,setRow] at H;refine ku 7 43 H ?_ ?_ <;> clear H
   ·intro p43
    refine goB 6 ?_ ?_
    ·intro p48
     refine aJ 3 ?_;exact ⟨aB vi (by rw [hE,auM hz.fr hk2 p43];simp [bK,p48]),rfl⟩
    intro p48
    refine aj 5 ?_;intro a H;refine aI ?_;refine bR ((k+1)) (by exact (H.bY (Pl:=[_]) (bT:=[]) [] (by decide) rfl).sub ⟨rfl,rfl,rfl,rfl,aY⟩) ?_ ?_
    ·exact ⟨by omega,fun j hj h=>by
     by_cases e:j=k
     ·subst e;first|exact fun h'=>p48 h'.2|exact fun h'=>p43 h'.1
     exact he j hj (by omega)⟩
    first|omega|(dsimp only;omega)
   intro p43
   refine aj 12 ?_;intro a H;refine aI ?_;refine bR ((k+1)) (by exact (H.bY (Pl:=[_]) (bT:=[]) [] (by decide) rfl).sub ⟨rfl,rfl,rfl,rfl,aY⟩) ?_ ?_
   ·exact ⟨by omega,fun j hj h=>by
    by_cases e:j=k
    ·subst e;first|exact fun h'=>p48 h'.2|exact fun h'=>p43 h'.1
    exact he j hj (by omega)⟩
   first|omega|(dsimp only;omega)
  intro p27
  refine aJ 4 ?_;exact ⟨aB vi (by rw [hE,bK,au (eZ ⟨lu,auN (by rw [hkd];split <;> decide) fun j hj=>he j hj (by omega)⟩)]),rfl⟩
 intro kM
 refine goB 4 ?_ ?_
 ·intro p49
  refine aj 5 ?_;intro a H;refine dD (ι:=Nat) (Tc:=[(0,_),(2,_)]) (Lc:=[]) (fun gh=>[(10,vi gh)]) (fun gh=>[]) (fun gh=>G) (fun gh=>gh≤li.length∧x∉(li.map dz.id).take gh) (fun gh=>li.length - gh) (0) sB ?_ ?_
  ·exact ⟨eG _,by simp⟩
  clear H;intro k a w hI H;obtain ⟨hk,he⟩:=hI;dsimp only [lca,aQ] at H;refine cK 12 H ?_ ?_ <;> clear H
  ·intro p59
   have hk2:k < li.length:=by omega
   obtain ⟨b',o,B',d',rfl,hrow,-⟩:=Ir wW hk2;have hcell:=hrow 0 _ rfl;refine goB 17 ?_ ?_
   ·intro p73
    refine aJ 3 ?_;exact ⟨aB vi (by rw [jY,ah (by omega),au p49,bK,ah (by simpa using fun _=>⟨_,iq hk2,p73⟩)]),rfl⟩
   intro p73
   refine aj 5 ?_;intro a H;refine aI ?_;refine bR ((k+1)) sB ?_ ?_
   ·exact ⟨by omega,WI (l:=li.map dz.id) (by simpa using hk2) he (by simpa using p73)⟩
   first|omega|(dsimp only;omega)
  intro p59
  refine aJ 4 ?_;exact ⟨aB vi (by rw [jY,ah (by omega),au p49,bK,au (eZ ⟨lu,WH (by simp;omega) he⟩)]),rfl⟩
 intro p49
 refine aJ 4 ?_;exact ⟨aB vi (by rw [jY,ah (by omega),ah p49]),rfl⟩
end
section
open Go.RowKit
section
variable {N:Nat} {D:List Deferred} {w0:World} {F:Nat→Prop} {G0 G G1 G2:GH} {L L1 L2:OL} {T Xs:List (Nat × ak)}
variable {r:Option Nat} {P:Program} {Q:Exit→Act→World→Prop} {l:List Oper} {a a':Act} {w w':World}
end
end
section
open Go.RowKit
theorem aar:∀ args w,(callFunc 13 args).run prog w=.ok (.enter 13 args) w:=enters func13 rfl (by kernel_rfl)
theorem aqk (G:GH) (n:Int):aZ G [li n] [vi n]:=by simp [aZ,ay,Value.oneCell']
end
section
open Go.RowKit
theorem auI {R l:List Int} (h1:R.Perm l) (h2:R.Pairwise (·≤·)):R=rJ l:=by
 have h3:=Go.mergeSort_of_perm_i h1
 unfold rJ
 rw [← h3];exact (List.mergeSort_of_pairwise (h2.imp fun h=>aG h)).symm
end
section
open Go.RowKit
theorem FN:prog.underlying 112=some (.slice 29):=by kernel_rfl
instance:kR prog 112 (.slice 29):=⟨FN⟩
theorem adJ (G:GH) (k:Int):ay G (li k) (vi k):=by simp [ay,li,Value.oneCell']
def rH (r:aS):List cu:=r.head :: r.cells.map aR.head
def mH (x:av):List cu:=x.head :: (if x.kind=7 then x.rows.flatMap rH else [])
def pH (p:jL):List cu:=p.items.flatMap mH
def xA (l:List av) (h:cu):List cu:=h :: (ny l).flatMap pH
abbrev hS (f:cu→Nat) (L:List cu):Nat:=(L.map f).sum
theorem AV (f:cu→Nat) (A B:List cu):hS f (A++B)=hS f A+hS f B:=by simp [hS]
theorem AX (f:cu→Nat) (x:cu) (A:List cu):hS f (x :: A)=f x+hS f A:=by simp [hS]
theorem aqO (k c i:Int) (tx:ByteArray) (h:cu) (fl:List av) (r:List aS):mH (.mk k c i tx h fl r)=h :: (if k=7 then r.flatMap rH else []):=rfl
mutual
theorem apE (f:cu→Nat) (g:Int) (t:Nat) (note:Bool) (tt:Int):∀ x:av,hS f (mH x)+hS f ((Di g t note tt x).flatMap pH)=hS f (AO x)
 | .mk k c i tx h fl r=>by
  have hf:=Qr f i true tt 0 fl;have hr:=acT f g t note (tt+1) r;rw [Di,AO,aqO]
  by_cases h6:k=6
  ·have h7:¬ k=7:=by omega
   rw [ah h7,au h6,au h6,ah h7,lD,List.flatMap_cons,AX,AX,AV]
   show f h+hS f []+(hS f (fl.flatMap mH)+_)=_
   have:hS f []=0:=rfl
   omega
  by_cases h7:k=7
  ·rw [au h7,ah h6,au h7,ah h6,au h7,jv,AX,AX]
   omega
  rw [ah h7,ah h6,ah h7,ah h6,ah h7];rfl
theorem Qr (f:cu→Nat) (g:Int) (note:Bool) (tt:Int):∀ (t:Nat) (l:List av),hS f (l.flatMap mH)+hS f ((qw g note tt t l).flatMap pH)=hS f (kU l)
 | _,[]=>by rw [qw,kU];rfl
 | t,x :: l=>by
  have h1:=apE f g t note tt x;have h2:=Qr f g note tt (t+n1 x) l;rw [qw,kU,List.flatMap_cons,List.flatMap_append,AV,AV,AV];omega
theorem apF (f:cu→Nat) (g:Int) (t:Nat) (note:Bool) (tt:Int):∀ x:aS,hS f (rH x)+hS f ((Dj g t note tt x).flatMap pH)=hS f (AU x)
 | .mk h cs=>by
  have hc:=acR f g t note tt cs;rw [Dj,AU]
  unfold rH
  dsimp only [aS.head,aS.cells];rw [AX,AX];omega
theorem acT (f:cu→Nat) (g:Int) (t:Nat) (note:Bool) (tt:Int):∀ l:List aS,hS f (l.flatMap rH)+hS f ((rY g t note tt l).flatMap pH)=hS f (tu l)
 | []=>by rw [rY,tu];rfl
 | x :: l=>by
  have h1:=apF f g t note tt x;have h2:=acT f g t note tt l;rw [rY,tu,List.flatMap_cons,List.flatMap_append,AV,AV,AV];omega
theorem apD (f:cu→Nat) (g:Int) (t:Nat) (note:Bool) (tt:Int):∀ x:aR,f x.head+hS f ((EK g t note tt x).flatMap pH)=hS f (AL x)
 | .mk i h fl=>by
  have hf:=Qr f i note tt 0 fl;rw [Zj,AL];dsimp only [aR.id,aR.flow,aR.head];rw [List.flatMap_cons,AX,AV]
  show f h+(hS f (fl.flatMap mH)+_)=_
  omega
theorem acR (f:cu→Nat) (g:Int) (t:Nat) (note:Bool) (tt:Int):∀ l:List aR,hS f (l.map aR.head)+hS f ((vC g t note tt l).flatMap pH)=hS f (uG l)
 | []=>by rw [vC,uG];rfl
 | x :: l=>by
  have h1:=apD f g t note tt x;have h2:=acR f g t note tt l;rw [vC,uG,dR,List.flatMap_append,AX,AV,AV];omega
end
theorem acS (L:List cu):hS (fun _=>1) L=L.length:=by
 induction L with
 | nil=>rfl
 | cons x L ih=>rw [AX,ih,jS];omega
mutual
theorem anv:∀ x:av,(AO x).length < bM x.dat
 | .mk k c i tx h fl r=>by
  have h4:=pU (.mk k c i tx h fl r);have hf:=PS fl;have hr:=abD r;dsimp only [av.text,av.head,av.flow,av.rows] at h4;rw [AO,jS,jc]
  split <;> split <;> (try simp only [List.length_nil]) <;> omega
theorem PS:∀ l:List av,(kU l).length≤aX l
 | []=>by simp [kU]
 | x :: l=>by
  have h1:=anv x;have h2:=PS l;rw [kU,jc]
  simp only [aX,dR,dY] at *;omega
theorem anE:∀ x:aS,(AU x).length≤bM x.dat
 | .mk h cs=>by
  have h4:=tO (.mk h cs);have hc:=abr cs;dsimp only [aS.head,aS.cells] at h4;rw [AU,jS];omega
theorem abD:∀ l:List aS,(tu l).length≤eD l
 | []=>by simp [tu]
 | x :: l=>by
  have h1:=anE x;have h2:=abD l;rw [tu,jc]
  simp only [eD,dR,dY] at *;omega
theorem amT:∀ x:aR,(AL x).length≤bM x.dat
 | .mk i h fl=>by
  have h4:=uZ (.mk i h fl);have hf:=PS fl;dsimp only [aR.head,aR.flow] at h4;rw [AL,jS];omega
theorem abr:∀ l:List aR,(uG l).length≤gH l
 | []=>by simp [uG]
 | x :: l=>by
  have h1:=amT x;have h2:=abr l;rw [uG,jc]
  simp only [gH,dR,dY] at *;omega
end
theorem acQ (f:cu→Nat) (l:List av) (h:cu):hS f (xA l h)=f h+hS f (kU l):=by
 have h1:=Qr f 0 false 0 0 l
 unfold xA
 rw [AX,← h1]
 show f h+hS f (pH ⟨0,l,-1,0,false,0⟩++(qw 0 false 0 0 l).flatMap pH)=_
 rw [AV]
 rfl
theorem adT (l:List av) (h:cu):(xA l h).length≤1+aX l:=by
 have h1:=acQ (fun _=>1) l h;have h2:=PS l;rw [acS,acS] at h1
 omega
theorem abU {G:GH} {h:cu} {p d y:ak} (hR:gW G h p d y):aZ G h.dat [p,vi h.marks.ins,vi h.marks.move,d,y] :=
 ⟨_,_,rfl,hR.props,_,_,rfl,adJ G _,_,_,rfl,adJ G _,_,_,rfl,hR.bg,_,_,rfl,hR.layers,rfl⟩
structure BI (g:GH) (v:ak) (R:List cu) (xs:List ak) (Lo:OL):Prop where
 row:cB 29 5 v R.length xs Lo
 cat:bV g 5 (R.map cu.dat) xs
theorem BI.snoc {g:GH} {v v':ak} {R:List cu} {xs:List ak} {Lo jo:OL} {h:cu} {p d y:ak} (hr:BI g v R xs Lo) (hh:gW g h p d y) (h2:cB 29 5 v' (R.length+1) (xs++[p,vi h.marks.ins,vi h.marks.move,d,y]) jo):BI g v' (R++[h]) (xs++[p,vi h.marks.ins,vi h.marks.move,d,y]) jo :=
 ⟨by rw [jc];exact h2,by rw [lg];exact hr.cat.snoc (abU hh) rfl⟩
theorem aow {e b:Nat} {xs:List ak} (h:xs.length=5):cB e 5 (.slice (some ⟨b,0,none⟩) 1 1) 1 xs [(b,.cells xs.toArray e (0,0))]:=⟨by rw [h],.inr ⟨b,1,xs.toArray,rfl,rfl,bX _,by decide,by simp [h],by simp [← h]⟩⟩
theorem aqY (G:GH) (w0:World) (hG:Hold G w0) (D:gM) (l:List av) (hv:ay G (.sl 11 (l.map av.dat)) (aM D.f)) (hz:aX l≤1073741824) :
  Calls prog 15 #[D.val] w0 (bB w0 G fun u G'=>u=vi (kY (fC l))):=by
 have hml:maxLen=9223372036854775807:=rfl;have hbw:=Dm l
 have hbl:(fC l).length≤1073741825:=by
  have hn:=IX false 0 l;rw [fC,jS];omega
 refine eN [(0,_)] func15 rfl ntmps15 rfl rfl hG ?_;refine aj 1 ?_;intro a H;refine dN (cs:=[_,_,_,_,_,_,_,_,_,_,_]) H wn rfl rfl rfl ?_;clear H;intro b1 a w hb1 H;refine aH 6 H ?_;clear H;intro a H;refine aT iY (cs:=[_,_,_,_,_,_,_,_,_,_,_]) H wn rfl rfl (H.hp.cO 0 rfl rfl) rfl ?_;clear H;intro a H;refine s_call aar H wn rfl (abl _ _ H.ro D l hv (by omega)) rfl ?_;clear H;rintro v9 G9 a w Ie ze H;obtain ⟨A4,n4,c4,rfl⟩:=Ie.form;have JV:=Ie.len;rw [bE] at JV;obtain rfl:n4=(ny l).length:=JV;refine aH 7 H ?_;clear H;intro a H;refine dD (ι:=Nat) (Tc:=[(4,_)]) (Lc:=[(_,_)]) (fun gh=>[(3,vi (kY ((fC l).take gh))),(5,vi gh)]) (fun gh=>[]) (fun gh=>G9) (fun gh=>gh≤(ny l).length) (fun gh=>(ny l).length - gh) (0) sB ?_ ?_
 ·exact eG _
 clear H;intro i a w hI H;have hi:=hI;dsimp only [lca,aQ] at H;refine cK 7 H ?_ ?_ <;> clear H
 ·intro oJ
  have hi2:i < (ny l).length:=by omega
  have hi3:i < (fC l).length:=by omega
  obtain ⟨b,o,vv,rfl,hrow,hit⟩:=Zm Ie hi2;obtain ⟨-,e2⟩:=Zt hi2;rw [e2] at hit;have Vb:=afL l hz (i+1) (by omega);rw [NT hi3] at Vb;obtain ⟨qA,qn,qc,rfl⟩:=hit.form;refine aj 8 ?_;intro a H;refine iH zB H wn rfl (H.hp.aC (hrow 1 _ rfl)) rfl ?_;clear H;intro a H;refine s_call OW H wn rfl (QI _ _ H.ro (fC l)[i].items _ hit (Nat.le_trans (Ph (iq hi3)) (by omega))) rfl ?_;clear H;rintro v22 _ a w ⟨rfl,rfl⟩ - H;refine aH 1 H ?_;clear H;intro a H;(iterate 2 refine qK H wn rfl rfl rfl ?_;clear H;intro a H);refine aH 7 H ?_;clear H;intro a H;rw [← NT hi3] at H;refine aH 6 H ?_;clear H;intro a H;refine aI ?_;refine bR (i+1) sB ?_ ?_
  ·omega
  first|omega|(dsimp only;omega)
 intro oJ
 obtain rfl:i=(ny l).length:=by omega
 intro a H;rw [hbw,wL] at H;refine wS 5 H ?_;exact rfl
theorem aeM {l m:List ak} {j:Nat} {v:ak} (h:l[j]?=some v):(l++m)[j]?=some v:=by
 rw [yQ (jr.1 h).1];exact h
theorem arh {l m:List ak} {x v:ak} {j:Nat} (h:l[j]?=some v):(x :: (l++m))[1+j]?=some v:=by
 rw [Nat.add_comm,List.getElem?_cons_succ];exact aeM h
theorem BI.len {g:GH} {v:ak} {R S M:List cu} {xs:List ak} {Lo:OL} (_:BI g v R xs Lo) (h:R++S=M):R.length≤M.length:=by
 rw [← h,jc];omega
theorem aqR (G:GH) (w0:World) (hG:Hold G w0) (D:gM) (d:iW) (hR:mJ G D d) (hz:aX d.flow≤1073741824) :
  Calls prog 56 #[D.val] w0 (bB w0 G fun u G'=>ay G' (.sl 5 ((xA d.flow d.fin).map cu.dat)) u):=by
 have hml:maxLen=9223372036854775807:=rfl;have hbw:=Dm d.flow;have U5:=adT d.flow d.fin
 have hbl:(fC d.flow).length≤1073741825:=by
  have hn:=IX false 0 d.flow;rw [fC,jS];omega
 obtain ⟨M,hM⟩:∃ M,M=xA d.flow d.fin:=⟨_,rfl⟩;rw [← hM] at U5 ⊢;refine eN [(0,_)] func56 rfl ntmps56 rfl rfl hG ?_;refine aj 1 ?_;intro a H;refine dN (cs:=[_,_,_,_,_,_,_,_,_,_,_]) H wn rfl rfl rfl ?_;clear H;intro b1 a w hb1 H;refine aH 2 H ?_;clear H;intro a H;obtain ⟨Ga,hma,hb1',H⟩:=H.dS;have hga:=fun j v hj=>nE hb1' 0 D.cells rfl j v hj
 have hgd:∀ j v,[aM D.p,vi d.fin.marks.ins,vi d.fin.marks.move,aM D.d,aM D.y][j]?=some v→aC Ga b1 (1+j)=some v:=fun j v hj=>by rw [← hR.ins,← hR.mv] at hj;exact nE hb1' 1 [aM D.p,vi D.ins,vi D.move,aM D.d,aM D.y] rfl j v hj
 replace hR:=hR.mono hma;refine dG 2 H ?_;clear H;intro a H;refine aT gG (cs:=[aM D.p,vi d.fin.marks.ins,vi d.fin.marks.move,aM D.d,aM D.y]) H wn rfl rfl (fun j v hj=>H.hp.aC (by rw [gX];exact hgd j v hj)) rfl ?_;clear H;intro a H;refine iy FN gG [_,_,_,_,_] [_,_,_,_,_] H wn rfl rfl rfl rfl rfl (by intro i q h;match i,h with|0,h=>exact h|n+1,h=>simp at h) rfl rfl ?_;clear H;intro b12 a w DU H;refine aH 3 H ?_;clear H;intro a H;refine aT iY (cs:=D.cells) H wn rfl rfl (fun j v hj=>H.hp.aC (hga j v hj)) rfl ?_;clear H;intro a H;refine s_call aar H wn rfl (abl _ _ H.ro D d.flow hR.fl (by omega)) rfl ?_;clear H;rintro v14 qo a w VQ Cr H;obtain ⟨A4,n4,c4,rfl⟩:=VQ.form;have JV:=VQ.len;rw [bE] at JV;obtain rfl:n4=(ny d.flow).length:=JV;refine aH 3 H ?_;clear H;have hr0:BI qo (.slice (some ⟨b12,0,none⟩) 1 1) [d.fin] [aM D.p,vi d.fin.marks.ins,vi d.fin.marks.move,aM D.d,aM D.y] [(b12,.cells [aM D.p,vi d.fin.marks.ins,vi d.fin.marks.move,aM D.d,aM D.y].toArray 29 (0,0))]:=⟨aow rfl,by simpa using (bV.nil (G:=qo) (sz:=5)).snoc (abU (hR.hd.mono Cr)) rfl⟩;refine aj 4 ?_;intro a H;refine dD (ι:=Nat × List cu × ak × List ak × OL) (Tc:=[(4,_)]) (Lc:=[]) (fun gh=>[(3,gh.2.2.1),(5,vi gh.1)]) (fun gh=>[]++gh.2.2.2.2) (fun gh=>qo) (fun gh=>gh.1≤(ny d.flow).length∧BI qo gh.2.2.1 gh.2.1 gh.2.2.2.1 gh.2.2.2.2∧gh.2.1++((ny d.flow).drop gh.1).flatMap pH=M) (fun gh=>(ny d.flow).length - gh.1) ((0,[d.fin],.slice (some ⟨b12,0,none⟩) 1 1,[aM D.p,vi d.fin.marks.ins,vi d.fin.marks.move,aM D.d,aM D.y],[(b12,.cells [aM D.p,vi d.fin.marks.ins,vi d.fin.marks.move,aM D.d,aM D.y].toArray 29 (0,0))])) sB ?_ ?_
 ·exact ⟨eG _,hr0,by rw [hM];rfl⟩
 clear H;rintro ⟨i,R,v3,xs,Lo⟩ a w hI H;dsimp only at hI H;obtain ⟨hi,hr1,hX⟩:=hI;obtain ⟨v3A,v3c,rfl,-,-⟩:=hr1.row.shape;dsimp only [lca,aQ] at H;refine cK 7 H ?_ ?_ <;> clear H
 ·intro nM
  have hi2:i < (ny d.flow).length:=by omega
  obtain ⟨b,o,vv,rfl,hrow,hit⟩:=Zm VQ hi2;obtain ⟨-,e2⟩:=Zt hi2;have hzP:=Ph (iq (show i < (fC d.flow).length by omega));rw [← e2] at hzP;rw [jy hi2,List.flatMap_cons] at hX;obtain ⟨P,hP⟩:∃ P,P=(ny d.flow)[i]:=⟨_,rfl⟩;rw [← hP] at hrow hit hzP hX;have hpl:=BG P.items;obtain ⟨qA,qn,qc,rfl⟩:=hit.form
  obtain rfl:qn=P.items.length:=by simpa using hit.len
  have q1:aC qo b (o+i*6+1)=some (.slice qA P.items.length qc):=hrow 1 _ rfl;refine aj 7 ?_;intro a H;refine dD (ι:=Nat × List cu × ak × List ak × OL) (Tc:=[(4,_),(5,_)]) (Lc:=[]) (fun gh=>[(3,gh.2.2.1),(6,vi gh.1)]) (fun gh=>[]++gh.2.2.2.2) (fun gh=>qo) (fun gh=>gh.1≤P.items.length∧BI qo gh.2.2.1 gh.2.1 gh.2.2.2.1 gh.2.2.2.2∧gh.2.1++((P.items.drop gh.1).flatMap mH++((ny d.flow).drop (i+1)).flatMap pH)=M) (fun gh=>P.items.length - gh.1) ((0,R,_,xs,Lo)) sB ?_ ?_
  ·exact ⟨eG _,hr1,hX⟩
  clear H;rintro ⟨k,R2,v4,xs2,KT⟩ a w hI H;dsimp only at hI H;obtain ⟨hk,hr2,hX2⟩:=hI;obtain ⟨v4A,v4c,rfl,-,-⟩:=hr2.row.shape;dsimp only [lca,aQ] at H;refine cK 11 H ?_ ?_ <;> clear H
  ·intro p28
   have hk2:k < P.items.length:=by omega
   obtain ⟨b0,o0,pA,pn,pc,dA,dn,dc,yA,yn,yc,fA,fn,fc,rA,rn,rc,rfl,acJ,hhd,hfl,hrw⟩:=AA hk2 hit.at_;have hrn:=hrw.len;rw [bE] at hrn;subst hrn;have hzs:=Yo hk2;have hzi:=pU P.items[k];have Ik:=I5 (iq hk2);rw [jy hk2,List.flatMap_cons,fT] at hX2;obtain ⟨x,hx⟩:∃ x,x=P.items[k]:=⟨_,rfl⟩;rw [← hx] at acJ hhd hfl hrw hzs hzi Ik hX2;have hrl:=BH x.rows;obtain ⟨rest,hrest⟩:∃ r,r=(P.items.drop (k+1)).flatMap mH++((ny d.flow).drop (i+1)).flatMap pH:=⟨_,rfl⟩;rw [← hrest] at hX2;have hl2:=hr2.len hX2;refine aj 11 ?_;intro a H;refine aT dU (cs:=[vi x.kind,vi x.code,vi x.id,.string x.text,.slice pA pn pc,vi x.head.marks.ins,vi x.head.marks.move,.slice dA dn dc,.slice yA yn yc,.slice fA fn fc,.slice rA x.rows.length rc]) H wn rfl rfl (fun j v hj=>H.hp.aC (acJ j v hj)) rfl ?_;clear H;intro a H;refine dx dU H wn rfl ?_;clear H;intro b7 a w qD H;refine bq dU 0 (vs:=[_,_,_,_,_,_,_,_,_,_,_]) _ H wn rfl rfl rfl rfl rfl rfl rfl rfl ?_;clear H;intro w H;dsimp only [List.set,setRow] at H;refine aH 4 H ?_;clear H;intro a H;refine aT gG (cs:=[_,_,_,_,_]) H wn rfl rfl (H.hp.cO 0 rfl rfl) rfl ?_;clear H;intro a H;refine iy FN gG [_,_,_,_,_] [_,_,_,_,_] H wn rfl rfl rfl rfl rfl (by intro i q h;match i,h with|0,h=>exact h|n+1,h=>simp at h) rfl rfl ?_;clear H;intro b42 a w awq H;refine oK (Li:=[_,_]) (Lo:=KT) (news:=[.slice pA pn pc,vi x.head.marks.ins,vi x.head.marks.move,.slice dA dn dc,.slice yA yn yc]) FN gG rfl rfl H wn rfl rfl hr2.row rfl (H.hp.cO 0 rfl rfl) rfl (by omega) (by omega) rfl ?_;clear H;intro v43 KV a w M4 H;have acE:=hr2.snoc hhd M4;obtain ⟨axH,axI,rfl,-,-⟩:=M4.shape;refine aH 6 H ?_;clear H;intro a H;refine dD (ι:=Nat × List cu × ak × List ak × OL) (Tc:=[(4,_),(5,_),(6,_),(7,_)]) (Lc:=[(_,_)]) (fun gh=>[(3,gh.2.2.1),(8,vi gh.1)]) (fun gh=>[]++gh.2.2.2.2) (fun gh=>qo) (fun gh=>gh.1≤x.rows.length∧BI qo gh.2.2.1 gh.2.1 gh.2.2.2.1 gh.2.2.2.2∧gh.2.1++((if x.kind=7 then (x.rows.drop gh.1).flatMap rH else [])++rest)=M) (fun gh=>x.rows.length - gh.1) ((0,R2++[x.head],_,xs2++[.slice pA pn pc,vi x.head.marks.ins,vi x.head.marks.move,.slice dA dn dc,.slice yA yn yc],KV)) (by exact (H.bY (Pl:=[_,_]) (bT:=[_]) [1] (by decide) rfl).sub ⟨rfl,rfl,rfl,rfl,rfl,rfl,aY⟩) ?_ ?_
   ·exact ⟨eG _,by first|exact acE|simpa using acE,by rw [← hX2,fT];unfold mH;rfl⟩
   clear H;rintro ⟨rk,R3,v6,IY,Gm⟩ a w hI H;dsimp only at hI H;obtain ⟨MZ,hr3,JC⟩:=hI;obtain ⟨v6A,v6c,rfl,-,-⟩:=hr3.row.shape;dsimp only [lca,aQ] at H;refine wT 6 47 H ?_ ?_ <;> clear H
   ·intro p47
    refine goB 7 ?_ ?_
    ·intro p53
     have hk3:rk < x.rows.length:=by omega
     have Qf:x.kind=7:=by first|assumption|omega
     obtain ⟨b2,o2,Xo,Xp,qc2,eA,en,ec,zA,zn,zc,cA,cn,cc,rfl,hrow2,yB,hcl⟩:=Eh hk3 hrw.at_;have hcn:=hcl.len;rw [bE] at hcn;subst hcn;have hcs:=BD x.rows[rk].cells;have Wh:=Yq hk3;have Wi:=tO x.rows[rk];have hsz2:=I6 hk3;rw [au Qf,jy hk3,List.flatMap_cons,fT] at JC;obtain ⟨y,hy⟩:∃ y,y=x.rows[rk]:=⟨_,rfl⟩;rw [← hy] at hrow2 yB hcl hcs Wh Wi hsz2 JC;have hl3:=hr3.len JC;have r5:aC qo b2 (o2+rk*6+5)=some (.slice cA y.cells.length cc):=hrow2 5 _ rfl;refine aj 10 ?_;intro a H;refine aT gG (cs:=[.slice Xo Xp qc2,vi y.head.marks.ins,vi y.head.marks.move,.slice eA en ec,.slice zA zn zc]) H wn rfl rfl (fun j v hj=>H.hp.aC (hrow2 j v (aeM (m:=[_]) hj))) rfl ?_;clear H;intro a H;refine iy FN gG [_,_,_,_,_] [_,_,_,_,_] H wn rfl rfl rfl rfl rfl (by intro i q h;match i,h with|0,h=>exact h|n+1,h=>simp at h) rfl rfl ?_;clear H;intro b63 a w awu H;refine oK (Li:=[_,_]) (Lo:=Gm) (news:=[.slice Xo Xp qc2,vi y.head.marks.ins,vi y.head.marks.move,.slice eA en ec,.slice zA zn zc]) FN gG rfl rfl H wn rfl rfl hr3.row rfl (H.hp.cO 0 rfl rfl) rfl (by omega) (by omega) rfl ?_;clear H;intro v64 agN a w acN H;have acH:=hr3.snoc yB acN;obtain ⟨axJ,axK,rfl,-,-⟩:=acN.shape;refine aH 6 H ?_;clear H;intro a H;refine dD (ι:=Nat × List cu × ak × List ak × OL) (Tc:=[(4,_),(5,_),(6,_),(7,_),(8,_)]) (Lc:=[(_,_)]) (fun gh=>[(3,gh.2.2.1),(9,vi gh.1)]) (fun gh=>[]++gh.2.2.2.2) (fun gh=>qo) (fun gh=>gh.1≤y.cells.length∧BI qo gh.2.2.1 gh.2.1 gh.2.2.2.1 gh.2.2.2.2∧gh.2.1++((y.cells.drop gh.1).map aR.head++((x.rows.drop (rk+1)).flatMap rH++rest))=M) (fun gh=>y.cells.length - gh.1) ((0,R3++[y.head],_,IY++[.slice Xo Xp qc2,vi y.head.marks.ins,vi y.head.marks.move,.slice eA en ec,.slice zA zn zc],agN)) (by exact (H.bY (Pl:=[_,_]) (bT:=[_]) [1] (by decide) rfl).sub ⟨rfl,rfl,rfl,rfl,rfl,rfl,rfl,aY⟩) ?_ ?_
     ·exact ⟨eG _,by first|exact acH|simpa using acH,by rw [← JC,fT];rfl⟩
     clear H;rintro ⟨ck,R4,v7,IZ,KU⟩ a w hI H;dsimp only at hI H;obtain ⟨hck,hr4,MH⟩:=hI;obtain ⟨v7A,v7c,rfl,-,-⟩:=hr4.row.shape;dsimp only [lca,aQ] at H;refine cK 12 H ?_ ?_ <;> clear H
     ·intro p73
      have hk4:ck < y.cells.length:=by omega
      obtain ⟨b3,o3,sA,sn,sc,tA,tn,tc,uA,un,uc,gA,gn,gc,rfl,hrow3,hch,hcf⟩:=BR hk4 hcl.at_;rw [jy hk4,dR,kr] at MH;obtain ⟨z,hzy⟩:∃ z,z=y.cells[ck]:=⟨_,rfl⟩;rw [← hzy] at hrow3 hch MH;have hl4:=hr4.len MH;refine aj 14 ?_;intro a H;refine aT gG (cs:=[.slice sA sn sc,vi z.head.marks.ins,vi z.head.marks.move,.slice tA tn tc,.slice uA un uc]) H wn rfl rfl (fun j v hj=>H.hp.aC (by rw [Nat.add_assoc];exact hrow3 (1+j) v (arh (m:=[_]) hj))) rfl ?_;clear H;intro a H;refine iy FN gG [_,_,_,_,_] [_,_,_,_,_] H wn rfl rfl rfl rfl rfl (by intro i q h;match i,h with|0,h=>exact h|n+1,h=>simp at h) rfl rfl ?_;clear H;intro b87 a w awx H;refine oK (Li:=[_,_]) (Lo:=KU) (news:=[.slice sA sn sc,vi z.head.marks.ins,vi z.head.marks.move,.slice tA tn tc,.slice uA un uc]) FN gG rfl rfl H wn rfl rfl hr4.row rfl (H.hp.cO 0 rfl rfl) rfl (by omega) (by omega) rfl ?_;clear H;intro v88 agP a w acO H;have acI:=hr4.snoc hch acO;obtain ⟨axN,axO,rfl,-,-⟩:=acO.shape;refine aH 6 H ?_;clear H;intro a H;refine aI ?_;refine bR ((ck+1,R4++[z.head],_,IZ++[.slice sA sn sc,vi z.head.marks.ins,vi z.head.marks.move,.slice tA tn tc,.slice uA un uc],agP)) (by exact (H.bY (Pl:=[_,_]) (bT:=[_]) [1] (by decide) rfl).sub ⟨rfl,rfl,rfl,rfl,rfl,rfl,rfl,aY⟩) ?_ ?_
      ·(try dsimp only);exact ⟨by omega,by first|exact acI|simpa using acI,by rw [← MH,fT];rfl⟩
      first|omega|(dsimp only;omega)
     intro p73
     refine aj 5 ?_;intro a H;refine aI ?_;refine bR ((rk+1,R4,_,IZ,KU)) sB ?_ ?_
     ·(try dsimp only);exact ⟨by omega,hr4,by rw [← MH,eX (show y.cells.length≤ck by omega),au Qf];rfl⟩
     first|omega|(dsimp only;omega)
    intro p53
    refine aj 5 ?_;intro a H;refine aI ?_;refine bR ((k+1,R3,_,IY,Gm)) (by exact (H.bY (Pl:=[_]) (bT:=[]) [] (by decide) rfl).sub ⟨rfl,rfl,rfl,rfl,aY⟩) ?_ ?_
    ·try dsimp only
     exact ⟨by omega,hr3,by
      rw [← JC,hrest]
      by_cases h7:x.kind=7
      ·rw [au h7,eX (l:=x.rows) (i:=rk) (by first|omega|(exfalso;simp_all;done))];rfl
      rw [ah h7];rfl⟩
    first|omega|(dsimp only;omega)
   intro p47
   refine aj 13 ?_;intro a H;refine aI ?_;refine bR ((k+1,R3,_,IY,Gm)) (by exact (H.bY (Pl:=[_]) (bT:=[]) [] (by decide) rfl).sub ⟨rfl,rfl,rfl,rfl,aY⟩) ?_ ?_
   ·try dsimp only
    exact ⟨by omega,hr3,by
     rw [← JC,hrest]
     by_cases h7:x.kind=7
     ·rw [au h7,eX (l:=x.rows) (i:=rk) (by first|omega|(exfalso;simp_all;done))];rfl
     rw [ah h7];rfl⟩
   first|omega|(dsimp only;omega)
  intro p28
  refine aj 5 ?_;intro a H;refine aI ?_;refine bR ((i+1,R2,_,xs2,KT)) sB ?_ ?_
  ·(try dsimp only);exact ⟨by omega,hr2,by rw [← hX2,eX (show P.items.length≤k by omega)];rfl⟩
  first|omega|(dsimp only;omega)
 intro nM
 rw [eX (by omega),List.flatMap_nil,lD] at hX;refine aj 5 ?_;intro a H;refine dw ?_;obtain ⟨Gr,hmr,hrep,H⟩:=St.vI (Li:=[]) H hr1.row (rows:=R.map cu.dat) (by simp) hr1.cat;refine lv H results56 rfl ?_;exact H.rt (by rw [← hX];exact hrep)
end
section
open Go.RowKit
theorem ala:∀ args w,(callFunc 56 args).run prog w=.ok (.enter 56 args) w:=enters func56 rfl (by kernel_rfl)
def wC (rv:List bD) (M:List cu):List Int:=(rv.map bD.id).filter fun q=>decide (q∈M.flatMap refs)
theorem aea {A:List Int} {q x:Int}:decide (q∈A++[x])=(decide (q∈A) || decide (x=q)):=by
 rw [lq];simp only [lN,Bool.or_eq_true,ng,qO,@eq_comm _ q x]
theorem Ka {A:List Int} {q x:Int} {f:Bool} (hf:f=decide (q∈A)) (h:f=true):true=decide (q∈A++[x]):=by rw [aea,← hf,h];rfl
theorem J9 {A:List Int} {q x:Int} {f:Bool} (hf:f=decide (q∈A)) (h:f=false):decide (x=q)=decide (q∈A++[x]):=by rw [aea,← hf,h];rfl
theorem aov {G:GH} {l:List cu} {A:Option Addr} {n c k:Nat} (hv:ay G (.sl 5 (l.map cu.dat)) (.slice A n c)) (hk:k < l.length) :
  ∃ b o p dA dn dc yA yn yc,A=some ⟨b,o,none⟩∧(∀ j u,[p,vi l[k].marks.ins,vi l[k].marks.move,.slice dA dn dc,.slice yA yn yc][j]?=some u→aC G b (o+k*5+j)=some u)∧gW G l[k] p (.slice dA dn dc) (.slice yA yn yc):=by
 obtain ⟨b,o,cs,h1,-,h3,h4⟩:=hv.at_ k l[k].dat (by simp [hk])
 simp only [cu.dat,yO.dat,aZ] at h4
 obtain ⟨p,_,rfl,hp,v5,_,rfl,h5,v6,_,rfl,h6,d,_,rfl,hd,l,_,rfl,hl,rfl⟩:=h4;obtain ⟨dA,dn,dc,rfl⟩:=hd.form;obtain ⟨lA,ln,lc,rfl⟩:=hl.form
 simp only [ay] at h5 h6
 obtain ⟨rfl,-⟩:=h5;obtain ⟨rfl,-⟩:=h6;exact ⟨b,o,p,dA,dn,dc,lA,ln,lc,h1,h3,⟨hp,hd,hl⟩⟩
theorem amH {M:List cu} {k:Nat} (hk:k < M.length):(M.take (k+1)).flatMap refs=(M.take k).flatMap refs++[M[k].marks.ins]++M[k].marks.bg.map iK.rev++M[k].marks.layers.map iO.rev:=by
 rw [gI hk,List.flatMap_append,List.flatMap_cons,List.flatMap_nil,lD,fT,fT];rfl
theorem afy {α:Type} {f:α→Int} {B:List Int} {l:List α} {k:Nat} (hk:k < l.length):B++(l.take (k+1)).map f=(B++(l.take k).map f)++[f l[k]]:=by
 rw [gI hk,lg,fT];rfl
theorem R9 {rv:List bD} {M:List cu} {i:Nat} (hi:i < rv.length):wC (rv.take (i+1)) M=wC (rv.take i) M++(if decide (rv[i].id∈M.flatMap refs) then [rv[i].id] else []):=by
 rw [wC,gI hi,lg,List.filter_append];simp only [dR,vB,List.filter_cons,List.filter_nil];rfl
theorem aqZ (G:GH) (w0:World) (hG:Hold G w0) (D:gM) (d:iW) (hR:mJ G D d) (hz:aX d.flow≤1073741824) (hr:d.revs.length≤4294967296) :
  Calls prog 17 #[D.val] w0 (bB w0 G fun u G'=>ay G' (.sl 1 ((wC d.revs (xA d.flow d.fin)).map fun q=>[li q])) u):=by
 have hml:maxLen=9223372036854775807:=rfl;have U5:=adT d.flow d.fin;obtain ⟨M,hM⟩:∃ M,M=xA d.flow d.fin:=⟨_,rfl⟩;rw [← hM] at U5;rw [← hM];have hul:∀ i,(wC (d.revs.take i) M).length≤i:=fun i=>Nat.le_trans (List.length_filter_le _ _) (by rw [bE,List.length_take];omega);refine eN [(0,_)] func17 rfl ntmps17 rfl rfl hG ?_;refine aj 1 ?_;intro a H;refine dN (cs:=[_,_,_,_,_,_,_,_,_,_,_]) H wn rfl rfl rfl ?_;clear H;intro b1 a w hb1 H;refine aH 2 H ?_;clear H;intro a H;obtain ⟨Ga,hma,hb1',H⟩:=H.dS;have hga:=fun j v hj=>nE hb1' 0 D.cells rfl j v hj;replace hR:=hR.mono hma;refine tq ?_;refine aT iY (cs:=D.cells) H wn rfl rfl (fun j v hj=>H.hp.aC (hga j v hj)) rfl ?_;clear H;intro a H;refine s_call ala H wn rfl (aqR _ _ H.ro D d hR hz) rfl ?_;clear H;rintro v13 oh a w Qp kV H;rw [← hM] at Qp;obtain ⟨A3,n3,c3,rfl⟩:=Qp.form
 obtain rfl:n3=M.length:=by simpa using Qp.len
 replace hR:=hR.mono kV;replace hga:=fun j v hj=>aD kV (hga j v hj);obtain ⟨⟨rA,rn,rc⟩,hrD⟩:∃ r,r=D.r:=⟨_,rfl⟩;have jO:=hR.rv;rw [← hrD] at jO
 obtain rfl:rn=d.revs.length:=by simpa using jO.len
 have q6:aC oh b1 (0+6)=some (.slice rA d.revs.length rc):=hga 6 _ (by rw [show (.slice rA d.revs.length rc:ak)=aM D.r by rw [← hrD]];rfl);refine aH 10 H ?_;clear H;intro a H;refine dD (ι:=Nat × ak × List ak × OL) (Tc:=[(1,_),(3,_)]) (Lc:=[]) (fun gh=>[(4,gh.2.1),(5,vi gh.1)]) (fun gh=>[]++gh.2.2.2) (fun gh=>oh) (fun gh=>gh.1≤d.revs.length∧cB 3 1 gh.2.1 (wC (d.revs.take gh.1) M).length gh.2.2.1 gh.2.2.2∧bV oh 1 ((wC (d.revs.take gh.1) M).map fun q=>[li q]) gh.2.2.1) (fun gh=>d.revs.length - gh.1) ((0,.slice none 0 0,[],[])) sB ?_ ?_
 ·exact ⟨eG _,cB.nil,bV.nil⟩
 clear H;rintro ⟨i,v4,xs,Lo⟩ a w hI H;dsimp only at hI H;obtain ⟨hi,hrw,eU⟩:=hI;obtain ⟨v4A,v4c,rfl,-,-⟩:=hrw.shape;dsimp only [lca,aQ] at H;refine cK 8 H ?_ ?_ <;> clear H
 ·intro nM
  have hi2:i < d.revs.length:=by omega
  obtain ⟨b,o,rfl,hrow⟩:=FH jO hi2;have hid:aC oh b (o+i*3+0)=some (vi d.revs[i].id):=hrow 0 _ rfl;obtain ⟨r,hr'⟩:∃ r,r=d.revs[i].id:=⟨_,rfl⟩;rw [← hr'] at hid;have hui:=hul i;refine aj 20 ?_;intro a H;refine dD (ι:=Nat × Bool) (Tc:=[(1,_),(3,_),(4,_),(5,_),(6,_)]) (Lc:=[]) (fun gh=>[(7,.bool gh.2),(8,vi gh.1)]) (fun gh=>[]++Lo) (fun gh=>oh) (fun gh=>gh.1≤M.length∧gh.2=decide (r∈(M.take gh.1).flatMap refs)) (fun gh=>M.length - gh.1) ((0,false)) sB ?_ ?_
  ·exact ⟨eG _,by simp⟩
  clear H;rintro ⟨k,f⟩ a w hI H;dsimp only at hI H;obtain ⟨hk,hf⟩:=hI;dsimp only [lca,aQ] at H;refine cK 7 H ?_ ?_ <;> clear H
  ·intro p30
   have hk2:k < M.length:=by omega
   obtain ⟨b2,o2,pv,dA,dn,dc,yA,yn,yc,rfl,hrow2,hhd⟩:=aov Qp hk2;obtain ⟨h,hh⟩:∃ h,h=M[k]:=⟨_,rfl⟩;rw [← hh] at hrow2 hhd;have hd:=hhd.bg;have hy:=hhd.layers
   obtain rfl:dn=h.marks.bg.length:=by simpa using hd.len
   obtain rfl:yn=h.marks.layers.length:=by simpa using hy.len
   obtain ⟨_,_,hu1,hd1,hd2,-⟩:=hd.slice;obtain ⟨_,_,hu2,hy1,hy2,-⟩:=hy.slice
   intro a H;injection hu1 with q1 q2 q3
   subst q1 q3
   injection hu2 with q1 q2 q3
   subst q1 q3;rw [bE] at hd1 hy1;refine dG 8 H ?_;clear H;intro a H;refine aT xE (cs:=[vi h.marks.ins,vi h.marks.move,.slice dA h.marks.bg.length dc,.slice yA h.marks.layers.length yc]) H wn rfl rfl (fun j v hj=>H.hp.aC (by rw [Nat.add_assoc];exact hrow2 (1+j) v (by rw [Nat.add_comm,List.getElem?_cons_succ];exact hj))) rfl ?_;clear H;intro a H;refine dx xE H wn rfl ?_;clear H;intro b9 a w qE H;refine bq xE 0 (vs:=[_,_,_,_]) _ H wn rfl rfl rfl rfl rfl rfl rfl rfl ?_;clear H;intro w H;dsimp only [List.set,setRow] at H;refine aH 2 H ?_;clear H;intro a H;refine mI (ι:=Bool) (Tc:=[(1,_),(3,_),(4,_),(5,_),(6,_),(8,_),(9,_)]) 7 (fun (q1:Bool)=>[(44,.bool q1)]) (fun (q1:Bool)=>q1=decide (r∈(M.take k).flatMap refs++[h.marks.ins])) sB ?_ ?_
   ·intro AQ;refine jA 2 39 H ?_ ?_ <;> clear H
    ·intro yY
     try have p39:=dT yY
     refine aj 5 ?_;intro a H;refine AQ (_) _ _ ?_ sB
     first|exact Ka hf yY|exact J9 hf yY
    intro yY
    try have p39:=dF yY
    refine aj 5 ?_;intro a H;refine AQ (_) _ _ ?_ sB
    first|exact Ka hf yY|exact J9 hf yY
   clear H;intro q1 a w hI H;dsimp only [lca,aQ] at H;(repeat with_reducible refine dK ?_);refine d0 ?_;have hq1:=hI;refine aH 7 H ?_;clear H;intro a H;refine dD (ι:=Nat × Bool) (Tc:=[(1,_),(3,_),(4,_),(5,_),(6,_),(8,_),(9,_)]) (Lc:=[(_,_)]) (fun gh=>[(7,.bool gh.2),(10,vi gh.1)]) (fun gh=>[]++Lo) (fun gh=>oh) (fun gh=>gh.1≤h.marks.bg.length∧gh.2=decide (r∈(M.take k).flatMap refs++[h.marks.ins]++(h.marks.bg.take gh.1).map iK.rev)) (fun gh=>h.marks.bg.length - gh.1) ((0,q1)) sB ?_ ?_
   ·exact ⟨eG _,by simpa using hq1⟩
   clear H;rintro ⟨j,f2⟩ a w hI H;dsimp only at hI H;obtain ⟨hj,hf2⟩:=hI;dsimp only [lca,aQ] at H;refine cK 8 H ?_ ?_ <;> clear H
   ·intro p49
    have hj2:j < h.marks.bg.length:=by omega
    obtain ⟨b4,o4,rfl,hrow4⟩:=Jp hd hj2;have hrd:aC oh b4 (o4+j*2+0)=some (vi h.marks.bg[j].rev):=hrow4 0 _ rfl;refine aj 4 ?_;intro a H;refine mI (ι:=Bool) (Tc:=[(1,_),(3,_),(4,_),(5,_),(6,_),(8,_),(9,_),(10,_)]) 11 (fun (q2:Bool)=>[(62,.bool q2)]) (fun (q2:Bool)=>q2=decide (r∈(M.take k).flatMap refs++[h.marks.ins]++(h.marks.bg.take j).map iK.rev++[h.marks.bg[j].rev])) sB ?_ ?_
    ·intro JA;refine jA 2 53 H ?_ ?_ <;> clear H
     ·intro nG
      try have p53:=dT nG
      refine aj 9 ?_;intro a H;refine JA (_) _ _ ?_ sB
      first|exact Ka hf2 nG|exact J9 hf2 nG
     intro nG
     try have p53:=dF nG
     refine aj 9 ?_;intro a H;refine JA (_) _ _ ?_ sB
     first|exact Ka hf2 nG|exact J9 hf2 nG
    clear H;intro q2 a w hI H;dsimp only [lca,aQ] at H;(repeat with_reducible refine dK ?_);refine d0 ?_;have hq2:=hI;refine aH 6 H ?_;clear H;intro a H;refine aI ?_;refine bR ((j+1,q2)) sB ?_ ?_
    ·(try dsimp only);exact ⟨by omega,by rw [afy hj2];exact hq2⟩
    first|omega|(dsimp only;omega)
   intro p49
   obtain rfl:j=h.marks.bg.length:=by omega
   rw [wL] at hf2;refine aj 5 ?_;intro a H;refine dD (ι:=Nat × Bool) (Tc:=[(1,_),(3,_),(4,_),(5,_),(6,_),(8,_),(9,_)]) (Lc:=[(_,_)]) (fun gh=>[(7,.bool gh.2),(11,vi gh.1)]) (fun gh=>[]++Lo) (fun gh=>oh) (fun gh=>gh.1≤h.marks.layers.length∧gh.2=decide (r∈(M.take k).flatMap refs++[h.marks.ins]++h.marks.bg.map iK.rev++(h.marks.layers.take gh.1).map iO.rev)) (fun gh=>h.marks.layers.length - gh.1) ((0,f2)) sB ?_ ?_
   ·exact ⟨eG _,by simpa using hf2⟩
   clear H;rintro ⟨j2,f3⟩ a w hI H;dsimp only at hI H;obtain ⟨awO,hf3⟩:=hI;dsimp only [lca,aQ] at H;refine cK 8 H ?_ ?_ <;> clear H
   ·intro p67
    have hj3:j2 < h.marks.layers.length:=by omega
    obtain ⟨b5,o5,rfl,apr⟩:=J7 hy hj3;have hrl:aC oh b5 (o5+j2*4+0)=some (vi h.marks.layers[j2].rev):=apr 0 _ rfl;refine aj 4 ?_;intro a H;refine mI (ι:=Bool) (Tc:=[(1,_),(3,_),(4,_),(5,_),(6,_),(8,_),(9,_),(11,_)]) 11 (fun (q3:Bool)=>[(80,.bool q3)]) (fun (q3:Bool)=>q3=decide (r∈(M.take k).flatMap refs++[h.marks.ins]++h.marks.bg.map iK.rev++(h.marks.layers.take j2).map iO.rev++[h.marks.layers[j2].rev])) sB ?_ ?_
    ·intro ME;refine jA 2 71 H ?_ ?_ <;> clear H
     ·intro Hg
      try have p71:=dT Hg
      refine aj 9 ?_;intro a H;refine ME (_) _ _ ?_ sB
      first|exact Ka hf3 Hg|exact J9 hf3 Hg
     intro Hg
     try have p71:=dF Hg
     refine aj 9 ?_;intro a H;refine ME (_) _ _ ?_ sB
     first|exact Ka hf3 Hg|exact J9 hf3 Hg
    clear H;intro q3 a w hI H;dsimp only [lca,aQ] at H;(repeat with_reducible refine dK ?_);refine d0 ?_;have hq3:=hI;refine aH 6 H ?_;clear H;intro a H;refine aI ?_;refine bR ((j2+1,q3)) sB ?_ ?_
    ·(try dsimp only);exact ⟨by omega,by rw [afy hj3];exact hq3⟩
    first|omega|(dsimp only;omega)
   intro p67
   refine aj 5 ?_;intro a H;refine aI ?_;refine bR ((k+1,f3)) (by exact (H.bY (Pl:=[_]) (bT:=[]) [] (by decide) rfl).sub ⟨rfl,rfl,rfl,rfl,rfl,rfl,rfl,aY⟩) ?_ ?_
   ·(try dsimp only);exact ⟨by omega,by rw [amH hk2,← hh];rw [iL (l:=h.marks.layers) (i:=j2) (by omega)] at hf3;exact hf3⟩
   first|omega|(dsimp only;omega)
  intro p30
  obtain rfl:k=M.length:=by omega
  rw [wL] at hf
  have hM2:decide (d.revs[i].id∈M.flatMap refs)=f:=by rw [hf,hr']
  clear hM2
  have hM2:f=decide (d.revs[i].id∈M.flatMap refs):=by rw [hf,hr']
  refine goC 4 ?_ ?_
  ·intro Hl
   try have yG:=dT Hl
   refine aj 3 ?_;intro a H;refine iy tN bC [_] [_] H wn rfl rfl rfl rfl rfl (by intro i q h;match i,h with|0,h=>exact h|n+1,h=>simp at h) rfl rfl ?_;clear H;intro b84 a w aww H;refine oK (Li:=[_]) (Lo:=Lo) (news:=[vi r]) tN bC rfl rfl H wn rfl rfl hrw rfl (H.hp.cO 0 rfl rfl) rfl (by omega) (by omega) rfl ?_;clear H;intro v85 agO a w VX H;rw [hr'] at VX;obtain ⟨axL,axM,rfl,-,-⟩:=VX.shape;refine aH 6 H ?_;clear H;intro a H;refine aI ?_;refine bR ((i+1,_,xs++[vi d.revs[i].id],agO)) (by exact (H.bY (Pl:=[_]) (bT:=[]) [] (by decide) rfl).sub ⟨rfl,rfl,rfl,rfl,aY⟩) ?_ ?_
   ·(try dsimp only);exact ⟨by omega,by rw [R9 hi2,← hM2,Hl];simpa using VX,by rw [R9 hi2,← hM2,Hl,au rfl,lg];exact eU.snoc (aqk _ _) rfl⟩
   first|omega|(dsimp only;omega)
  intro Hl
  try have yG:=dF Hl
  refine aj 5 ?_;intro a H;refine aI ?_;refine bR ((i+1,_,xs,Lo)) sB ?_ ?_
  ·(try dsimp only);exact ⟨by omega,by rw [R9 hi2,← hM2,Hl];simpa using hrw,by rw [R9 hi2,← hM2,Hl];simpa using eU⟩
  first|omega|(dsimp only;omega)
 intro nM
 obtain rfl:i=d.revs.length:=by omega
 intro a H;rw [wL] at hrw eU H;refine dG 5 H ?_;clear H;intro a H;refine dw ?_;obtain ⟨Gr,hmr,hrep,H⟩:=St.vI (Li:=[]) H hrw (rows:=(wC d.revs M).map fun q=>[li q]) (by simp) eU;refine lv H results17 rfl ?_;exact H.rt hrep
end
section
open Go.RowKit
theorem Vp {C:bL} {e:Int} {h:cu} (hE:eH C e h=0):∀ q∈refs h,q=0∨q∈C.kQ:=by
 have z:=lF hE;have h3:=z (fq C h.marks) (by simp);have h4:=z (fV (qy C h.marks.bg) h.marks.bg.length) (by simp);have h6:=z (fV (xu C e h.marks.layers) h.marks.layers.length) (by simp);intro q hq
 unfold refs at hq
 rcases kZ.1 hq with rfl|hq
 ·unfold fq at h3
  by_cases h0:h.marks.ins=0
  ·exact .inl h0
  refine .inr (Classical.byContradiction fun hn=>?_);rw [au ⟨h0,hn⟩] at h3;cases h3
 rcases ng.1 hq with hq|hq
 ·obtain ⟨x,hx,rfl⟩:=List.mem_map.1 hq;obtain ⟨k,hk,rfl⟩:=List.getElem_of_mem hx;have h5:=EI h4 k hk
  unfold qy at h5
  rw [dV hk] at h5;dsimp only [nS] at h5;refine .inr (Classical.byContradiction fun hn=>?_);rw [au hn] at h5;cases h5
 obtain ⟨x,hx,rfl⟩:=List.mem_map.1 hq;obtain ⟨k,hk,rfl⟩:=List.getElem_of_mem hx;have h5:=EI h6 k hk
 unfold xu at h5
 rw [dV hk] at h5;dsimp only [kL] at h5;refine .inr (Classical.byContradiction fun hn=>?_);rw [au hn] at h5;cases h5
def pV (C:bL) (L:List cu):Prop:=∀ h∈L,∃ e,eH C e h=0
theorem pV.nil (C:bL):pV C []:=fun _ h=>by cases h
theorem pV.cons {C:bL} {e:Int} {h:cu} {L:List cu} (h1:eH C e h=0) (h2:pV C L):pV C (h :: L):=fun x hx=>by
 rcases kZ.1 hx with rfl|hx
 ·exact ⟨e,h1⟩
 exact h2 x hx
theorem pV.app {C:bL} {A B:List cu} (h1:pV C A) (h2:pV C B):pV C (A++B):=fun x hx=>(ng.1 hx).elim (h1 x) (h2 x)
mutual
theorem apb (C:bL) (body note:Bool) (t:Int):∀ (x:av) (s s':CS),eB C body note t x s=(0,s')→pV C (AO x)
 | .mk k c i tx h f r,s,s',e=>by
  have hf:=Ql C false true t f;have hr:=acw C note (t+1) r;rw [eB] at e;(iterate 2 obtain ⟨-,e⟩:=mP e);obtain ⟨e1,e⟩:=mP e;rw [AO];refine pV.cons e1 ?_
  by_cases h6:k=6
  ·rw [au h6] at e ⊢;rw [ah (show ¬ k=7 by omega),lD];exact hf _ _ e
  rw [ah h6] at e ⊢;rw [jv]
  by_cases h7:k=7
  ·rw [au h7] at e ⊢;exact hr _ _ (Xt e).2
  rw [ah h7];exact pV.nil C
theorem Ql (C:bL) (body note:Bool) (t:Int):∀ (l:List av) (s s':CS),fP C body note t l s=(0,s')→pV C (kU l)
 | [],_,_,_=>by rw [kU];exact pV.nil C
 | x :: r,s,s',e=>by
  rw [fP] at e;obtain ⟨e1,e⟩:=mP e;rw [kU];exact (apb C body note t x s _ (Prod.ext e1 rfl)).app (Ql C body note t r _ _ e)
theorem apc (C:bL) (note:Bool) (t:Int):∀ (x:aS) (s s':CS),yI C note t x s=(0,s')→pV C (AU x)
 | .mk h cs,s,s',e=>by
  have hc:=acv C note t cs;rw [yI] at e;obtain ⟨e1,e⟩:=mP e;rw [AU];exact pV.cons (lF e1 _ gP) (hc _ _ e)
theorem acw (C:bL) (note:Bool) (t:Int):∀ (l:List aS) (s s':CS),fJ C note t l s=(0,s')→pV C (tu l)
 | [],_,_,_=>by rw [tu];exact pV.nil C
 | x :: r,s,s',e=>by
  rw [fJ] at e;obtain ⟨e1,e⟩:=mP e;rw [tu];exact (apc C note t x s _ (Prod.ext e1 rfl)).app (acw C note t r _ _ e)
theorem apa (C:bL) (note:Bool) (t:Int):∀ (x:aR) (s s':CS),cellC C note t x s=(0,s')→pV C (AL x)
 | .mk i h f,s,s',e=>by
  have hf:=Ql C false note t f;rw [cellC] at e;obtain ⟨-,e⟩:=mP e;obtain ⟨e1,e⟩:=mP e;rw [AL];exact pV.cons e1 (hf _ _ e)
theorem acv (C:bL) (note:Bool) (t:Int):∀ (l:List aR) (s s':CS),kS C note t l s=(0,s')→pV C (uG l)
 | [],_,_,_=>by rw [uG];exact pV.nil C
 | x :: r,s,s',e=>by
  rw [kS] at e;obtain ⟨e1,e⟩:=mP e;rw [uG];exact (apa C note t x s _ (Prod.ext e1 rfl)).app (acv C note t r _ _ e)
end
theorem Xq {d:iW} (hc:gJ d=0):∀ q∈Ef d,q=0∨q∈d.revs.map bD.id:=by
 have z:=lF hc;have h2:=z (bP [eH d.jN 3 d.fin,bK (qI d.fin.marks) 21]) (by simp);have h3:=z (fP d.jN true false 0 d.flow ⟨0,[]⟩).1 (by simp);have hi:=Ql d.jN true false 0 d.flow _ _ (TB h3);intro q hq
 unfold Ef at hq
 rcases ng.1 hq with hq|hq
 ·obtain ⟨h,hh,hq⟩:=List.mem_flatMap.1 hq;obtain ⟨e,he⟩:=hi h hh;exact Vp he q hq
 exact Vp (lF h2 _ gP) q hq
theorem aeP {d:iW} (hc:gJ d=0):(d.revs.map bD.id).Pairwise (· < ·)∧∀ q∈d.revs.map bD.id,1≤q∧q≤1073741824:=by
 have h:=lF (lF hc _ gP) (uq d.revs) (by simp);have h1:=lF h _ (gP);have h2:=lF h _ (jT _ gP)
 have hl:d.revs.length≤256:=by
  unfold bK at h1
  by_cases hd:256 < (d.revs.length:Int)
  ·rw [au (aG hd)] at h1;cases h1
  omega
 have hi:∀ i (hi:i < d.revs.length),1≤d.revs[i].id∧d.revs[i].id≤1073741824∧(∀ k (hk:k < d.revs.length),k+1=i→d.revs[k].id < d.revs[i].id):=by
  intro i hi;have h3:=EI h2 i (by omega)
  unfold wh at h3
  rw [dV hi] at h3;have h4:=Nb (lF h3 _ gP);rw [dV hi] at h4;refine ⟨h4.1,h4.2.1,fun k hk e=>?_⟩;subst e;have h5:=h4.2.2 (by omega);rw [Nat.add_sub_cancel,dV hk] at h5;exact h5
 refine ⟨List.pairwise_iff_getElem.2 ?_,fun q hq=>?_⟩
 ·intro i j hi' hj hij;rw [bE] at hi' hj;rw [List.getElem_map,List.getElem_map]
  induction j with
  | zero=>omega
  | succ j ih =>
   have h1:=(hi (j+1) hj).2.2 j (by omega) rfl
   by_cases e:i=j
   ·subst e;exact h1
   exact Int.lt_trans (ih (by omega) (by omega) (by omega)) h1
 obtain ⟨x,hx,rfl⟩:=List.mem_map.1 hq;obtain ⟨k,hk,rfl⟩:=List.getElem_of_mem hx;exact ⟨(hi k hk).1,(hi k hk).2.1⟩
theorem anG {f:cu→Nat} {L:List cu}:0 < hS f L↔∃ h∈L,0 < f h:=by
 induction L with
 | nil=>simp [hS]
 | cons x L ih =>
  rw [AX]
  constructor
  ·intro h
   by_cases hx:0 < f x
   ·exact ⟨x,gP,hx⟩
   obtain ⟨y,hy,h2⟩:=ih.1 (by omega);exact ⟨y,jT _ hy,h2⟩
  rintro ⟨y,hy,h2⟩
  rcases kZ.1 hy with rfl|hy
  ·omega
  have:=ih.2 ⟨y,hy,h2⟩;omega
theorem aqQ (l:List av) (h:cu) (q:Int):q∈(xA l h).flatMap refs↔q∈(kU l).flatMap refs++refs h:=by
 have h1:=acQ (fun x=>if q∈refs x then 1 else 0) l h
 have hp:∀ L:List cu,q∈L.flatMap refs↔0 < hS (fun x=>if q∈refs x then 1 else 0) L:=fun L=>by
  rw [anG,List.mem_flatMap]
  constructor
  ·rintro ⟨x,hx,h⟩;exact ⟨x,hx,by rw [au h];omega⟩
  rintro ⟨x,hx,h⟩;refine ⟨x,hx,Classical.byContradiction fun hn=>?_⟩;rw [ah hn] at h;omega
 rw [hp,ng,hp,h1]
 by_cases hh:q∈refs h
 ·rw [au hh];exact ⟨fun _=>.inr hh,fun _=>by omega⟩
 rw [ah hh];exact ⟨fun h=>.inl (by omega),fun h=>h.elim (fun h=>by omega) (fun h=>absurd h hh)⟩
theorem afW {d:iW} (hc:gJ d=0):wC d.revs (xA d.flow d.fin)=rJ (oM d):=by
 obtain ⟨hi,hb⟩:=aeP hc
 have hnd:(d.revs.map bD.id).Nodup:=hi.imp fun h=>by omega
 have hp:(wC d.revs (xA d.flow d.fin)).Pairwise (· < ·):=hi.sublist List.filter_sublist;refine auI ((List.perm_ext_iff_of_nodup (hnd.sublist List.filter_sublist) ((Zb List.nodup_nil).sublist List.filter_sublist)).2 fun q=>?_) (hp.imp fun h=>Int.le_of_lt h)
 show q∈List.filter _ _↔q∈List.filter _ _
 rw [List.mem_filter,List.mem_filter,lN,lN,aqQ,Ta]
 constructor
 ·rintro ⟨h1,h2⟩;exact ⟨.inr h2,by have:=(hb q h1).1;omega⟩
 rintro ⟨h1|h1,h2⟩
 ·cases h1
 exact ⟨(Xq hc q h1).resolve_left h2,h1⟩
theorem avn {d:iW} (hc:gJ d=0) {q:Int} (h:q∈oM d):1≤q∧q≤1073741824:=by
 unfold oM at h
 rw [List.mem_filter,lN,Ta] at h;obtain ⟨h1|h1,h2⟩:=h
 ·cases h1
 exact (aeP hc).2 q ((Xq hc q h1).resolve_left h2)
theorem avm {d:iW} (hc:gJ d=0):(oM d).length=(wC d.revs (xA d.flow d.fin)).length:=by
 rw [afW hc,rJ,List.length_mergeSort]
end
section
open Go.RowKit
theorem ajZ:∀ args w,(callFunc 17 args).run prog w=.ok (.enter 17 args) w:=enters func17 rfl (by kernel_rfl)
theorem Ue:∀ args w,(callFunc 71 args).run prog w=.ok (.enter 71 args) w:=enters func71 rfl (by kernel_rfl)
def Cz (us:List Int) (l:List bD):List bD:=l.filter fun r=>decide (r.id∈us)
def mD (d:iW):iW:=⟨jC d.flow,d.fin,Cz (wC d.revs (xA (jC d.flow) d.fin)) d.revs,d.iD⟩
theorem QH {us:List Int} {l:List bD} {i:Nat} (hi:i < l.length):Cz us (l.take (i+1))=Cz us (l.take i)++(if decide (l[i].id∈us) then [l[i]] else []):=by
 rw [Cz,gI hi,List.filter_append];simp only [List.filter_cons,List.filter_nil];rfl
set_option maxRecDepth 8000 in
theorem aqS (G:GH) (w0:World) (hG:Hold G w0) (D:gM) (d:iW) (hR:mJ G D d) (hz:zJ d) (hne:vU d.flow) (hz2:aX (jC d.flow)≤1073741824) :
  Calls prog 26 #[D.val] w0 (bB w0 G fun u G'=>∃ D':gM,u=D'.val∧mJ G' D' (mD d)):=by
 obtain ⟨df,dp,dd,dy,dr,d1,d2,d3,d4,ins,mv⟩:=D;obtain ⟨zf,zh,zr,zt,zs,F5⟩:=hz;have hml:maxLen=9223372036854775807:=rfl;obtain ⟨us,Ii⟩:∃ us,us=wC d.revs (xA (jC d.flow) d.fin):=⟨_,rfl⟩
 have hul:us.length≤d.revs.length:=by rw [Ii,wC];exact Nat.le_trans (List.length_filter_le _ _) (by simp)
 refine eN [(0,_)] func26 rfl ntmps26 rfl rfl hG ?_;refine aj 1 ?_;intro a H;refine dN (cs:=[_,_,_,_,_,_,_,_,_,_,_]) H wn rfl rfl rfl ?_;clear H;intro b1 a w hb1 H;refine dx iY H wn rfl ?_;clear H;intro b2 a w hb2 H;refine aH 4 H ?_;clear H;intro a H;refine s_call OY H wn rfl (aep _ _ H.ro d.flow _ hR.fl hne zf) rfl ?_;clear H;rintro v8 G8 a w hv8 sK H;obtain ⟨fA,fn,fc,rfl⟩:=hv8.form;have pq:mJ G8 ⟨(fA,fn,fc),dp,dd,dy,dr,d1,d2,d3,d4,ins,mv⟩ (mq d):=⟨hv8,hR.hd.mono sK,hR.ins,hR.mv,hR.rv.mono sK,hR.st.mono sK⟩;refine aH 1 H ?_;clear H;intro a H;refine bq zB 1 (vs:=[_]) _ H wn rfl rfl rfl rfl rfl rfl rfl rfl ?_;clear H;intro w H;dsimp only [List.set,setRow] at H;refine aH 2 H ?_;clear H;intro a H;refine aT iY (cs:=(⟨(fA,fn,fc),dp,dd,dy,dr,d1,d2,d3,d4,ins,mv⟩:gM).cells) H wn rfl rfl (H.hp.cO 1 rfl rfl) rfl ?_;clear H;intro a H;refine s_call ajZ H wn rfl (aqZ _ _ H.ro _ _ pq hz2 zr) rfl ?_;clear H;rintro v11 qM a w Qt DZ H
 replace Qt:ay qM (.sl 1 (us.map fun q=>[li q])) v11:=by rw [Ii];exact Qt
 obtain ⟨uA,uc,rfl,hc1,hc2,-⟩:=Qt.slice;rw [bE] at *;replace pq:=pq.mono DZ;have jO:ay qM (.sl 3 (d.revs.map bD.dat)) (aM dr):=pq.rv;obtain ⟨rA,rn,rc⟩:=dr;obtain ⟨_,_,hu1,hr1,hr2,-⟩:=jO.slice
 injection hu1 with q1 q2 q3
 rw [bE] at q2 hr1;dsimp only at q2;subst q2;refine aH 10 H ?_;clear H;intro a H;refine dD (ι:=Nat × ak × List ak × OL × GH) (Tc:=[(1,_),(2,_),(3,_)]) (Lc:=[(_,_),(_,_)]) (fun gh=>[(4,gh.2.1),(5,vi gh.1)]) (fun gh=>[]++gh.2.2.2.1) (fun gh=>gh.2.2.2.2) (fun gh=>gh.1≤d.revs.length∧cB 82 3 gh.2.1 (Cz us (d.revs.take gh.1)).length gh.2.2.1 gh.2.2.2.1∧bV gh.2.2.2.2 3 ((Cz us (d.revs.take gh.1)).map bD.dat) gh.2.2.1∧(∀ b o,qM b=some o→gh.2.2.2.2 b=some o)) (fun gh=>d.revs.length - gh.1) ((0,.slice none 0 0,[],[],qM)) sB ?_ ?_
 ·exact ⟨eG _,cB.nil,bV.nil,fun _ _ h=>h⟩
 clear H;rintro ⟨i,v4,xs,Lo,g⟩ a w hI H;dsimp only at hI H;obtain ⟨hi,hrw,eU,hgm⟩:=hI;obtain ⟨v4A,v4c,rfl,-,-⟩:=hrw.shape;dsimp only [lca,aQ] at H;refine dG 4 H ?_;clear H;intro a H;refine iH uW (v:=.slice rA d.revs.length rc) H wn rfl (H.hp.qd 1 rfl rfl) rfl ?_;clear H;refine goB 3 ?_ ?_
 ·intro p16
  have hi2:i < d.revs.length:=by omega
  obtain ⟨b,o,rfl,hrow⟩:=FH (jO.mono hgm) hi2;have hid:aC g b (o+i*3+0)=some (vi d.revs[i].id):=hrow 0 _ rfl
  have hkl:(Cz us (d.revs.take i)).length≤i:=by rw [Cz];exact Nat.le_trans (List.length_filter_le _ _) (by rw [List.length_take];omega)
  refine aj 6 ?_;intro a H;refine iH uW (v:=.slice (some ⟨b,o,none⟩) d.revs.length rc) H wn rfl (H.hp.qd 1 rfl rfl) rfl ?_;clear H;refine aj 4 ?_;intro a H;refine s_call Ue H wn rfl (P5 _ _ H.ro us _ (Qt.mono hgm) d.revs[i].id) rfl ?_;clear H;rintro v26 G26 a w ⟨rfl,rfl⟩ awT H;refine fE 1 H ?_ ?_ <;> clear H
  ·intro He
   try have p26:=dT He
   refine aj 3 ?_;intro a H;refine iH uW (v:=.slice (some ⟨b,o,none⟩) d.revs.length rc) H wn rfl (H.hp.qd 1 rfl rfl) rfl ?_;clear H;refine aj 2 ?_;intro a H;refine aT mF (cs:=d.revs[i].cells) H wn rfl rfl (fun q u hq=>H.hp.aC (hrow q u hq)) rfl ?_;clear H;intro a H;refine iy uX mF [_,_,_] [_,_,_] H wn rfl rfl rfl rfl rfl (by intro i q h;match i,h with|0,h=>exact h|n+1,h=>simp at h) rfl rfl ?_;clear H;intro b33 a w anP H;refine oK (Li:=[_,_,_]) (Lo:=Lo) (news:=d.revs[i].cells) uX mF rfl rfl H wn rfl rfl hrw rfl (H.hp.cO 0 rfl rfl) rfl (by omega) (by omega) rfl ?_;clear H;intro v34 Ob a w apv H;refine aH 6 H ?_;clear H;intro a H;refine aI ?_;refine bR ((i+1,_,xs++d.revs[i].cells,Ob,g)) (by exact (H.bY (Pl:=[_,_,_]) (bT:=[_,_]) [1,2] (by decide) rfl).sub ⟨rfl,rfl,rfl,rfl,rfl,aY⟩) ?_ ?_
   ·(try dsimp only);exact ⟨by omega,by rw [QH hi2,He];simpa using apv,by rw [QH hi2,He,au rfl,lg];exact eU.snoc (Ry _ _) rfl,hgm⟩
   first|omega|(dsimp only;omega)
  intro He
  try have p26:=dF He
  refine aj 5 ?_;intro a H;refine aI ?_;refine bR ((i+1,_,xs,Lo,g)) sB ?_ ?_
  ·(try dsimp only);exact ⟨by omega,by rw [QH hi2,He];simpa using hrw,by rw [QH hi2,He];simpa using eU,hgm⟩
  first|omega|(dsimp only;omega)
 intro p16
 refine aj 1 ?_
 obtain rfl:i=d.revs.length:=by omega
 intro a H;rw [wL] at hrw eU H;obtain ⟨Gr,hmr,hrep,H⟩:=St.vI (Li:=[_,_]) H hrw (rows:=(Cz us d.revs).map bD.dat) (by simp) eU;obtain ⟨rB,rn,rd,hrB⟩:=hrep.form;rw [hrB] at H;refine dG 3 H ?_;clear H;intro a H;refine bq uW 1 (vs:=[_]) _ H wn rfl rfl rfl rfl rfl rfl rfl rfl ?_;clear H;intro w H;dsimp only [List.set,setRow] at H;refine aH 2 H ?_;clear H;intro a H;refine aT iY (cs:=(⟨(fA,fn,fc),dp,dd,dy,(rB,rn,rd),d1,d2,d3,d4,ins,mv⟩:gM).cells) H wn rfl rfl (H.hp.cO 1 rfl rfl) rfl ?_;clear H;intro a H;refine bq iY 0 (vs:=[_,_,_,_,_,_,_,_,_,_,_]) _ H wn rfl rfl rfl rfl rfl rfl rfl rfl ?_;clear H;intro w H;dsimp only [List.set,setRow] at H;refine aI ?_;refine dW ?_;refine dw ?_;refine (leave1 H results26 (.cons (xD iY (cs:=[_,_,_,_,_,_,_,_,_,_,_]) H rfl rfl (H.hp.cO 0 rfl rfl)) .nil) ?_).1;rw [hrB] at hrep;replace pq:=(pq.mono hgm).mono hmr;exact H.rt ⟨⟨(fA,fn,fc),dp,dd,dy,(rB,rn,rd),d1,d2,d3,d4,ins,mv⟩,rfl,pq.fl,pq.hd,pq.ins,pq.mv,by rw [Ii] at hrep;exact hrep,pq.st⟩
end
section
open Go.RowKit
theorem Pb {l:List Int} (h:∀ x∈l,x=0):bP l=0:=by
 induction l with
 | nil=>rfl
 | cons x l ih=>rw [h x gP];simp only [bP,ne_eq,not_true_eq_false,if_false];exact ih fun y hy=>h y (jT _ hy)
theorem Tf {E:Nat→Int} {n:Nat} (h:∀ i,i < n→E i=0):fV E n=0:=Pb fun x hx=>by
 obtain ⟨i,hi,rfl⟩:=List.mem_map.1 hx;exact h i (vw.1 hi)
def Gf (kQ:List Int) (h:cu):Prop:=∀ q∈refs h,q≠0→q∈kQ
theorem Qb {C C':bL} {e:Int} {h:cu} (h1:C'.st=C.st) (h2:C'.lU=C.lU) (h0:0∉C.kQ) (hin:Gf C'.kQ h) (hE:eH C e h=0):eH C' e h=0:=by
 have z:=lF hE;have z1:=z (gY e h.props) (by simp);have z2:=z (vZ C h.props) (by simp);have z3:=z (fq C h.marks) (by simp);have z4:=z (fV (qy C h.marks.bg) h.marks.bg.length) (by simp);have z5:=z (bK (decide (64 < (h.marks.layers.length:Int))) 9) (by simp);have z6:=z (fV (xu C e h.marks.layers) h.marks.layers.length) (by simp);have hr:∀ q∈refs h,q=0∨q∈C.kQ:=Vp hE;refine Pb fun x hx=>?_
 simp only [kZ,List.not_mem_nil,or_false] at hx
 rcases hx with rfl|rfl|rfl|rfl|rfl|rfl
 ·exact z1
 ·rw [vZ,h1,h2];exact z2
 ·unfold fq at z3 ⊢
  have hi:¬ (h.marks.ins≠0∧h.marks.ins∉C'.kQ):=fun hn=>hn.2 (hin _ (by simp [refs]) hn.1)
  by_cases hq:h.marks.ins≠0∧h.marks.ins∉C.kQ
  ·rw [au hq] at z3;cases z3
  rw [ah hq] at z3;rw [ah hi];exact z3
 ·refine Tf fun k hk=>?_;have h5:=EI z4 k hk
  unfold qy at h5 ⊢
  rw [dV hk] at h5 ⊢;dsimp only [nS] at h5 ⊢
  have hm:h.marks.bg[k].rev∈refs h:=by simp only [refs,kZ,ng,List.mem_map];exact .inr (.inl ⟨_,iq hk,rfl⟩)
  by_cases hq:h.marks.bg[k].rev∉C.kQ
  ·rw [au hq] at h5;cases h5
  rw [ah hq] at h5;rw [ah (fun hn=>hn (hin _ hm fun e=>h0 (e ▸ fD.1 hq)))];exact h5
 ·exact z5
 refine Tf fun k hk=>?_;have h5:=EI z6 k hk
 unfold xu at h5 ⊢
 rw [dV hk] at h5 ⊢;dsimp only [kL] at h5 ⊢
 have hm:h.marks.layers[k].rev∈refs h:=by simp only [refs,kZ,ng,List.mem_map];exact .inr (.inr ⟨_,iq hk,rfl⟩)
 by_cases hq:h.marks.layers[k].rev∉C.kQ
 ·rw [au hq] at h5;cases h5
 rw [ah hq] at h5;rw [ah (fun hn=>hn (hin _ hm fun e=>h0 (e ▸ fD.1 hq))),h1,h2];exact h5
mutual
theorem atr {C C':bL} (h1:C'.st=C.st) (h2:C'.lU=C.lU) (h0:0∉C.kQ) (body note:Bool) (t:Int):∀ x:av,(∀ h∈AO x,Gf C'.kQ h)→pI C body note t x→pI C' body note t x
 | .mk k c i tx h f r,hh,hx=>by
  have hf:=Rz h1 h2 h0 false true t f;have hr:=aeY h1 h2 h0 note (t+1) r;rw [AO] at hh;rw [pI] at hx ⊢;refine ⟨hx.1,hx.2.1,Qb h1 h2 h0 (hh h gP) hx.2.2.1,fun e=>?_,fun e=>⟨(hx.2.2.2.2 e).1,?_⟩⟩
  ·subst e;exact hf (fun y hy=>hh y (jT _ (by simpa using hy))) (hx.2.2.2.1 rfl)
  subst e;exact hr (fun y hy=>hh y (jT _ (by simpa using hy))) (hx.2.2.2.2 rfl).2
theorem att {C C':bL} (h1:C'.st=C.st) (h2:C'.lU=C.lU) (h0:0∉C.kQ) (note:Bool) (t:Int):∀ x:aS,(∀ h∈AU x,Gf C'.kQ h)→vX C note t x→vX C' note t x
 | .mk h cs,hh,hx=>by
  have hc:=aeX h1 h2 h0 note t cs;rw [AU] at hh;rw [vX] at hx ⊢;refine ⟨Pb fun y hy=>?_,hc (fun y hy=>hh y (jT _ hy)) hx.2⟩;have z:=lF hx.1
  simp only [kZ,List.not_mem_nil,or_false] at hy
  rcases hy with rfl|rfl|rfl
  ·exact Qb h1 h2 h0 (hh h gP) (z _ gP)
  ·exact z _ (by simp)
  exact z _ (by simp)
theorem atq {C C':bL} (h1:C'.st=C.st) (h2:C'.lU=C.lU) (h0:0∉C.kQ) (note:Bool) (t:Int):∀ x:aR,(∀ h∈AL x,Gf C'.kQ h)→vV C note t x→vV C' note t x
 | .mk i h f,hh,hx=>by
  have hf:=Rz h1 h2 h0 false note t f;rw [AL] at hh;rw [vV] at hx ⊢;exact ⟨Qb h1 h2 h0 (hh h gP) hx.1,hf (fun y hy=>hh y (jT _ hy)) hx.2⟩
theorem Rz {C C':bL} (h1:C'.st=C.st) (h2:C'.lU=C.lU) (h0:0∉C.kQ) (body note:Bool) (t:Int):∀ l:List av,(∀ h∈kU l,Gf C'.kQ h)→kD C body note t l→kD C' body note t l
 | [],_,_=>by rw [kD];trivial
 | x :: l,hh,h=>by
  rw [kU] at hh;rw [kD] at h ⊢;exact ⟨atr h1 h2 h0 body note t x (fun y hy=>hh y (List.mem_append_left _ hy)) h.1,Rz h1 h2 h0 body note t l (fun y hy=>hh y (List.mem_append_right _ hy)) h.2⟩
theorem aeY {C C':bL} (h1:C'.st=C.st) (h2:C'.lU=C.lU) (h0:0∉C.kQ) (note:Bool) (t:Int):∀ l:List aS,(∀ h∈tu l,Gf C'.kQ h)→qJ C note t l→qJ C' note t l
 | [],_,_=>by rw [qJ];trivial
 | x :: l,hh,h=>by
  rw [tu] at hh;rw [qJ] at h ⊢;exact ⟨att h1 h2 h0 note t x (fun y hy=>hh y (List.mem_append_left _ hy)) h.1,aeY h1 h2 h0 note t l (fun y hy=>hh y (List.mem_append_right _ hy)) h.2⟩
theorem aeX {C C':bL} (h1:C'.st=C.st) (h2:C'.lU=C.lU) (h0:0∉C.kQ) (note:Bool) (t:Int):∀ l:List aR,(∀ h∈uG l,Gf C'.kQ h)→rF C note t l→rF C' note t l
 | [],_,_=>by rw [rF];trivial
 | x :: l,hh,h=>by
  rw [uG] at hh;rw [rF] at h ⊢;exact ⟨atq h1 h2 h0 note t x (fun y hy=>hh y (List.mem_append_left _ hy)) h.1,aeX h1 h2 h0 note t l (fun y hy=>hh y (List.mem_append_right _ hy)) h.2⟩
end
end
section
open Go.RowKit
def Lj (l:List bD):Prop:=l.length≤256∧(∀ x∈l,oq x.author=true∧(0≤x.time∧x.time≤1099511627776)∧1≤x.id∧x.id≤1073741824)∧l.Pairwise fun x y=>x.id < y.id
theorem atp {l:List bD} (h:uq l=0):Lj l:=by
 have h1:=lF h _ (gP);have h2:=lF h _ (jT _ gP)
 have hl:l.length≤256:=by
  rw [Aj (by decide),oP] at h1;omega
 have hi:∀ i (hi:i < l.length),Km l i l[i]=0:=fun i hi=>by
  have h3:=EI h2 i (by omega)
  unfold wh at h3
  rwa [dV hi] at h3
 refine ⟨hl,fun x hx=>?_,?_⟩
 ·obtain ⟨i,hi',rfl⟩:=List.getElem_of_mem hx;have z:=lF (hi i hi');have z1:=Nb (z _ gP);rw [dV hi'] at z1;have z2:=z (bK (!oq l[i].author) 39) (by simp);have z3:=z (bK (!decide (0≤l[i].time∧l[i].time≤1099511627776)) 40) (by simp);rw [Aj (by decide)] at z2 z3;exact ⟨by simpa using z2,by simpa using z3,z1.1,z1.2.1⟩
 have step:∀ i (hi':i+1 < l.length),l[i].id < l[i+1].id:=fun i hi'=>by
  have z1:=(Nb (lF (hi (i+1) hi') _ gP)).2.2 (by omega);rw [Nat.add_sub_cancel,dV hi',dV (show i < l.length by omega)] at z1;exact z1
 rw [List.pairwise_iff_getElem];intro i j hi' hj hij
 induction j with
 | zero=>omega
 | succ j ih =>
  by_cases e:i=j
  ·subst e;exact step i hj
  exact Int.lt_trans (ih (by omega) (by omega)) (step j hj)
theorem aqb {id:Nat→Int} {i:Nat} (h1:1≤id i∧id i≤1073741824) (h2:0 < i→id (i - 1) < id i):jJ id i=0:=by
 unfold jJ
 rw [ah (fun hn=>hn h1),ah (fun hn=>by have:=h2 hn.1;omega),ah (fun hn=>by have:=h2 hn.1;omega)]
theorem amQ {l:List bD} (h:Lj l):uq l=0:=by
 obtain ⟨hl,hx,hp⟩:=h;refine Uv.2 ⟨(Aj (by decide)).2 (gD (by omega)),Tf fun i hi=>?_⟩
 have hi':i < l.length:=by omega
 unfold wh
 rw [dV hi'];have h1:=hx _ (iq hi');refine Pb fun y hy=>?_
 simp only [kZ,List.not_mem_nil,or_false] at hy
 rcases hy with rfl|rfl|rfl
 ·have e:∀ k (hk:k < l.length),(l[k]?.map bD.id).getD 0=l[k].id:=fun k hk=>by rw [dV hk];rfl
  exact aqb (by rw [e i hi'];exact h1.2.2) (fun h0=>by
   rw [e i hi',e (i - 1) (by omega)]
   exact List.pairwise_iff_getElem.1 hp (i - 1) i (by omega) hi' (by omega))
 ·rw [Aj (by decide),h1.1];rfl
 rw [Aj (by decide),eZ h1.2.1];rfl
theorem Lj.sub {l m:List bD} (h:Lj l) (hs:m.Sublist l):Lj m:=⟨Nat.le_trans hs.length_le h.1,fun x hx=>h.2.1 x (hs.subset hx),h.2.2.sublist hs⟩
def uF (A:List kg):Int:=(A.map fun f=>pX f.items).sum
theorem X9 (a b:List kg):uF (a++b)=uF a+uF b:=by simp [uF]
theorem RY (x:kg) (b:List kg):uF (x :: b)=pX x.items+uF b:=by simp [uF]
theorem auZ (A:List kg):kY A=uF A:=by
 have key:∀ (A:List kg) (n:Int),A.foldl (fun n f=>n+pX f.items) n=n+uF A:=by
  intro A
  induction A with
  | nil=>intro n;simp [uF]
  | cons x A ih=>intro n;rw [List.foldl_cons,ih,RY];omega
 rw [kY,key];omega
theorem WA {C:bL} {body note:Bool} {t:Int} {l:List av} (h:kD C body note t l):pX l=qL l:=by
 unfold pX
 rw [au]
 unfold wO
 rw [mZ];intro x hx;have h1:=(GY ((QZ x).1 (Ki.1 h x hx)).1).1;refine eZ ?_
 unfold zD IW;rw [au h1];split <;> rfl
theorem auW (k c i:Int) (tx:ByteArray) (h:cu) (f:List av) (r:List aS):uI (.mk k c i tx h f r)=fK (.mk k c i tx h f r)+(if k=6 then mG f else if k=7 then zC r else 0):=by rw [uI];rfl
mutual
theorem avb (C:bL) (body note:Bool) (t:Int) (n2:Bool) (t2:Int):∀ x:av,pI C body note t x→(fK x:Nat)+uF (zH n2 t2 x)=(uI x:Nat)
 | .mk k c i tx h f r,hx=>by
  have hf:=R7 C false true t true t2 f;have hr:=afO C note (t+1) n2 t2 r;rw [pI] at hx;rw [auW,zH]
  by_cases h6:k=6
  ·subst h6;have ho:=hx.2.2.2.1 rfl;have:=hf ho;rw [au rfl,au rfl,RY];dsimp only;rw [WA ho];push_cast;omega
  by_cases h7:k=7
  ·subst h7;have:=hr (hx.2.2.2.2 rfl).2;rw [ah h6,ah h6,au rfl,au rfl];push_cast;omega
  rw [ah h6,ah h6,ah h7,ah h7];simp [uF]
theorem avc (C:bL) (note:Bool) (t:Int) (n2:Bool) (t2:Int):∀ x:aS,vX C note t x→uF (zI n2 t2 x)=(uR x:Nat)
 | .mk h cs,hx=>by
  have hc:=afM C note t n2 t2 cs;rw [vX] at hx;rw [uR,zI];exact hc hx.2
theorem ava (C:bL) (note:Bool) (t:Int) (n2:Bool) (t2:Int):∀ x:aR,vV C note t x→uF (zG n2 t2 x)=(uC x:Nat)
 | .mk i h f,hx=>by
  have hf:=R7 C false note t n2 (t2+1) f;rw [vV] at hx;have:=hf hx.2;rw [uC,zG,RY];dsimp only;rw [WA hx.2];omega
theorem R7 (C:bL) (body note:Bool) (t:Int) (n2:Bool) (t2:Int):∀ l:List av,kD C body note t l→(qL l:Nat)+uF (jm n2 t2 l)=(mG l:Nat)
 | [],_=>by simp [qL,jm,uF,mG]
 | x :: l,h=>by
  rw [kD] at h;have h1:=avb C body note t n2 t2 x h.1;have h2:=R7 C body note t n2 t2 l h.2;rw [qL,jm,mG,X9];push_cast;omega
theorem afO (C:bL) (note:Bool) (t:Int) (n2:Bool) (t2:Int):∀ l:List aS,qJ C note t l→uF (pR n2 t2 l)=(zC l:Nat)
 | [],_=>by simp [pR,uF,zC]
 | x :: l,h=>by
  rw [qJ] at h;have h1:=avc C note t n2 t2 x h.1;have h2:=afO C note t n2 t2 l h.2;rw [pR,zC,X9];push_cast;omega
theorem afM (C:bL) (note:Bool) (t:Int) (n2:Bool) (t2:Int):∀ l:List aR,rF C note t l→uF (qm n2 t2 l)=(Ah l:Nat)
 | [],_=>by simp [qm,uF,Ah]
 | x :: l,h=>by
  rw [rF] at h;have h1:=ava C note t n2 t2 x h.1;have h2:=afM C note t n2 t2 l h.2;rw [qm,Ah,X9];push_cast;omega
end
theorem afN {C:bL} {body note:Bool} {t:Int} {l:List av} (h:kD C body note t l):kY (fC l)=(mG l:Nat):=by
 have:=R7 C body note t false 0 l h;rw [auZ,fC,RY];dsimp only;rw [WA h];exact this
theorem Ni {d:iW} (h:gJ d=0):gJ (mq d)=0∧kY (fC (jC d.flow))=kY (fC d.flow):=by
 obtain ⟨h1,h2,h3,h4,h5⟩:=(LJ d).1 h;obtain ⟨e1,e2⟩:=apY h3;exact ⟨(LJ (mq d)).2 ⟨h1,h2,aez h3,by show jQ [] [] (fO (jC d.flow));rw [e1];exact h4,by show mG (jC d.flow)≤_;rw [e2];exact h5⟩,by rw [afN (aez h3),afN h3,e2]⟩
theorem auH (l:List Int):(rJ l).Pairwise (·≤·):=by
 have h:=List.pairwise_mergeSort (le:=leI) (fun a b c h1 h2=>by simp only [leI,lN] at *;omega) (fun a b=>by simp only [leI,Bool.or_eq_true,lN];omega) l
 exact h.imp fun h=>by simpa [leI] using h
theorem adC (d:iW):(fun r:bD=>vK (rJ (oM (mq d))) r.id)=fun r=>decide (r.id∈oM (mq d)):=by
 funext r
 rw [anH (auH _)];exact decide_eq_decide.2 (by rw [rJ,List.mem_mergeSort])
theorem aqM {d:iW} (h:gJ d=0):mD d=nD d:=by
 have hu:=afW (Ni h).1
 unfold mD nD Cz
 rw [adC,show wC d.revs (xA (jC d.flow) d.fin)=rJ (oM (mq d)) from hu]
 congr 1
 refine List.filter_congr fun r _=>decide_eq_decide.2 (by rw [rJ,List.mem_mergeSort])
theorem aro {d:iW} (h:gJ d=0):gJ (nD d)=0:=by
 obtain ⟨h1,h2,h3,h4,h5⟩:=(LJ _).1 (Ni h).1;have hg:=atp h1.2
 have h0:(0:Int)∉(mq d).jN.kQ:=by
  intro hm;obtain ⟨x,hx,e⟩:=List.mem_map.1 (show (0:Int)∈d.revs.map bD.id from hm);have:=(hg.2.1 x hx).2.2.1
  omega
 have hin:∀ q∈Ef (mq d),q≠0→q∈(nD d).jN.kQ:=by
  intro q hq hn
  have hu:q∈oM (mq d):=by
   unfold oM
   rw [List.mem_filter,lN,Ta];exact ⟨.inr hq,hn⟩
  have hr:=(Xq (Ni h).1 q hq).resolve_left hn;obtain ⟨x,hx,rfl⟩:=List.mem_map.1 hr
  show x.id∈(nD d).revs.map bD.id
  refine List.mem_map.2 ⟨x,?_,rfl⟩
  show x∈d.revs.filter _
  rw [adC,List.mem_filter];exact ⟨hx,eZ hu⟩
 refine (LJ (nD d)).2 ⟨⟨h1.1,amQ (hg.sub List.filter_sublist)⟩,⟨Qb (C:=(mq d).jN) (C':=(nD d).jN) rfl rfl h0 (fun q hq hn=>hin q (by unfold Ef;exact List.mem_append_right _ hq) hn) h2.1,h2.2⟩,Rz (C:=(mq d).jN) (C':=(nD d).jN) rfl rfl h0 true false 0 _ (fun x hx q hq hn=>hin q (by unfold Ef;exact List.mem_append_left _ (List.mem_flatMap.2 ⟨x,hx,hq⟩)) hn) h3,h4,h5⟩
theorem arn (d:iW):nD (nD d)=nD d:=by
 have e:oM (mq (nD d))=oM (mq d):=by
  have:Ef (mq (nD d))=Ef (mq d):=by
   unfold Ef mq nD
   dsimp only;rw [aes]
  unfold oM
  rw [this]
 show iW.mk (jC (jC d.flow)) d.fin ((nD d).revs.filter fun r=>vK (rJ (oM (mq (nD d)))) r.id) d.iD=iW.mk (jC d.flow) d.fin (d.revs.filter fun r=>vK (rJ (oM (mq d))) r.id) d.iD
 rw [e,aes]
 congr 1
 show (d.revs.filter _).filter _=_
 rw [List.filter_filter]
 simp only [Bool.and_self]
end
section
open Go.RowKit
theorem XY:mX ⟨#[97,98]⟩=true∧mQ ⟨#[97,98]⟩ 0=2:=by
 have d0:kJ ⟨#[97,98]⟩ 0=(97,1,true):=by decide
 have d1:kJ ⟨#[97,98]⟩ 1=(98,1,true):=by decide
 have e2:nT ⟨#[97,98]⟩ 2=-1:=by rw [nT,dif_neg (by decide)]
 have e1:nT ⟨#[97,98]⟩ 1=-1:=by rw [nT,dif_pos (by decide),dif_pos (by rw [d1]),d1];exact e2
 have e0:nT ⟨#[97,98]⟩ 0=-1:=by rw [nT,dif_pos (by decide),dif_pos (by rw [d0]),d0];exact e1
 have c2:mQ ⟨#[97,98]⟩ 2=0:=by rw [mQ,ah (by decide)]
 have c1:mQ ⟨#[97,98]⟩ 1=1:=by rw [mQ,au (by decide),c2];decide
 have c0:mQ ⟨#[97,98]⟩ 0=2:=by rw [mQ,au (by decide),c1];decide
 exact ⟨by unfold mX;rw [e0];decide,c0⟩
abbrev hd0:cu:=⟨[],⟨0,0,[],[]⟩⟩
def mo:av:=.mk 1 0 0 ⟨#[97,98]⟩ hd0 [] []
theorem uA:fK mo=2∧zD mo=0:=by simp [fK,zD,mo,av.kind,av.text,qP,IW,XY.1,XY.2]
theorem JJ {G:GH}:gW G hd0 (.slice none 0 0) (.slice none 0 0) (.slice none 0 0):=⟨ay.jB rfl (by decide),ay.jB rfl (by decide),ay.jB rfl (by decide)⟩
end
section
open Go.RowKit
def yL:aR:=.mk 5 hd0 [mo]
def yM:aR:=.mk 4 hd0 []
def xJ:aS:=.mk hd0 [yL,yM]
def kG:av:=.mk 7 0 3 ⟨#[]⟩ hd0 [] [xJ]
def yN:iW:=⟨[kG],hd0,[],⟨[],[],[],[]⟩⟩
theorem auT:mX ⟨#[]⟩=true:=by
 have e0:nT ⟨#[]⟩ 0=-1:=by rw [nT,dif_neg (by decide)]
 unfold mX;rw [e0];decide
theorem avI:jU ⟨[],[],[],[]⟩=0:=by simp [jU,bP,fU,uE,wM,um,zQ,bK,fV]
theorem avH:uq []=0:=by simp [uq,bP,bK,fV]
theorem KA (C:bL) {e:Int} (h1:1≤e) (h2:e≤10):eH C e hd0=0:=by
 have h3:gY e []=0:=by rw [gY,ah (by omega)];rfl
 simp [eH,bP,hd0,h3,vZ,fq,fV,bK]
theorem xFa:gN mo=0:=by
 simp [gN,mo,av.kind,av.code,av.id,av.text,av.flow,av.rows,codeOk,qU,uy,sN,uY,wo,mh,XY.1]
theorem xFt:gN kG=0:=by
 simp [gN,kG,av.kind,av.code,av.id,av.text,av.flow,av.rows,codeOk,qU,uy,sN,uY,wo,mh,auT]
theorem avF:fP yN.jN true false 0 [kG] ⟨0,[]⟩=(0,⟨3,[3,5,4]⟩):=by
 obtain ⟨C,hC⟩:∃ C,C=yN.jN:=⟨_,rfl⟩;rw [← hC]
 have UH:C.us=[]:=by rw [hC]
 have hA:∀ s:CS,fP C false false 1 [mo] s=(0,⟨s.n+2,s.aU⟩):=fun s=>by
  have e1:jh C false false 1 mo.kind mo.id ⟨s.n+(fK mo:Nat),s.aU⟩=(0,⟨s.n+2,s.aU⟩):=by rw [uA.1];rfl
  have e2:eH C mo.kind mo.head=0:=KA C (by decide) (by decide)
  simp [fP,Nc,fF,xFa,e1,e2,show ¬ mo.kind=6 by decide,show ¬ mo.kind=7 by decide]
 have e2:jh C true false 0 7 kG.id ⟨((fK kG:Nat):Int),[]⟩=(0,⟨1,[3]⟩):=by unfold jh gZ;rw [UH];rfl
 have e3:eH C 7 kG.head=0:=KA C (by decide) (by decide);have e4:eH C 9 xJ.head=0:=KA C (by decide) (by decide);have e5:eH C 10 yL.head=0:=KA C (by decide) (by decide);have e6:eH C 10 yM.head=0:=KA C (by decide) (by decide)
 have e7:gZ C ⟨1,[3]⟩ yL.id=(0,⟨1,[3,5]⟩):=by unfold gZ;rw [UH];rfl
 have e8:gZ C ⟨3,[3,5]⟩ yM.id=(0,⟨3,[3,5,4]⟩):=by unfold gZ;rw [UH];rfl
 have f1:kG.rows=[xJ]:=rfl;have f2:xJ.cells=[yL,yM]:=rfl;have f3:yL.flow=[mo]:=rfl;have f4:yM.flow=[]:=rfl
 simp [fP,Nc,fF,xFt,e2,e3,show ¬ kG.kind=6 by decide,show kG.kind=7 by decide,f1,jD,fJ,II,rG,e4,bP,bK,f2,kS,zO,e5,e6,e7,e8,f3,f4,hA]
theorem avE:gJ yN=0:=by
 have h1:eH yN.jN 3 yN.fin=0:=KA _ (by decide) (by decide);have h2:jU yN.iD=0:=avI;have h3:uq yN.revs=0:=avH;have h4:fP yN.jN true false 0 yN.flow ⟨0,[]⟩=(0,⟨3,[3,5,4]⟩):=avF
 have h5:qI yN.fin.marks=false:=by decide
 simp [gJ,h1,h2,h3,h4,h5,bP,bK]
theorem Ym:fC [kG]=[⟨0,[kG],true,false,0⟩,⟨5,[mo],false,false,1⟩,⟨4,[],false,false,1⟩]:=by
 simp [fC,jm,agh,kG,av.kind,av.rows,pR,agi,xJ,aS.cells,qm,agc,yL,yM,aR.id,aR.flow,mo]
theorem avG:CK [kG] 4=some (0,0):=by
 have h1:mW 5 0 [mo]=[]:=by simp [mW,Kl,mo,av.kind]
 have h2:mW 4 0 []=[]:=by simp [mW]
 simp [CK,mW,Kl,kG,av.kind,jX,xJ,yL,yM,aS.cells,lW,aeG,aR.id,aR.flow,h1,h2,J6,av.id,av.rows,QC]
theorem Yn:fO [kG]=[3,5,4]:=by
 simp [fO,adn,kG,av.kind,av.id,av.rows,av.flow,rD,ado,xJ,aS.cells,sM,adl,yL,yM,aR.id,aR.flow,mo]
theorem agt:∀ k,kY ((fC [kG]).take k)=if k=0 then 0 else if k=1 then 1 else 3:=by
 have l1:pX [kG]=1:=by simp [pX,wO,qL,fK,zD,kG,av.kind]
 have l2:pX [mo]=2:=by simp [pX,wO,qL,uA.1,uA.2]
 have l3:pX []=0:=rfl;intro k;rw [Ym]
 match k with
 | 0=>rfl
 | 1=>simp [kY,l1]
 | 2=>simp [kY,l1,l2]
 | n+3=>simp [kY,l1,l2,l3]
end
section
open Go.RowKit
theorem afr:sV prog 68 [(0,1),(1,1),(2,1),(3,1),(4,5),(9,1),(10,1)] [.int .i64 0,.int .i64 0,.int .i64 0,.string ⟨#[]⟩,.slice none 0 0,.int .i64 0,.int .i64 0,.slice none 0 0,.slice none 0 0,.slice none 0 0,.slice none 0 0]:=⟨by kernel_rfl,by kernel_rfl⟩
theorem akT:∀ args w,(callFunc 36 args).run prog w=.ok (.enter 36 args) w:=enters func36 rfl (by kernel_rfl)
theorem akS:∀ args w,(callFunc 28 args).run prog w=.ok (.enter 28 args) w:=enters func28 rfl (by kernel_rfl)
theorem akU:∀ args w,(callFunc 37 args).run prog w=.ok (.enter 37 args) w:=enters func37 rfl (by kernel_rfl)
theorem aaF:∀ args w,(callFunc 27 args).run prog w=.ok (.enter 27 args) w:=enters func27 rfl (by kernel_rfl)
theorem alK:YB prog 48 [0,1]:=⟨by kernel_rfl,by kernel_rfl,by kernel_rfl,by kernel_rfl,by kernel_rfl⟩
theorem aky:∀ args w,(callFunc 20 args).run prog w=.ok (.enter 20 args) w:=enters func20 rfl (by kernel_rfl)
theorem aay:∀ args w,(callFunc 21 args).run prog w=.ok (.enter 21 args) w:=enters func21 rfl (by kernel_rfl)
theorem arF {G:GH}:tV G ⟨[],[],[],[]⟩ (.slice none 0 0) (.slice none 0 0) (.slice none 0 0) (.slice none 0 0):=⟨ay.jB rfl (by decide),ay.jB rfl (by decide),ay.jB rfl (by decide),ay.jB rfl (by decide)⟩
theorem alW (G:GH) (w0:World) (hG:Hold G w0) :
  Calls prog 36 #[] w0 (bB w0 G fun u G'=>∃ D:gM,u=D.val∧mJ G' D yN):=by
 refine eN [] func36 rfl ntmps36 rfl rfl hG ?_;refine aj 1 ?_;intro a H;refine dx iY H wn rfl ?_;clear H;intro b0 a w hb0 H;refine aH 2 H ?_;clear H;intro a H;refine jZ afr [_,_,_,_,_,_,_,_,_,_,_] H wn rfl rfl rfl rfl ?_;clear H;intro a H;refine iy rR dU [_,_,_,_,_,_,_,_,_,_,_] [_,_,_,_,_,_,_,_,_,_,_] H wn rfl rfl rfl rfl rfl (by intro i q h;match i,h with|0,h=>exact h|n+1,h=>simp at h) rfl rfl ?_;clear H;intro b3 a w hb3 H;refine aH 4 H ?_;clear H;intro a H;(iterate 2 refine jZ RI [_,_,_,_,_,_,_] H wn rfl rfl rfl rfl ?_;clear H;intro a H);refine iy FP iI [_,_,_,_,_,_,_,_,_,_,_,_,_,_] [_,_,_,_,_,_,_,_,_,_,_,_,_,_] H wn rfl rfl rfl rfl rfl (by intro i q h;match i,h with|0,h=>exact h|1,h=>exact h|n+2,h=>simp at h) rfl rfl ?_;clear H;intro b7 a w qD H;refine jZ XL [_,_,_,_,_,_] H wn rfl rfl rfl rfl ?_;clear H;intro a H;refine iy IV jw [_,_,_,_,_,_] [_,_,_,_,_,_] H wn rfl rfl rfl rfl rfl (by intro i q h;match i,h with|0,h=>exact h|n+1,h=>simp at h) rfl rfl ?_;clear H;intro b9 a w qE H;refine jZ afr [_,_,_,_,_,_,_,_,_,_,_] H wn rfl rfl rfl rfl ?_;clear H;intro a H;refine iy rR dU [_,_,_,_,_,_,_,_,_,_,_] [_,_,_,_,_,_,_,_,_,_,_] H wn rfl rfl rfl rfl rfl (by intro i q h;match i,h with|0,h=>exact h|n+1,h=>simp at h) rfl rfl ?_;clear H;intro b11 a w Hu H;refine jZ afq [_,_,_,_,_,_,_,_,_,_,_] H wn rfl rfl rfl rfl ?_;clear H;intro a H;refine bq iY 4 (vs:=[_,_,_,_,_,_,_,_,_,_,_]) _ H wn rfl rfl rfl rfl rfl rfl rfl rfl ?_;clear H;intro w H;dsimp only [List.set,setRow] at H;refine aI ?_;refine dW ?_;refine dw ?_;refine (leave1 H results36 (.cons (xD iY (cs:=[_,_,_,_,_,_,_,_,_,_,_]) H rfl rfl (H.hp.cO 4 rfl rfl)) .nil) ?_).1;have H:=H.bY (Pl:=[_,_,_,_,_]) (bT:=[_,_,_,_]) [3,2,1,0] (by decide) rfl;obtain ⟨G3,tJ,hr3,H⟩:=H.Pk (sz:=11) (d:=mo.dat) rfl (aZ.mkItem (x:=mo) JJ (ay.jB (A:=none) (n:=0) (c:=0) rfl (by decide)) (ay.jB (A:=none) (n:=0) (c:=0) rfl (by decide)));obtain ⟨G7,vO,qD,H⟩:=H.dS;have rA:aZ G7 yL.dat _:=aZ.Ke (x:=yL) JJ (hr3.mono vO);have rB:aZ G7 yM.dat _:=aZ.Ke (x:=yM) JJ (ay.jB (A:=none) (n:=0) (c:=0) rfl (by decide));have eU:bV G7 7 (xJ.cells.map aR.dat) _:=(bV.nil.snoc rA rfl).snoc rB rfl;have VT:ay G7 (.sl 7 (xJ.cells.map aR.dat)) (.slice (some ⟨b7,0,none⟩) 2 2):=ay.eT (n:=2) (cap:=2) qD rfl (bX _) (show 2≤maxLen by decide) rfl eU;obtain ⟨G9,ze,Ie,H⟩:=H.Pk (sz:=6) (d:=xJ.dat) rfl (aZ.QU (x:=xJ) JJ VT);obtain ⟨qM,DZ,apk,H⟩:=H.Pk (sz:=11) (d:=kG.dat) rfl (aZ.mkItem (x:=kG) JJ (ay.jB (A:=none) (n:=0) (c:=0) rfl (by decide)) Ie);exact H.rt ⟨⟨(some ⟨b11,0,none⟩,1,1),(none,0,0),(none,0,0),(none,0,0),(none,0,0),(none,0,0),(none,0,0),(none,0,0),(none,0,0),0,0⟩,rfl,⟨apk,JJ,rfl,rfl,ay.jB (c:=0) rfl (show 0≤maxLen by decide),arF⟩⟩
theorem xZt:bM kG.dat≤100:=by
 have h1:=pU kG;have h2:=tO xJ;have h3:=uZ yL;have h4:=uZ yM;have h5:=pU mo
 have h0:oN hd0=5:=by simp [BF,dY]
 have g1:kG.head=hd0:=rfl;have g2:xJ.head=hd0:=rfl;have g3:yL.head=hd0:=rfl;have g4:yM.head=hd0:=rfl;have g5:mo.head=hd0:=rfl;have s1:kG.text.size=0:=rfl;have s5:mo.text.size=2:=rfl;have f1:aX kG.flow=0:=rfl;have f5:aX mo.flow=0:=rfl;have f3:aX yL.flow=1+bM mo.dat:=rfl;have f4:aX yM.flow=0:=rfl;have r1:eD kG.rows=1+bM xJ.dat:=rfl;have r5:eD mo.rows=0:=rfl;have c2:gH xJ.cells=1+bM yL.dat+(1+bM yM.dat):=rfl;rw [g1,h0] at h1;rw [g2,h0] at h2;rw [g3,h0] at h3;rw [g4,h0] at h4;rw [g5,h0] at h5
 omega
theorem xZ:zJ yN:=by
 have h0:oN hd0=5:=by simp [BF,dY]
 have h1:aX yN.flow=1+bM kG.dat:=rfl;have h2:=xZt;exact ⟨by omega,by show oN hd0≤_;omega,by decide,(fun x h=>by cases h),by decide,⟨(fun x h=>by cases h),by decide,(fun x h=>by cases h),by decide,(fun x h=>by cases h),by decide,(fun x h=>by cases h),(fun x h=>by cases h),(fun x h=>by cases h)⟩⟩
theorem Wx (G:GH) (w0:World) (hG:Hold G w0):Calls prog 8 #[] w0 (bB w0 G fun u G'=>u=.bool true):=by
 have hz:aX [kG]≤4294967296:=Nat.le_trans xZ.fl (by decide);refine eN [] func8 rfl ntmps8 rfl rfl hG ?_;refine aj 4 ?_;intro a H;refine s_call akT H wn rfl (alW _ _ H.ro) rfl ?_;clear H;rintro v5 G5 a w ⟨D,rfl,hR⟩ Qh H;refine dx iY H wn rfl ?_;clear H;intro b1 a w hb1 H;refine bq iY 0 (vs:=[_,_,_,_,_,_,_,_,_,_,_]) _ H wn rfl rfl rfl rfl rfl rfl rfl rfl ?_;clear H;intro w H;dsimp only [List.set,setRow] at H;refine aH 2 H ?_;clear H;intro a H;refine aT iY (cs:=[_,_,_,_,_,_,_,_,_,_,_]) H wn rfl rfl (H.hp.cO 0 rfl rfl) rfl ?_;clear H;intro a H;refine s_call akS H wn rfl (aiS _ _ H.ro D [kG] hR.fl hz) rfl ?_;clear H;rintro v7 G7 a w hfl vO H;replace hR:=hR.mono vO;rw [Ym] at hfl;obtain ⟨vA,vn,vc,rfl⟩:=hfl.form;obtain rfl:vn=3:=hfl.len;obtain ⟨b,o,cs,rfl,hcl,wZ,hr⟩:=hfl.at_ 1 [li 5] rfl;obtain ⟨_,_,rfl,⟨rfl,-⟩,rfl⟩:∃ v vs,cs=v :: vs∧ay G7 (li 5) v∧vs=[]:=hr;obtain ⟨b',o',cs,he,hcl,hrow2,hr⟩:=hfl.at_ 2 [li 4] rfl;obtain ⟨_,_,rfl,⟨rfl,-⟩,rfl⟩:∃ v vs,cs=v :: vs∧ay G7 (li 4) v∧vs=[]:=hr
 injection he with he
 injection he with e1 e2
 subst e1;subst e2;have c1:aC G7 b (o+1*1)=some (vi 5):=wZ 0 _ rfl;have c2:aC G7 b (o+2*1)=some (vi 4):=hrow2 0 _ rfl;refine aH 3 H ?_;clear H;intro a H;refine aT iY (cs:=[_,_,_,_,_,_,_,_,_,_,_]) H wn rfl rfl (H.hp.cO 0 rfl rfl) rfl ?_;clear H;intro a H;refine s_call akU H wn rfl (asv _ _ H.ro D [kG] 4 hR.fl hz) rfl ?_;clear H;rintro v10 Ak a w rfl oF H;replace hR:=hR.mono oF;replace c1:=aD oF c1;replace c2:=aD oF c2;rw [avG] at H;dsimp only [Option.getD,Option.isSome] at H;refine aH 1 H ?_;clear H;intro a H;(iterate 2 refine qK H wn rfl rfl rfl ?_;clear H;intro a H);refine dx kX H wn rfl ?_;clear H;intro b3 a w hb3 H;refine bq kX 0 (vs:=[_,_]) _ H wn rfl rfl rfl rfl rfl rfl rfl rfl ?_;clear H;intro w H;dsimp only [List.set,setRow] at H;refine aH 3 H ?_;clear H;intro a H;refine aT iY (cs:=[_,_,_,_,_,_,_,_,_,_,_]) H wn rfl rfl (H.hp.cO 1 rfl rfl) rfl ?_;clear H;intro a H;refine s_call aaF H wn rfl (ZK _ _ H.ro D yN hR xZ) rfl ?_;clear H;rintro v14 qo a w rfl Cr H;replace hR:=hR.mono Cr;replace c1:=aD Cr c1;replace c2:=aD Cr c2;rw [avE] at H;refine jA 2 16 H ?_ ?_ <;> clear H
 ·intro h16
  try have p16:=dT h16
  refine iV 5 21 ?_ ?_
  ·intro h21
   try have nN:=dT h21
   refine aj 1 ?_;intro a H;refine RD tN bC 1 H (wg H rfl rfl h21) rfl rfl rfl (by omega) rfl ?_;clear H;refine iV 4 27 ?_ ?_
   ·intro h27
    try have p27:=dT h27
    refine aj 1 ?_;intro a H;refine RD tN bC 2 H (wg H rfl rfl h27) rfl rfl rfl (by omega) rfl ?_;clear H;refine iV 4 33 ?_ ?_
    ·intro E5
     refine iV 3 36 ?_ ?_
     ·intro Mi
      intro a H;refine aT kX (cs:=[_,_]) H (wg H rfl rfl Mi) rfl rfl (H.hp.cO 0 rfl rfl) rfl ?_;clear H;intro a H;refine jZ ND [_,_] H (wg H rfl rfl Mi) rfl rfl rfl rfl ?_;clear H;intro a H;refine atA alK H (wg H rfl rfl Mi) rfl rfl rfl rfl ?_;clear H;refine iV 2 41 ?_ ?_
      ·intro ow
       intro a H;refine aT iY (cs:=[_,_,_,_,_,_,_,_,_,_,_]) H (wg H rfl rfl ow) rfl rfl (H.hp.cO 1 rfl rfl) rfl ?_;clear H;intro a H;refine s_call aky H (wg H rfl rfl ow) rfl (amO _ _ H.ro D [kG] hR.fl hz (by rw [Yn];decide) (by rw [Yn];decide)) rfl ?_;clear H;rintro v43 Am a w rfl nK H;replace hR:=hR.mono nK;rw [Yn] at H;refine jA 3 46 H ?_ ?_ <;> clear H
       ·intro h46
        intro a H;refine aT iY (cs:=[_,_,_,_,_,_,_,_,_,_,_]) H (wg H rfl rfl h46) rfl rfl (H.hp.cO 1 rfl rfl) rfl ?_;clear H
        intro a H;refine s_call aay H (wg H rfl rfl h46) rfl (afP _ _ H.ro D [kG] hR.fl hz (fun k _=>by rw [agt];(repeat' split) <;> decide)) rfl ?_;clear H
        rintro v48 G48 a w rfl awV H;rw [show kY (fC [kG])=3 by have:=agt 3;rw [iL (by rw [Ym];decide)] at this;exact this] at H;refine gK 4 H ?_;exact rfl
       intro h46
       intro a H;exact absurd h46 (by decide)
      intro ow
      intro a H;exact absurd ow (by decide)
     intro Mi
     intro a H;exact absurd Mi (by decide)
    intro E5
    intro a H;exact absurd E5 (by decide)
   intro h27
   intro a H;exact absurd h27 (by decide)
  intro h21
  intro a H;exact absurd h21 (by decide)
 intro h16
 intro a H;exact absurd h16 (by decide)
end
section
open Go.RowKit
instance:dL prog 56 2 12:=⟨by kernel_rfl⟩
instance:dL prog 56 1 11:=⟨by kernel_rfl⟩
variable {uo:ak}
def wE (v:ak) (aU:List Int) (L L0:OL):Prop:=∃ Lo,L=L0++Lo∧cB 3 1 v aU.length (aU.map vi) Lo
theorem anJ (G:GH) (Lo:OL) (w0:World) (l:List Int) (v:ak) (hr:cB 3 1 v l.length (l.map vi) Lo) (hO:fM G Lo w0) (x:Int) :
  Calls prog 71 #[v,vi x] w0 (fB w0 G Lo fun u G' L'=>G=G'∧L'=Lo∧u=.bool (decide (x∈l))):=by
 rcases hr.2 with ⟨rfl,hn,rfl⟩|⟨b,cap,cur,rfl,rfl,h1,h2,h3,h4⟩
 ·obtain rfl:l=[]:=List.length_eq_zero_iff.1 hn;refine (P5 G w0 hO.ro [] _ (ay.jB rfl (by decide)) x).mono fun _ _ h=>?_;obtain ⟨u,G',L',rfl,hc,rfl,rfl,rfl⟩:=Hp.asX hO.ro h;exact ⟨_,_,_,rfl,hc,rfl,rfl,rfl⟩
 have hm:=GH.EG G (o:=.cells cur 3 (0,0)) (hO.sep _ gP);exact (P5 (G.add b (.cells cur 3 (0,0))) w0 hO.add l _ (ay.eT (GH.EH _ _ _) (by simp) h1 h2 h4 (fG _ l)) x).mono fun _ _=>Xr (b:=b) (R':=fun u=>u=.bool (decide (x∈l))) hO fun _ _ h=>h.1
theorem adU (C:bL) (G:GH) (L L0:OL) (w0:World) (D:gM) (b:Nat) (v:ak) (s:CS) (x:Int) (hi:wE v s.aU L L0) (hO:fM G (iC uo D b v s.n :: L) w0) (ho:ay G (.sl 1 (C.us.map fun k=>[li k])) uo) (hn:s.aU.length < 1099511627776) :
  Calls prog 54 #[(aK b 0),vi x] w0 (fB w0 G (iC uo D b v s.n :: L) fun u G' L'=>G=G'∧∃ v' L1,u=vi (gZ C s x).1∧L'=iC uo D b v' s.n :: L1∧wE v' (gZ C s x).2.aU L1 L0):=by
 obtain ⟨Lo,rfl,hr⟩:=hi;obtain ⟨vA,vc,rfl,-,-⟩:=hr.shape;obtain ⟨oA,on,oc,rfl⟩:=ho.form;obtain ⟨n,aU⟩:=s;dsimp only at hr hO hn ⊢;have hml:maxLen=9223372036854775807:=rfl;refine iM (N:=37) (T:=[(0,_),(1,_)]) func54 rfl ntmps54 rfl rfl hO ?_;refine gV 9 8 ?_ ?_
 ·intro p8
  refine aj 17 ?_;intro a H;refine lr H results54 rfl ?_
  have e:lJ C.us aU x=18:=by rw [lJ,au (by omega)]
  exact H.hp.dO ⟨rfl,_,_,aB vi e.symm,rfl,by show wE _ (iQ C.us aU x) _ _;rw [iQ,ah (by rw [e];decide)];exact ⟨Lo,rfl,hr⟩⟩
 intro p8
 refine iV 4 12 ?_ ?_
 ·intro h12
  try have lu:=dT h12
  refine aj 13 ?_;intro a H;refine lr H results54 rfl ?_
  have e:lJ C.us aU x=18:=by rw [lJ,au (by omega)]
  exact H.hp.dO ⟨rfl,_,_,aB vi e.symm,rfl,by show wE _ (iQ C.us aU x) _ _;rw [iQ,ah (by rw [e];decide)];exact ⟨Lo,rfl,hr⟩⟩
 intro h12
 try have lu:=dF h12
 refine aj 1 ?_;intro a H;refine uS H (wg H rfl rfl h12) rfl rfl ?_;clear H;refine aj 3 ?_;intro a H;refine s_call Ue H (wg H rfl rfl h12) rfl (P5 _ _ H.ro C.us _ ho x) rfl ?_;clear H;rintro v18 _ a w ⟨rfl,rfl⟩ - H;refine fE 3 H ?_ ?_ <;> clear H
 ·intro h5
  try have p5:=dT h5
  refine aj 3 ?_;intro a H;refine lr H results54 rfl ?_
  have e:lJ C.us aU x=18:=by rw [lJ,au (by first|exact .inr p5|exact .inr (lQ h5))]
  exact H.hp.dO ⟨rfl,_,_,aB vi e.symm,rfl,by show wE _ (iQ C.us aU x) _ _;rw [iQ,ah (by rw [e];decide)];exact ⟨Lo,rfl,hr⟩⟩
 intro h5
 try have p5:=dF h5
 refine aj 6 ?_;intro a H;refine fu Ue (Li:=_ :: L0) (L:=Lo) H wn rfl (anJ _ _ _ aU _ hr (Hp.owns (Li:=_ :: L0) H.hp) x) rfl ?_;clear H;rintro v26 _ Lo a w ⟨rfl,rfl,rfl⟩ - H;refine eO 2 H ?_ ?_ <;> clear H
 ·intro pJ
  refine aj 3 ?_;intro a H;refine lr H results54 rfl ?_
  have e:lJ C.us aU x=7:=by rw [lJ,ah (by first|omega|(simp_all;done)|(simp_all;omega)),au pJ]
  exact H.hp.dO ⟨rfl,_,_,aB vi e.symm,rfl,by show wE _ (iQ C.us aU x) _ _;rw [iQ,ah (by rw [e];decide)];exact ⟨Lo,rfl,hr⟩⟩
 intro pJ
 refine aj 8 ?_;intro a H;refine iy tN bC [_] [_] H wn rfl rfl rfl rfl rfl (by intro i q h;match i,h with|0,h=>exact h|n+1,h=>simp at h) rfl rfl ?_;clear H;intro b33 a w anP H;refine oK (Li:=_ :: _ :: L0) (Lo:=Lo) (news:=[vi x]) tN bC rfl rfl H wn rfl rfl hr rfl (H.hp.cO 0 rfl rfl) rfl (by omega) (by omega) rfl ?_;clear H;intro v34 Ob a w acG H;obtain ⟨F6,c34,rfl,-,-⟩:=acG.shape;refine aH 2 H ?_;clear H;intro a H;refine bq NP 1 (vs:=[_]) _ H wn rfl rfl rfl rfl rfl rfl rfl rfl ?_;clear H;intro w H;dsimp only [List.set,setRow] at H;refine aH 4 H ?_;clear H;intro a H;refine lr H results54 rfl ?_
 have e:lJ C.us aU x=0:=by rw [lJ,ah (by first|omega|(simp_all;done)|(simp_all;omega)),ah pJ]
 exact H.hp.bU (L':=iC _ D b _ n :: (L0++Ob)) (by repeat (first|exact bZ _|apply List.Sublist.cons|apply List.Sublist.cons₂)) ⟨rfl,_,_,aB vi e.symm,rfl,by show wE _ (iQ C.us aU x) _ _;rw [iQ,au e];exact ⟨Ob,rfl,by simpa using acG⟩⟩
end
section
open Go.RowKit
theorem LZ:∀ args w,(callFunc 96 args).run prog w=.ok (.enter 96 args) w:=enters func96 rfl (by kernel_rfl)
theorem Uj:∀ args w,(callFunc 97 args).run prog w=.ok (.enter 97 args) w:=enters func97 rfl (by kernel_rfl)
variable {us:List Int} {uo:ak}
theorem aqP (G:GH) (w0:World) (hG:Hold G w0) (D:gM) (st:List bH) (li:List dz) (rv:List bD) (b:Nat) (v:ak) (n:Int) (hck:BJ us uo G D st li rv) (hmz:Gy st li rv) (hb:G b=some (iC uo D b v n).2)
  (e:Int) (h:cu) (p d l:ak) (hh:gW G h p d l) (hz:oN h≤4294967296) :
  Calls prog 43 #[(aK b 0),vi e,uK h p d l] w0 (bB w0 G fun u G'=>u=vi (eH (aL us st li rv) e h)):=by
 obtain ⟨pA,pc,rfl,-,-,-⟩:=hh.props.slice;obtain ⟨dA,dc,rfl,-,-,-⟩:=hh.bg.slice;obtain ⟨lA,lc,rfl,-,-,-⟩:=hh.layers.slice;have hml:maxLen=9223372036854775807:=rfl;have hzz:=BF h;have hz1:=lK (h.props.map gB.dat);have hz2:=lK (h.marks.bg.map iK.dat);have hz3:=lK (h.marks.layers.map iO.dat)
 simp only [bE] at hh hz1 hz2 hz3 ⊢
 generalize oN h=zz at hz hzz
 refine eN [(0,_),(1,_),(2,_)] func43 rfl ntmps43 rfl rfl hG ?_;refine aj 1 ?_;intro a H;refine dN (cs:=[_,_,_,_,_]) H wn rfl rfl rfl ?_;clear H;intro b5 a w hb5 H;refine aH 3 H ?_;clear H;intro a H;obtain ⟨Ga,hma,za,H⟩:=H.dS;replace hck:=hck.mono hma;replace hb:=hma _ _ hb;replace hh:=hh.mono hma
 have g50:aC Ga b5 0=some (.slice pA h.props.length pc):=by unfold aC;rw [za];rfl
 have UE:∀ (j:Nat) (u:ak),[vi h.marks.ins,vi h.marks.move,.slice dA h.marks.bg.length dc,.slice lA h.marks.layers.length lc][j]?=some u→aC Ga b5 (1+j)=some u:=by
  intro j u hj
  unfold aC;rw [za]
  match j,hj with
  | 0,hj=>exact hj
  | 1,hj=>exact hj
  | 2,hj=>exact hj
  | 3,hj=>exact hj
  | n+4,hj=>simp at hj
 refine dG 4 H ?_;clear H;intro a H;refine s_call Ui H wn rfl (EL (Xl _ _ H.ro e h.props _ hh.props)) rfl ?_;clear H;rintro v19 _ a w ⟨⟨_,rfl⟩,rfl⟩ - H;refine eO 6 H ?_ ?_ <;> clear H
 ·intro nN
  have hE:=abP (C:=aL us st li rv) (e:=e) (h:=h) nN;refine aJ 4 ?_;rw [hE]
 intro nN
 have e1:gY e h.props=0:=by simpa using nN
 refine aj 6 ?_;intro a H;refine dD (ι:=Nat × GH) (Tc:=[(0,_),(1,_),(5,_)]) (Lc:=[]) (fun gh=>[(8,vi gh.1)]) (fun gh=>[]) (fun gh=>gh.2) (fun gh=>gh.1≤h.props.length∧bP ((h.props.map fun p=>jY st (li.map dz.id) p.key p.value).drop gh.1)=vZ (aL us st li rv) h.props∧∀ b o,Ga b=some o→gh.2 b=some o) (fun gh=>h.props.length - gh.1) ((0,Ga)) sB ?_ ?_
 ·exact ⟨eG _,rfl,fun _ _ h=>h⟩
 clear H;rintro ⟨k,g⟩ a w hI H;dsimp only at hI H;obtain ⟨hk,heq,hgm⟩:=hI;have abo:=aD hgm g50;have hh':=hh.mono hgm;dsimp only [lca,aQ] at H;refine cK 8 H ?_ ?_ <;> clear H
 ·intro p27
  have hk2:k < h.props.length:=by omega
  obtain ⟨xb,xo,rfl,hrow⟩:=Nz hh'.props hk2;have r0:=hrow 0 _ rfl;have r1:=hrow 1 _ rfl;refine aj 4 ?_;intro a H;refine dI hmx [[],[],[1],[],[1,2,3],(ra 1 4),(ra 1 5),[],[7],[],[7,8,9],(ra 7 4),(ra 7 5),(ra 0 13),(ra 0 14)] [14] (by kernel_rfl) [_,_,_,_,_,_,_,_,_,_,_,_,_,vi (jY st (li.map dz.id) h.props[k].key h.props[k].value)] H (aF (Z0 rfl (Rm rfl)) (Z0 rfl (Rf Ma rfl)) (X1 1 31 rfl fun hG=>Rg Et rfl (aD hG abo)) (Z0 rfl (Rm rfl)) (aF (Z2 2 32 3 33 rfl (Ri wu ql rfl rfl)) (Z1 4 34 rfl (Rf Dz rfl)) (X1 5 35 rfl fun hG=>Rg bC rfl (aD hG r0)) (Z0 rfl (Rf Ma rfl)) (aF (X1 7 37 rfl fun hG=>Rg Et rfl (aD hG abo)) (Z0 rfl (Rm rfl)) (Z2 8 38 9 39 rfl (Ri wu ql rfl rfl)) (Z1 10 40 rfl (Rf ami rfl)) (aW (X1 11 41 rfl fun hG=>Rg bC rfl (aD hG r1)) (aW ?_ (aW (bS rfl) cZ)))))) ?_
  ·refine tQ 0 30 6 36 12 42 rfl rfl fun _ a w G1 hG HT H fin=>?_;refine s_call LZ H wn rfl (Nh _ _ H.ro D st li rv b v n ((hck.mono hgm).mono hG) hmz (hG _ _ (hgm _ _ hb)) h.props[k].key h.props[k].value) rfl ?_;clear H;rintro v43 Am a w ⟨rfl,-⟩ anl H;exact fin H anl (rfl)
  clear H;intro a w G Ht H hv;have H:=H.aV (hv 13 43 rfl rfl) rfl;clear hv;refine t1 6 H ?_;clear H;refine goB 0 ?_ ?_
  ·intro p45
   have hr:vZ (aL us st li rv) h.props=jY st (li.map dz.id) h.props[k].key h.props[k].value:=by rw [← heq];exact (Rt (C:=aL us st li rv) hk2).trans (au p45)
   have hE:=(abQ (C:=aL us st li rv) (e:=e) (h:=h) e1 (by rw [hr];exact p45)).trans hr;refine aJ 4 ?_;rw [hE]
  intro p45
  refine aj 5 ?_;intro a H;refine aI ?_;refine bR ((k+1,G)) sB ?_ ?_
  ·(try dsimp only);exact ⟨by omega,by rw [Rt (C:=aL us st li rv) hk2,ah (by simpa using p45)] at heq;exact heq,fun b o h=>Ht b o (hgm b o h)⟩
  first|omega|(dsimp only;omega)
 intro p27
 refine aj 1 ?_
 have e2:vZ (aL us st li rv) h.props=0:=by rw [← heq,eX (by rw [bE];omega)];rfl
 refine aj 2 ?_;intro a H;refine aT xE (cs:=[vi h.marks.ins,vi h.marks.move,.slice dA h.marks.bg.length dc,.slice lA h.marks.layers.length lc]) H wn rfl rfl (fun j v hj=>H.hp.aC (aD hgm (UE j v hj))) rfl ?_;clear H;intro a H;refine dx xE H wn rfl ?_;clear H;intro b10 a w E9 H;refine bq xE 0 (vs:=[_,_,_,_]) _ H wn rfl rfl rfl rfl rfl rfl rfl rfl ?_;clear H;intro w H;dsimp only [List.set,setRow] at H;obtain ⟨Gb,hmb,P6,H⟩:=H.dS;have hgb:∀ b o,Ga b=some o→Gb b=some o:=fun b o h=>hmb b o (hgm b o h);replace hck:=hck.mono hgb;replace hb:=hgb _ _ hb;replace hh:=hh.mono hgb
 have q0:aC Gb b10 0=some (vi h.marks.ins):=by unfold aC;rw [P6];rfl
 have q1:aC Gb b10 1=some (vi h.marks.move):=by unfold aC;rw [P6];rfl
 have q2:aC Gb b10 2=some (.slice dA h.marks.bg.length dc):=by unfold aC;rw [P6];rfl
 have q3:aC Gb b10 3=some (.slice lA h.marks.layers.length lc):=by unfold aC;rw [P6];rfl
 refine aI ?_;refine dW ?_;refine oQ (ι:=Unit) (Tc:=[(0,_),(1,_),(10,_)]) (Lc:=[]) (fun gh=>[]) (fun gh=>[]) (fun gh=>Gb) (fun gh=>fq (aL us st li rv) h.marks=0) sB ?_ ?_
 ·refine gcQ 6 53 H ?_ ?_ <;> clear H
  ·intro nG
   try have p53:=dT nG
   refine aj 3 ?_;intro a H;refine s_call Uj H (wg H rfl rfl nG) rfl (WB _ _ H.ro D st li rv b v n hck hmz hb h.marks.ins) rfl ?_;clear H;rintro v57 _ a w ⟨rfl,rfl⟩ - H;refine fE 4 H ?_ ?_ <;> clear H
   ·intro xY
    try have p49:=dT xY
    have e3:fq (aL us st li rv) h.marks=22:=au (by first|(simp_all;done)|exact ⟨p52,by simpa using xY⟩);have hE:=(qY (C:=aL us st li rv) (e:=e) (h:=h) e1 e2 (by rw [e3];decide)).trans e3;refine aJ 3 ?_;rw [hE]
   intro xY
   try have p49:=dF xY
   have hno:¬ (h.marks.ins≠0∧h.marks.ins∉(aL us st li rv).kQ):=by first|(simp_all;done)|exact fun h=>p52 h.1
   refine gV 5 64 ?_ ?_
   ·intro p64
    refine aj 17 ?_
    have e3:fq (aL us st li rv) h.marks=21:=by unfold fq;rw [ah hno,au (by first|(simp_all;done)|(simp_all;omega)|omega)]
    have hE:=(qY (C:=aL us st li rv) (e:=e) (h:=h) e1 e2 (by rw [e3];decide)).trans e3;refine aJ 3 ?_;rw [hE]
   intro p64
   refine gV 5 69 ?_ ?_
   ·intro p69
    refine aj 12 ?_
    have e3:fq (aL us st li rv) h.marks=21:=by unfold fq;rw [ah hno,au (by first|(simp_all;done)|(simp_all;omega)|omega)]
    have hE:=(qY (C:=aL us st li rv) (e:=e) (h:=h) e1 e2 (by rw [e3];decide)).trans e3;refine aJ 3 ?_;rw [hE]
   intro p69
   refine gV 4 73 ?_ ?_
   ·intro p73
    refine goB 7 ?_ ?_
    ·intro p60
     have e3:fq (aL us st li rv) h.marks=21:=by unfold fq;rw [ah hno,au (by first|(simp_all;done)|(simp_all;omega)|omega)]
     have hE:=(qY (C:=aL us st li rv) (e:=e) (h:=h) e1 e2 (by rw [e3];decide)).trans e3;refine aJ 3 ?_;rw [hE]
    intro p60
    have hn2:¬ (¬ (0≤h.marks.move∧h.marks.move≤1073741824)∨(h.marks.move≠0∧h.marks.ins=0)):=by first|(simp_all;done)|(simp_all;omega)|omega
    refine goC 7 ?_ ?_
    ·intro qW
     have e3:fq (aL us st li rv) h.marks=9:=by unfold fq;rw [ah hno,ah hn2,au (by simpa using qW)]
     have hE:=(qY (C:=aL us st li rv) (e:=e) (h:=h) e1 e2 (by rw [e3];decide)).trans e3;refine aJ 3 ?_;rw [hE]
    intro qW
    have e3:fq (aL us st li rv) h.marks=0:=by unfold fq;rw [ah hno,ah hn2,ah (by simpa using qW)]
    intro a H;refine iE ?_;refine ⟨(),sB,?_⟩;exact e3
   intro p73
   refine aj 8 ?_
   have hn2:¬ (¬ (0≤h.marks.move∧h.marks.move≤1073741824)∨(h.marks.move≠0∧h.marks.ins=0)):=by first|(simp_all;done)|(simp_all;omega)|omega
   refine goC 7 ?_ ?_
   ·intro qW
    have e3:fq (aL us st li rv) h.marks=9:=by unfold fq;rw [ah hno,ah hn2,au (by simpa using qW)]
    have hE:=(qY (C:=aL us st li rv) (e:=e) (h:=h) e1 e2 (by rw [e3];decide)).trans e3;refine aJ 3 ?_;rw [hE]
   intro qW
   have e3:fq (aL us st li rv) h.marks=0:=by unfold fq;rw [ah hno,ah hn2,ah (by simpa using qW)]
   intro a H;refine iE ?_;refine ⟨(),sB,?_⟩;exact e3
  intro nG
  try have p53:=dF nG
  refine aj 9 ?_
  have hno:¬ (h.marks.ins≠0∧h.marks.ins∉(aL us st li rv).kQ):=by first|(simp_all;done)|exact fun h=>p52 h.1
  refine gV 5 64 ?_ ?_
  ·intro p64
   refine aj 17 ?_
   have e3:fq (aL us st li rv) h.marks=21:=by unfold fq;rw [ah hno,au (by first|(simp_all;done)|(simp_all;omega)|omega)]
   have hE:=(qY (C:=aL us st li rv) (e:=e) (h:=h) e1 e2 (by rw [e3];decide)).trans e3;refine aJ 3 ?_;rw [hE]
  intro p64
  refine gV 5 69 ?_ ?_
  ·intro p69
   refine aj 12 ?_
   have e3:fq (aL us st li rv) h.marks=21:=by unfold fq;rw [ah hno,au (by first|(simp_all;done)|(simp_all;omega)|omega)]
   have hE:=(qY (C:=aL us st li rv) (e:=e) (h:=h) e1 e2 (by rw [e3];decide)).trans e3;refine aJ 3 ?_;rw [hE]
  intro p69
  refine gV 4 73 ?_ ?_
  ·intro p73
   refine goB 7 ?_ ?_
   ·intro p60
    have e3:fq (aL us st li rv) h.marks=21:=by unfold fq;rw [ah hno,au (by first|(simp_all;done)|(simp_all;omega)|omega)]
    have hE:=(qY (C:=aL us st li rv) (e:=e) (h:=h) e1 e2 (by rw [e3];decide)).trans e3;refine aJ 3 ?_;rw [hE]
   intro p60
   have hn2:¬ (¬ (0≤h.marks.move∧h.marks.move≤1073741824)∨(h.marks.move≠0∧h.marks.ins=0)):=by first|(simp_all;done)|(simp_all;omega)|omega
   refine goC 7 ?_ ?_
   ·intro qW
    have e3:fq (aL us st li rv) h.marks=9:=by unfold fq;rw [ah hno,ah hn2,au (by simpa using qW)]
    have hE:=(qY (C:=aL us st li rv) (e:=e) (h:=h) e1 e2 (by rw [e3];decide)).trans e3;refine aJ 3 ?_;rw [hE]
   intro qW
   have e3:fq (aL us st li rv) h.marks=0:=by unfold fq;rw [ah hno,ah hn2,ah (by simpa using qW)]
   intro a H;refine iE ?_;refine ⟨(),sB,?_⟩;exact e3
  intro p73
  refine aj 8 ?_
  have hn2:¬ (¬ (0≤h.marks.move∧h.marks.move≤1073741824)∨(h.marks.move≠0∧h.marks.ins=0)):=by first|(simp_all;done)|(simp_all;omega)|omega
  refine goC 7 ?_ ?_
  ·intro qW
   have e3:fq (aL us st li rv) h.marks=9:=by unfold fq;rw [ah hno,ah hn2,au (by simpa using qW)]
   have hE:=(qY (C:=aL us st li rv) (e:=e) (h:=h) e1 e2 (by rw [e3];decide)).trans e3;refine aJ 3 ?_;rw [hE]
  intro qW
  have e3:fq (aL us st li rv) h.marks=0:=by unfold fq;rw [ah hno,ah hn2,ah (by simpa using qW)]
  intro a H;refine iE ?_;refine ⟨(),sB,?_⟩;exact e3
 clear H;intro un a w hI H;have e3:=hI;dsimp only [lca,aQ] at H;refine dG 5 H ?_;clear H;intro a H;refine dD (ι:=Nat × GH) (Tc:=[(0,_),(1,_),(10,_)]) (Lc:=[]) (fun gh=>[(11,vi gh.1)]) (fun gh=>[]) (fun gh=>gh.2) (fun gh=>gh.1≤h.marks.bg.length∧bP (((List.range h.marks.bg.length).map (qy (aL us st li rv) h.marks.bg)).drop gh.1)=fV (qy (aL us st li rv) h.marks.bg) h.marks.bg.length∧(∀ b o,Gb b=some o→gh.2 b=some o)) (fun gh=>h.marks.bg.length - gh.1) ((0,Gb)) sB ?_ ?_
 ·exact ⟨eG _,rfl,fun _ _ h=>h⟩
 clear H;rintro ⟨k,g2⟩ a w hI H;dsimp only at hI H;obtain ⟨hk,heq,hgm⟩:=hI;have q2':=aD hgm q2;dsimp only [lca,aQ] at H;refine cK 8 H ?_ ?_ <;> clear H
 ·intro Nu
  have hk2:k < h.marks.bg.length:=by omega
  have hd2:=hh.bg.mono hgm;obtain ⟨xb,xo,rfl,hrow⟩:=Jp hd2 hk2
  have hk1:k - 1 < h.marks.bg.length:=by omega
  obtain ⟨b',o',he',hrow'⟩:=Jp hd2 hk1
  intro a H;injection he' with he'
  injection he' with LW e2'
  subst LW;subst e2'
  have hde:qy (aL us st li rv) h.marks.bg k=nS (aL us st li rv) k h.marks.bg[k] h.marks.bg[k - 1].rev:=by unfold qy;rw [dV hk2,dV hk1];rfl
  have hX:∀ v,nS (aL us st li rv) k h.marks.bg[k] h.marks.bg[k - 1].rev=v→v≠0→eH (aL us st li rv) e h=v:=fun v h1 h2=>by
   have h4:fV (qy (aL us st li rv) h.marks.bg) h.marks.bg.length=v:=by rw [← heq,qp hk2,hde,h1,au h2]
   exact (abR e1 e2 e3 (by rw [h4];exact h2)).trans h4
  have hp:=hrow' 0 _ rfl;have r0:=hrow 0 _ rfl;have r1:=hrow 1 _ rfl;refine dG 2 H ?_;clear H;intro a H;(iterate 2 refine LG ?_);refine dG 8 H ?_;clear H;intro a H;refine s_call Uj H wn rfl (WB _ _ H.ro D st li rv b v n (hck.mono hgm) hmz (hgm _ _ hb) h.marks.bg[k].rev) rfl ?_;clear H;rintro v99 _ a w ⟨rfl,rfl⟩ - H;refine fE 3 H ?_ ?_ <;> clear H
  ·intro PK
   have hE:=hX 22 (by unfold nS;rw [au (by simpa using PK)]) (by decide);refine aJ 3 ?_;rw [hE]
  intro PK
  try have zu:=dF PK
  have Ia:¬ (h.marks.bg[k].rev∉(aL us st li rv).kQ):=by simpa using PK
  refine aj 1 ?_
  intro a H;by_cases c3:0 < (k:Int)
  ·skip
   by_cases c4:h.marks.bg[k].rev≤h.marks.bg[k - 1].rev
   ·refine dI hmx [[],[0],[0,1],[0,1,2],(ra 0 4),[0,1,2],(ra 0 6),(ra 0 7),(ra 0 8),[0,1,2],[0,1,2,9],[0,1,2],[0,1,2,11],([0,1,2]++ra 9 4),([0,1,2]++ra 9 5),([0,1,2]++ra 9 6),(ra 0 16),(ra 0 17),(ra 0 18)] [18] (by kernel_rfl) [_,_,_,_,_,_,_,_,_,_,_,_,vi ((k - 1:Nat):Int),_,_,_,_,_] H (aF (Z0 rfl (Rm rfl)) (Z1 0 102 rfl (Rc rfl)) (Z1 1 103 rfl (Rm rfl)) (Z1 2 104 rfl (YF zS (aG c3) rfl)) (aF (X2 3 105 2 104 rfl fun hG=>YR Af (aG c3) rfl (aD hG q2')) (Z1 2 104 rfl (YM (aG c3) rfl)) (Z3 4 106 5 107 2 104 rfl (YI wz sQ (aG c3) rfl rfl)) (Z2 6 108 2 104 rfl (YF Dw (aG c3) rfl)) (aF (X2 7 109 2 104 rfl fun hG=>YR bC (aG c3) rfl (aD hG r0)) (Z1 2 104 rfl (YF zS (aG c3) rfl)) (X2 9 111 2 104 rfl fun hG=>YR Af (aG c3) rfl (aD hG q2')) (Z1 2 104 rfl (YM (aG c3) rfl)) (aF ?_ (Z3 10 112 12 114 2 104 rfl (YI wz sQ (aG c3) rfl rfl)) (Z2 13 115 2 104 rfl (YF Dw (aG c3) rfl)) (X2 14 116 2 104 rfl fun hG=>YR bC (aG c3) rfl (aD hG hp)) (aW (Z3 8 110 15 117 2 104 rfl (YC (aG c3) rfl)) (aW (Z2 2 104 16 118 rfl (Pt (aG c3) rfl)) (aW (bS rfl) cZ))))))) ?_
    ·refine dP 11 113 2 104 rfl rfl fun _ a w G1 hG HT H fin=>?_;refine lC _ H (wg H rfl rfl (aG c3)) rfl rfl rfl (by omega) (by omega) rfl ?_;clear H;intro a H;exact fin H iJ (by show _=_;first|rfl|exact aB vi (by omega))
    clear H;intro a w G vJ H hv;have H:=H.aV (hv 17 119 rfl rfl) rfl;clear hv;refine t1 3 H ?_;clear H;have hz:0 < k∧h.marks.bg[k].rev≤h.marks.bg[k - 1].rev:=⟨by omega,c4⟩;have hE:=hX 6 (by unfold nS;rw [ah Ia,au hz]) (by decide);refine aJ 3 ?_;rw [hE]
   refine dI hmx [[],[0],[0,1],[0,1,2],(ra 0 4),[0,1,2],(ra 0 6),(ra 0 7),(ra 0 8),[0,1,2],[0,1,2,9],[0,1,2],[0,1,2,11],([0,1,2]++ra 9 4),([0,1,2]++ra 9 5),([0,1,2]++ra 9 6),(ra 0 16),(ra 0 17),(ra 0 18)] [18] (by kernel_rfl) [_,_,_,_,_,_,_,_,_,_,_,_,vi ((k - 1:Nat):Int),_,_,_,_,_] H (aF (Z0 rfl (Rm rfl)) (Z1 0 102 rfl (Rc rfl)) (Z1 1 103 rfl (Rm rfl)) (Z1 2 104 rfl (YF zS (aG c3) rfl)) (aF (X2 3 105 2 104 rfl fun hG=>YR Af (aG c3) rfl (aD hG q2')) (Z1 2 104 rfl (YM (aG c3) rfl)) (Z3 4 106 5 107 2 104 rfl (YI wz sQ (aG c3) rfl rfl)) (Z2 6 108 2 104 rfl (YF Dw (aG c3) rfl)) (aF (X2 7 109 2 104 rfl fun hG=>YR bC (aG c3) rfl (aD hG r0)) (Z1 2 104 rfl (YF zS (aG c3) rfl)) (X2 9 111 2 104 rfl fun hG=>YR Af (aG c3) rfl (aD hG q2')) (Z1 2 104 rfl (YM (aG c3) rfl)) (aF ?_ (Z3 10 112 12 114 2 104 rfl (YI wz sQ (aG c3) rfl rfl)) (Z2 13 115 2 104 rfl (YF Dw (aG c3) rfl)) (X2 14 116 2 104 rfl fun hG=>YR bC (aG c3) rfl (aD hG hp)) (aW (Z3 8 110 15 117 2 104 rfl (YC (aG c3) rfl)) (aW (Z2 2 104 16 118 rfl (Pt (aG c3) rfl)) (aW (bS rfl) cZ))))))) ?_
   ·refine dP 11 113 2 104 rfl rfl fun _ a w G1 hG HT H fin=>?_;refine lC _ H (wg H rfl rfl (aG c3)) rfl rfl rfl (by omega) (by omega) rfl ?_;clear H;intro a H;exact fin H iJ (by show _=_;first|rfl|exact aB vi (by omega))
   clear H;intro a w G vJ H hv;have H:=H.aV (hv 17 119 rfl rfl) rfl;clear hv;refine t1 3 H ?_;clear H
   have hz:¬ (0 < k∧h.marks.bg[k].rev≤h.marks.bg[k - 1].rev):=by first|exact fun h=>c4 h.2|exact fun h=>c3 (by omega)
   replace q2':=aD vJ q2';replace r1:=aD vJ r1;refine gV 9 128 ?_ ?_
   ·intro Ec
    refine aj 11 ?_;have hE:=hX 21 (by unfold nS;rw [ah Ia,ah hz,au (by first|omega|(simp_all;omega))]) (by decide);refine aJ 3 ?_;rw [hE]
   intro Ec
   refine goB 10 ?_ ?_
   ·intro Fz
    have hE:=hX 21 (by unfold nS;rw [ah Ia,ah hz,au (by first|omega|(simp_all;omega))]) (by decide);refine aJ 3 ?_;rw [hE]
   intro Fz
   have HV:nS (aL us st li rv) k h.marks.bg[k] h.marks.bg[k - 1].rev=0:=by unfold nS;rw [ah Ia,ah hz,ah (by first|omega|(simp_all;omega))]
   refine aj 5 ?_;intro a H;refine aI ?_;refine bR ((k+1,G)) sB ?_ ?_
   ·(try dsimp only);exact ⟨by omega,by rw [qp hk2,ah (by rw [hde];simpa using HV)] at heq;exact heq,fun b o h=>vJ b o (hgm b o h)⟩
   first|omega|(dsimp only;omega)
  refine dI hmx [[],[0],[0,1],[0,1,2],(ra 0 4),[0,1,2],(ra 0 6),(ra 0 7),(ra 0 8),[0,1,2],[0,1,2,9],[0,1,2],[0,1,2,11],([0,1,2]++ra 9 4),([0,1,2]++ra 9 5),([0,1,2]++ra 9 6),(ra 0 16),(ra 0 17),(ra 0 18)] [18] (by kernel_rfl) [_,_,_,undef,undef,undef,undef,undef,undef,undef,undef,undef,undef,undef,undef,undef,undef,_] H (aF (Z0 rfl (Rm rfl)) (Z1 0 102 rfl (Rc rfl)) (Z1 1 103 rfl (Rm rfl)) (aO 2 (aN c3) rfl rfl) (aF (aO 2 (aN c3) rfl rfl) (aO 2 (aN c3) rfl rfl) (aO 2 (aN c3) rfl rfl) (aO 2 (aN c3) rfl rfl) (aF (aO 2 (aN c3) rfl rfl) (aO 2 (aN c3) rfl rfl) (aO 2 (aN c3) rfl rfl) (aO 2 (aN c3) rfl rfl) (aF (aO 2 (aN c3) rfl rfl) (aO 2 (aN c3) rfl rfl) (aO 2 (aN c3) rfl rfl) (aO 2 (aN c3) rfl rfl) (aW (aO 2 (aN c3) rfl rfl) (aW (Z2 2 104 16 118 rfl (Pf (aN c3) rfl)) (aW (bS rfl) cZ))))))) ?_
  clear H;intro a w G vJ H hv;have H:=H.aV (hv 17 119 rfl rfl) rfl;clear hv;refine t1 3 H ?_;clear H
  have hz:¬ (0 < k∧h.marks.bg[k].rev≤h.marks.bg[k - 1].rev):=by first|exact fun h=>c4 h.2|exact fun h=>c3 (by omega)
  replace q2':=aD vJ q2';replace r1:=aD vJ r1;refine gV 9 128 ?_ ?_
  ·intro Ec
   refine aj 11 ?_;have hE:=hX 21 (by unfold nS;rw [ah Ia,ah hz,au (by first|omega|(simp_all;omega))]) (by decide);refine aJ 3 ?_;rw [hE]
  intro Ec
  refine goB 10 ?_ ?_
  ·intro Fz
   have hE:=hX 21 (by unfold nS;rw [ah Ia,ah hz,au (by first|omega|(simp_all;omega))]) (by decide);refine aJ 3 ?_;rw [hE]
  intro Fz
  have HV:nS (aL us st li rv) k h.marks.bg[k] h.marks.bg[k - 1].rev=0:=by unfold nS;rw [ah Ia,ah hz,ah (by first|omega|(simp_all;omega))]
  refine aj 5 ?_;intro a H;refine aI ?_;refine bR ((k+1,G)) sB ?_ ?_
  ·(try dsimp only);exact ⟨by omega,by rw [qp hk2,ah (by rw [hde];simpa using HV)] at heq;exact heq,fun b o h=>vJ b o (hgm b o h)⟩
  first|omega|(dsimp only;omega)
 intro Nu
 refine aj 2 ?_
 have e4:fV (qy (aL us st li rv) h.marks.bg) h.marks.bg.length=0:=by rw [← heq,eX (by simp;omega)];rfl
 replace hck:=hck.mono hgm;replace hb:=hgm _ _ hb;replace hh:=hh.mono hgm;replace q3:=aD hgm q3;refine goB 6 ?_ ?_
 ·intro Xa
  have hE:=abS (C:=aL us st li rv) (e:=e) (h:=h) e1 e2 e3 e4 Xa;refine aJ 3 ?_;rw [hE]
 intro Xa
 refine aj 2 ?_;have hE:=abT (C:=aL us st li rv) (e:=e) (h:=h) e1 e2 e3 e4 Xa;refine aj 4 ?_;intro a H;refine dD (ι:=Nat × GH) (Tc:=[(0,_),(1,_),(10,_)]) (Lc:=[]) (fun gh=>[(12,vi gh.1)]) (fun gh=>[]) (fun gh=>gh.2) (fun gh=>gh.1≤h.marks.layers.length∧bP (((List.range h.marks.layers.length).map (xu (aL us st li rv) e h.marks.layers)).drop gh.1)=fV (xu (aL us st li rv) e h.marks.layers) h.marks.layers.length∧(∀ b o,g2 b=some o→gh.2 b=some o)) (fun gh=>h.marks.layers.length - gh.1) ((0,g2)) sB ?_ ?_
 ·exact ⟨eG _,rfl,fun _ _ h=>h⟩
 clear H;rintro ⟨k,g3⟩ a w hI H;dsimp only at hI H;obtain ⟨hk,tF,ru⟩:=hI;have q3':=aD ru q3;dsimp only [lca,aQ] at H;refine cK 8 H ?_ ?_ <;> clear H
 ·intro asi
  have hk2:k < h.marks.layers.length:=by omega
  have hl2:=hh.layers.mono ru;obtain ⟨xb,xo,rfl,hrow⟩:=J7 hl2 hk2
  have hk1:k - 1 < h.marks.layers.length:=by omega
  obtain ⟨b',o',he',hrow'⟩:=J7 hl2 hk1
  intro a H;injection he' with he'
  injection he' with LW e2'
  subst LW;subst e2'
  have DY:xu (aL us st li rv) e h.marks.layers k=kL (aL us st li rv) e k h.marks.layers[k] h.marks.layers[k - 1].key:=by unfold xu;rw [dV hk2,dV hk1];rfl
  have hX:∀ v,kL (aL us st li rv) e k h.marks.layers[k] h.marks.layers[k - 1].key=v→v≠0→eH (aL us st li rv) e h=v:=fun v h1 h2=>by rw [hE,← tF,qp hk2,DY,h1,au h2]
  have hp:=hrow' 1 _ rfl;refine dG 8 H ?_;clear H;intro a H;refine aT rO (cs:=h.marks.layers[k].cells) H wn rfl rfl (fun j v hj=>H.hp.aC (hrow j v hj)) rfl ?_;clear H;intro a H;refine dx rO H wn rfl ?_;clear H;intro b13 a w JE H;refine bq rO 0 (vs:=[_,_,_,_]) _ H wn rfl rfl rfl rfl rfl rfl rfl rfl ?_;clear H;intro w H;dsimp only [List.set,setRow] at H;obtain ⟨Gc,hmc,JF,H⟩:=H.dS;have hgc:∀ b o,g2 b=some o→Gc b=some o:=fun b o h=>hmc b o (ru b o h);replace hp:=aD hmc hp;replace q3':=aD hmc q3'
  have y0:aC Gc b13 0=some (vi h.marks.layers[k].rev):=by unfold aC;rw [JF];rfl
  have y1:aC Gc b13 1=some (vi h.marks.layers[k].key):=by unfold aC;rw [JF];rfl
  have y2:aC Gc b13 2=some (vi h.marks.layers[k].before):=by unfold aC;rw [JF];rfl
  have y3:aC Gc b13 3=some (.bool h.marks.layers[k].had):=by unfold aC;rw [JF];rfl
  refine aH 7 H ?_;clear H;intro a H;refine s_call Uj H wn rfl (WB _ _ H.ro D st li rv b v n (hck.mono hgc) hmz (hgc _ _ hb) h.marks.layers[k].rev) rfl ?_;clear H;rintro v157 _ a w ⟨rfl,rfl⟩ - H;refine fE 3 H ?_ ?_ <;> clear H
  ·intro Py
   have hE:=hX 22 (by unfold kL;rw [au (by simpa using Py)]) (by decide);refine aJ 3 ?_;rw [hE]
  intro Py
  try have axj:=dF Py
  have zV:¬ (h.marks.layers[k].rev∉(aL us st li rv).kQ):=by simpa using Py
  refine aj 4 ?_;intro a H;refine s_call Uk H wn rfl (EL (Uw _ _ H.ro e h.marks.layers[k].key)) rfl ?_;clear H;rintro axD _ a w ⟨⟨_,rfl⟩,rfl⟩ - H;refine fE 3 H ?_ ?_ <;> clear H
  ·intro PD
   have hE:=hX 4 (by unfold kL;rw [ah zV,au (by simpa using PD)]) (by decide);refine aJ 3 ?_;rw [hE]
  intro PD
  try have axl:=dF PD
  have Ba:¬ (Ay e h.marks.layers[k].key=false):=by simpa using PD
  refine aj 1 ?_
  intro a H;by_cases c3:0 < (k:Int)
  ·skip
   by_cases c4:h.marks.layers[k].key < h.marks.layers[k - 1].key
   ·refine dI hmx [[],[0],[0,1],[0,1,2],(ra 0 4),[0,1,2],[0,1,2,5],[0,1,2],[0,1,2,7],[0,1,2,5,6,7,8],[0,1,2,5,6,7,8,9],([0,1,2]++ra 5 6),(ra 0 12),(ra 0 13),(ra 0 14)] [14] (by kernel_rfl) [_,_,_,_,_,_,_,_,vi ((k - 1:Nat):Int),_,_,_,_,_] H (aF (Z0 rfl (Rm rfl)) (Z1 0 166 rfl (Rc rfl)) (Z1 1 167 rfl (Rm rfl)) (Z1 2 168 rfl (YF zR (aG c3) rfl)) (aF (X2 3 169 2 168 rfl fun hG=>YR bC (aG c3) rfl (aD hG y1)) (Z1 2 168 rfl (YF GV (aG c3) rfl)) (X2 5 171 2 168 rfl fun hG=>YR IU (aG c3) rfl (aD hG q3')) (Z1 2 168 rfl (YM (aG c3) rfl)) (aF ?_ (Z3 6 172 8 174 2 168 rfl (YI yK rO (aG c3) rfl rfl)) (Z2 9 175 2 168 rfl (YF zR (aG c3) rfl)) (X2 10 176 2 168 rfl fun hG=>YR bC (aG c3) rfl (aD hG hp)) (aW (Z3 4 170 11 177 2 168 rfl (YC (aG c3) rfl)) (aW (Z2 2 168 12 178 rfl (Pt (aG c3) rfl)) (aW (bS rfl) cZ)))))) ?_
    ·refine dP 7 173 2 168 rfl rfl fun _ a w G1 hG HT H fin=>?_;refine lC _ H (wg H rfl rfl (aG c3)) rfl rfl rfl (by omega) (by omega) rfl ?_;clear H;intro a H;exact fin H iJ (by show _=_;first|rfl|exact aB vi (by omega))
    clear H;intro a w G Cm H hv;have H:=H.aV (hv 13 179 rfl rfl) rfl;clear hv;refine t1 3 H ?_;clear H;have hz:0 < k∧h.marks.layers[k].key < h.marks.layers[k - 1].key:=⟨by omega,c4⟩;have hE:=hX 6 (by unfold kL;rw [ah zV,ah Ba,au hz]) (by decide);refine aJ 3 ?_;rw [hE]
   refine dI hmx [[],[0],[0,1],[0,1,2],(ra 0 4),[0,1,2],[0,1,2,5],[0,1,2],[0,1,2,7],[0,1,2,5,6,7,8],[0,1,2,5,6,7,8,9],([0,1,2]++ra 5 6),(ra 0 12),(ra 0 13),(ra 0 14)] [14] (by kernel_rfl) [_,_,_,_,_,_,_,_,vi ((k - 1:Nat):Int),_,_,_,_,_] H (aF (Z0 rfl (Rm rfl)) (Z1 0 166 rfl (Rc rfl)) (Z1 1 167 rfl (Rm rfl)) (Z1 2 168 rfl (YF zR (aG c3) rfl)) (aF (X2 3 169 2 168 rfl fun hG=>YR bC (aG c3) rfl (aD hG y1)) (Z1 2 168 rfl (YF GV (aG c3) rfl)) (X2 5 171 2 168 rfl fun hG=>YR IU (aG c3) rfl (aD hG q3')) (Z1 2 168 rfl (YM (aG c3) rfl)) (aF ?_ (Z3 6 172 8 174 2 168 rfl (YI yK rO (aG c3) rfl rfl)) (Z2 9 175 2 168 rfl (YF zR (aG c3) rfl)) (X2 10 176 2 168 rfl fun hG=>YR bC (aG c3) rfl (aD hG hp)) (aW (Z3 4 170 11 177 2 168 rfl (YC (aG c3) rfl)) (aW (Z2 2 168 12 178 rfl (Pt (aG c3) rfl)) (aW (bS rfl) cZ)))))) ?_
   ·refine dP 7 173 2 168 rfl rfl fun _ a w G1 hG HT H fin=>?_;refine lC _ H (wg H rfl rfl (aG c3)) rfl rfl rfl (by omega) (by omega) rfl ?_;clear H;intro a H;exact fin H iJ (by show _=_;first|rfl|exact aB vi (by omega))
   clear H;intro a w G Cm H hv;have H:=H.aV (hv 13 179 rfl rfl) rfl;clear hv;refine t1 3 H ?_;clear H
   have hz:¬ (0 < k∧h.marks.layers[k].key < h.marks.layers[k - 1].key):=by first|exact fun h=>c4 h.2|exact fun h=>c3 (by omega)
   replace y1:=aD Cm y1;replace y2:=aD Cm y2;replace y3:=aD Cm y3;have hge:=fun b o h=>Cm b o (hgc b o h);refine gV 5 184 ?_ ?_
   ·intro Xc
    refine goB 6 ?_ ?_
    ·intro Xb
     have hE:=hX 21 (by unfold kL;rw [ah zV,ah Ba,ah hz];simp_all [bK]) (by decide);refine aJ 3 ?_;rw [hE]
    intro Xb
    refine goB 5 ?_ ?_
    ·intro IE
     have sJ:kL (aL us st li rv) e k h.marks.layers[k] h.marks.layers[k - 1].key=bP [sZ h.marks.layers[k].key h.marks.layers[k].before,jY st (li.map dz.id) h.marks.layers[k].key h.marks.layers[k].before]:=by unfold kL;rw [ah zV,ah Ba,ah hz,ah (by simp_all)]
     refine aj 6 ?_;intro a H;refine s_call GU H wn rfl (EL (GK _ _ H.ro h.marks.layers[k].key h.marks.layers[k].before)) rfl ?_;clear H;rintro Yg _ a w ⟨⟨_,rfl⟩,rfl⟩ - H;refine eO 6 H ?_ ?_ <;> clear H
     ·intro sO
      have hE:=hX _ (sJ.trans (wP sO)) sO;refine aJ 4 ?_;rw [hE]
     intro sO
     rw [iF (fD.1 sO),Cg] at sJ;refine aj 7 ?_;intro a H;refine s_call LZ H wn rfl (Nh _ _ H.ro D st li rv b v n (hck.mono hge) hmz (hge _ _ hb) h.marks.layers[k].key h.marks.layers[k].before) rfl ?_;clear H;rintro Yh _ a w ⟨rfl,rfl⟩ - H;refine eO 6 H ?_ ?_ <;> clear H
     ·intro xB
      have hE:=hX _ sJ xB;refine aJ 4 ?_;rw [hE]
     intro xB
     have wX:=sJ.trans (fD.1 xB);have sH:=hge;refine aj 5 ?_;intro a H;refine aI ?_;refine bR ((k+1,G)) sB ?_ ?_
     ·(try dsimp only);exact ⟨by omega,by rw [qp hk2,ah (by rw [DY];simpa using wX)] at tF;exact tF,sH⟩
     first|omega|(dsimp only;omega)
    intro IE
    have wX:kL (aL us st li rv) e k h.marks.layers[k] h.marks.layers[k - 1].key=0:=by unfold kL;rw [ah zV,ah Ba,ah hz];simp_all [bK]
    have sH:=hge;refine aj 5 ?_;intro a H;refine aI ?_;refine bR ((k+1,G)) sB ?_ ?_
    ·(try dsimp only);exact ⟨by omega,by rw [qp hk2,ah (by rw [DY];simpa using wX)] at tF;exact tF,sH⟩
    first|omega|(dsimp only;omega)
   intro Xc
   refine goB 12 ?_ ?_
   ·intro IE
    have sJ:kL (aL us st li rv) e k h.marks.layers[k] h.marks.layers[k - 1].key=bP [sZ h.marks.layers[k].key h.marks.layers[k].before,jY st (li.map dz.id) h.marks.layers[k].key h.marks.layers[k].before]:=by unfold kL;rw [ah zV,ah Ba,ah hz,ah (by simp_all)]
    refine aj 6 ?_;intro a H;refine s_call GU H wn rfl (EL (GK _ _ H.ro h.marks.layers[k].key h.marks.layers[k].before)) rfl ?_;clear H;rintro Yg _ a w ⟨⟨_,rfl⟩,rfl⟩ - H;refine eO 6 H ?_ ?_ <;> clear H
    ·intro sO
     have hE:=hX _ (sJ.trans (wP sO)) sO;refine aJ 4 ?_;rw [hE]
    intro sO
    rw [iF (fD.1 sO),Cg] at sJ;refine aj 7 ?_;intro a H;refine s_call LZ H wn rfl (Nh _ _ H.ro D st li rv b v n (hck.mono hge) hmz (hge _ _ hb) h.marks.layers[k].key h.marks.layers[k].before) rfl ?_;clear H;rintro Yh _ a w ⟨rfl,rfl⟩ - H;refine eO 6 H ?_ ?_ <;> clear H
    ·intro xB
     have hE:=hX _ sJ xB;refine aJ 4 ?_;rw [hE]
    intro xB
    have wX:=sJ.trans (fD.1 xB);have sH:=hge;refine aj 5 ?_;intro a H;refine aI ?_;refine bR ((k+1,G)) sB ?_ ?_
    ·(try dsimp only);exact ⟨by omega,by rw [qp hk2,ah (by rw [DY];simpa using wX)] at tF;exact tF,sH⟩
    first|omega|(dsimp only;omega)
   intro IE
   have wX:kL (aL us st li rv) e k h.marks.layers[k] h.marks.layers[k - 1].key=0:=by unfold kL;rw [ah zV,ah Ba,ah hz];simp_all [bK]
   have sH:=hge;refine aj 5 ?_;intro a H;refine aI ?_;refine bR ((k+1,G)) sB ?_ ?_
   ·(try dsimp only);exact ⟨by omega,by rw [qp hk2,ah (by rw [DY];simpa using wX)] at tF;exact tF,sH⟩
   first|omega|(dsimp only;omega)
  refine dI hmx [[],[0],[0,1],[0,1,2],(ra 0 4),[0,1,2],[0,1,2,5],[0,1,2],[0,1,2,7],[0,1,2,5,6,7,8],[0,1,2,5,6,7,8,9],([0,1,2]++ra 5 6),(ra 0 12),(ra 0 13),(ra 0 14)] [14] (by kernel_rfl) [_,_,_,undef,undef,undef,undef,undef,undef,undef,undef,undef,undef,_] H (aF (Z0 rfl (Rm rfl)) (Z1 0 166 rfl (Rc rfl)) (Z1 1 167 rfl (Rm rfl)) (aO 2 (aN c3) rfl rfl) (aF (aO 2 (aN c3) rfl rfl) (aO 2 (aN c3) rfl rfl) (aO 2 (aN c3) rfl rfl) (aO 2 (aN c3) rfl rfl) (aF (aO 2 (aN c3) rfl rfl) (aO 2 (aN c3) rfl rfl) (aO 2 (aN c3) rfl rfl) (aO 2 (aN c3) rfl rfl) (aW (aO 2 (aN c3) rfl rfl) (aW (Z2 2 168 12 178 rfl (Pf (aN c3) rfl)) (aW (bS rfl) cZ)))))) ?_
  clear H;intro a w G Cm H hv;have H:=H.aV (hv 13 179 rfl rfl) rfl;clear hv;refine t1 3 H ?_;clear H
  have hz:¬ (0 < k∧h.marks.layers[k].key < h.marks.layers[k - 1].key):=by first|exact fun h=>c4 h.2|exact fun h=>c3 (by omega)
  replace y1:=aD Cm y1;replace y2:=aD Cm y2;replace y3:=aD Cm y3;have hge:=fun b o h=>Cm b o (hgc b o h);refine gV 5 184 ?_ ?_
  ·intro Xc
   refine goB 6 ?_ ?_
   ·intro Xb
    have hE:=hX 21 (by unfold kL;rw [ah zV,ah Ba,ah hz];simp_all [bK]) (by decide);refine aJ 3 ?_;rw [hE]
   intro Xb
   refine goB 5 ?_ ?_
   ·intro IE
    have sJ:kL (aL us st li rv) e k h.marks.layers[k] h.marks.layers[k - 1].key=bP [sZ h.marks.layers[k].key h.marks.layers[k].before,jY st (li.map dz.id) h.marks.layers[k].key h.marks.layers[k].before]:=by unfold kL;rw [ah zV,ah Ba,ah hz,ah (by simp_all)]
    refine aj 6 ?_;intro a H;refine s_call GU H wn rfl (EL (GK _ _ H.ro h.marks.layers[k].key h.marks.layers[k].before)) rfl ?_;clear H;rintro Yg _ a w ⟨⟨_,rfl⟩,rfl⟩ - H;refine eO 6 H ?_ ?_ <;> clear H
    ·intro sO
     have hE:=hX _ (sJ.trans (wP sO)) sO;refine aJ 4 ?_;rw [hE]
    intro sO
    rw [iF (fD.1 sO),Cg] at sJ;refine aj 7 ?_;intro a H;refine s_call LZ H wn rfl (Nh _ _ H.ro D st li rv b v n (hck.mono hge) hmz (hge _ _ hb) h.marks.layers[k].key h.marks.layers[k].before) rfl ?_;clear H;rintro Yh _ a w ⟨rfl,rfl⟩ - H;refine eO 6 H ?_ ?_ <;> clear H
    ·intro xB
     have hE:=hX _ sJ xB;refine aJ 4 ?_;rw [hE]
    intro xB
    have wX:=sJ.trans (fD.1 xB);have sH:=hge;refine aj 5 ?_;intro a H;refine aI ?_;refine bR ((k+1,G)) sB ?_ ?_
    ·(try dsimp only);exact ⟨by omega,by rw [qp hk2,ah (by rw [DY];simpa using wX)] at tF;exact tF,sH⟩
    first|omega|(dsimp only;omega)
   intro IE
   have wX:kL (aL us st li rv) e k h.marks.layers[k] h.marks.layers[k - 1].key=0:=by unfold kL;rw [ah zV,ah Ba,ah hz];simp_all [bK]
   have sH:=hge;refine aj 5 ?_;intro a H;refine aI ?_;refine bR ((k+1,G)) sB ?_ ?_
   ·(try dsimp only);exact ⟨by omega,by rw [qp hk2,ah (by rw [DY];simpa using wX)] at tF;exact tF,sH⟩
   first|omega|(dsimp only;omega)
  intro Xc
  refine goB 12 ?_ ?_
  ·intro IE
   have sJ:kL (aL us st li rv) e k h.marks.layers[k] h.marks.layers[k - 1].key=bP [sZ h.marks.layers[k].key h.marks.layers[k].before,jY st (li.map dz.id) h.marks.layers[k].key h.marks.layers[k].before]:=by unfold kL;rw [ah zV,ah Ba,ah hz,ah (by simp_all)]
   refine aj 6 ?_;intro a H;refine s_call GU H wn rfl (EL (GK _ _ H.ro h.marks.layers[k].key h.marks.layers[k].before)) rfl ?_;clear H;rintro Yg _ a w ⟨⟨_,rfl⟩,rfl⟩ - H;refine eO 6 H ?_ ?_ <;> clear H
   ·intro sO
    have hE:=hX _ (sJ.trans (wP sO)) sO;refine aJ 4 ?_;rw [hE]
   intro sO
   rw [iF (fD.1 sO),Cg] at sJ;refine aj 7 ?_;intro a H;refine s_call LZ H wn rfl (Nh _ _ H.ro D st li rv b v n (hck.mono hge) hmz (hge _ _ hb) h.marks.layers[k].key h.marks.layers[k].before) rfl ?_;clear H;rintro Yh _ a w ⟨rfl,rfl⟩ - H;refine eO 6 H ?_ ?_ <;> clear H
   ·intro xB
    have hE:=hX _ sJ xB;refine aJ 4 ?_;rw [hE]
   intro xB
   have wX:=sJ.trans (fD.1 xB);have sH:=hge;refine aj 5 ?_;intro a H;refine aI ?_;refine bR ((k+1,G)) sB ?_ ?_
   ·(try dsimp only);exact ⟨by omega,by rw [qp hk2,ah (by rw [DY];simpa using wX)] at tF;exact tF,sH⟩
   first|omega|(dsimp only;omega)
  intro IE
  have wX:kL (aL us st li rv) e k h.marks.layers[k] h.marks.layers[k - 1].key=0:=by unfold kL;rw [ah zV,ah Ba,ah hz];simp_all [bK]
  have sH:=hge;refine aj 5 ?_;intro a H;refine aI ?_;refine bR ((k+1,G)) sB ?_ ?_
  ·(try dsimp only);exact ⟨by omega,by rw [qp hk2,ah (by rw [DY];simpa using wX)] at tF;exact tF,sH⟩
  first|omega|(dsimp only;omega)
 intro asi
 refine aj 1 ?_
 replace hE:eH (aL us st li rv) e h=0:=by rw [hE,← tF,eX (by simp;omega)];rfl
 refine aJ 3 ?_;rw [hE]
end
section
open Go.RowKit
def BS (x:av):Int:=if x.kind=4 then 3 else if x.kind=6 then 2 else if x.kind=8 then 4 else 0
theorem ZY (x:av):decide (BS x=0)=!uy x:=by
 unfold BS uy
 by_cases h4:x.kind=4
 ·simp [h4]
 by_cases h6:x.kind=6
 ·simp [h6]
 by_cases h8:x.kind=8 <;> simp [h4,h6,h8]
theorem OD (x:av):(decide (0 < BS x) && (decide (x.code < 1) || decide (BS x < x.code)))=!codeOk x:=by
 unfold BS codeOk
 by_cases h4:x.kind=4
 ·simp only [h4,au];by_cases a:x.code < 1 <;> by_cases b:3 < x.code <;> simp [a,b] <;> omega
 by_cases h6:x.kind=6
 ·simp only [h6,au];by_cases a:x.code < 1 <;> by_cases b:2 < x.code <;> simp [a,b] <;> omega
 by_cases h8:x.kind=8
 ·simp only [h8,au];by_cases a:x.code < 1 <;> by_cases b:4 < x.code <;> simp [a,b] <;> omega
 simp [h4,h6,h8]
theorem aqT (G:GH) (w0:World) (hG:Hold G w0) (x:av) (p d l:ak) (fA rA:Option Addr) (fc rc:Nat) (hs:x.text.size < 4611686018427387904) :
  Calls prog 52 #[.agg #[vi x.kind,vi x.code,vi x.id,.string x.text,p,vi x.head.marks.ins,vi x.head.marks.move,d,l,.slice fA x.flow.length fc,.slice rA x.rows.length rc]] w0 (bB w0 G fun u G'=>u=vi (gN x)∧G=G'):=by
 refine eN [(0,_)] func52 rfl ntmps52 rfl rfl hG ?_;refine aj 1 ?_;intro a H;refine dN (cs:=[_,_,_,_,_,_,_,_,_,_,_]) H wn rfl rfl rfl ?_;clear H;intro b1 a w hb1 H;refine aH 5 H ?_;clear H;intro a H;refine oQ (ι:=Int) (Tc:=[(1,_)]) (Lc:=[(_,_)]) (fun gh=>[(3,vi gh)]) (fun gh=>[]) (fun gh=>G) (fun gh=>gh=BS x) sB ?_ ?_
 ·refine cK 9 H ?_ ?_ <;> clear H
  ·intro p9
   refine aj 2 ?_;intro a H;refine aI ?_;refine ⟨_,sB,?_⟩
   unfold BS;first|(simp_all;done)
  intro p9
  refine goB 4 ?_ ?_
  ·intro qg
   refine aj 2 ?_;intro a H;refine aI ?_;refine ⟨_,sB,?_⟩
   unfold BS;first|(simp_all;done)
  intro qg
  refine goB 4 ?_ ?_
  ·intro oJ
   refine aj 2 ?_;intro a H;refine aI ?_;refine ⟨_,sB,?_⟩
   unfold BS;first|(simp_all;done)
  intro oJ
  intro a H;refine iE ?_;refine ⟨_,sB,?_⟩
  unfold BS;first|(simp_all;done)
 clear H;intro cs a w hI H;have hcs:=hI;dsimp only [lca,aQ] at H;refine tq ?_;refine mI (ι:=Bool) (Tc:=[(1,_),(3,_)]) 8 (fun (st:Bool)=>[(22,.bool st)]) (fun (st:Bool)=>st=wo x) sB ?_ ?_
 ·intro abB;refine ku 4 18 H ?_ ?_ <;> clear H
  ·intro nM
   refine aj 4 ?_;intro a H;refine abB (_) _ _ ?_ sB
   unfold wo;clear hcs;simp_all
  intro nM
  refine aj 4 ?_;intro a H;refine abB (_) _ _ ?_ sB
  unfold wo;clear hcs;simp_all
 clear H;intro st a w hI H;dsimp only [lca,aQ] at H;(repeat with_reducible refine dK ?_);refine d0 ?_;have hst:=hI;refine aH 3 H ?_;clear H;intro a H;refine mI (ι:=Bool) (Tc:=[(1,_),(3,_),(4,_)]) 8 (fun (FV:Bool)=>[(30,.bool FV)]) (fun (FV:Bool)=>FV=decide (x.kind=1∨x.kind=5)) sB ?_ ?_
 ·intro abv;refine ku 4 26 H ?_ ?_ <;> clear H
  ·intro p26
   refine aj 4 ?_;intro a H;refine abv (_) _ _ ?_ sB;clear hst hcs;simp_all
  intro p26
  refine aj 4 ?_;intro a H;refine abv (_) _ _ ?_ sB;clear hst hcs;simp_all
 clear H;intro FV a w hI H;dsimp only [lca,aQ] at H;(repeat with_reducible refine dK ?_);refine d0 ?_;have kK:=hI;refine aH 3 H ?_;clear H;intro a H;refine mI (ι:=Bool) (Tc:=[(1,_),(3,_),(4,_),(5,_)]) 13 (fun (nm:Bool)=>[(43,.bool nm)]) (fun (nm:Bool)=>nm=sN x) sB ?_ ?_
 ·intro UU;refine ku 4 34 H ?_ ?_ <;> clear H
  ·intro p34
   refine aj 9 ?_;intro a H;refine UU (_) _ _ ?_ sB
   unfold sN;clear hst hcs;(try clear kK);simp_all
  intro p34
  refine gV 5 39 ?_ ?_
  ·intro p39
   refine aj 4 ?_;intro a H;refine UU (_) _ _ ?_ sB
   unfold sN;clear hst hcs;(try clear kK);simp_all
  intro p39
  refine aj 4 ?_;intro a H;refine UU (_) _ _ ?_ sB
  unfold sN;clear hst hcs;(try clear kK);simp_all
 clear H;intro nm a w hI H;dsimp only [lca,aQ] at H;(repeat with_reducible refine dK ?_);refine d0 ?_;have hnm:=hI;refine aH 5 H ?_;clear H;intro a H;refine mI (ι:=Bool) (Tc:=[(1,_),(3,_),(4,_),(5,_),(6,_)]) 8 (fun (qa:Bool)=>[(52,.bool qa)]) (fun (qa:Bool)=>qa=!decide (1≤x.kind∧x.kind≤8)) sB ?_ ?_
 ·intro AQ;refine ku 4 48 H ?_ ?_ <;> clear H
  ·intro p48
   refine aj 4 ?_;intro a H;refine AQ (_) _ _ ?_ sB;rw [lq];simp only [lN,ug,oP,true_iff,eq_self_iff_true];omega
  intro p48
  refine aj 4 ?_;intro a H;refine AQ (_) _ _ ?_ sB;rw [lq];simp only [lN,ug,oP,true_iff,eq_self_iff_true];omega
 clear H;intro qa a w hI H;dsimp only [lca,aQ] at H;(repeat with_reducible refine dK ?_);refine d0 ?_;have lI:=hI;refine mI (ι:=Bool) (Tc:=[(1,_),(3,_),(4,_),(5,_),(6,_)]) 15 (fun (q0:Bool)=>[(67,.bool q0)]) (fun (q0:Bool)=>q0=(!decide (1≤x.kind∧x.kind≤8) || !codeOk x)) sB ?_ ?_
 ·intro PU;refine ku 1 53 H ?_ ?_ <;> clear H
  ·intro p53
   refine aj 14 ?_;intro a H;refine PU (_) _ _ ?_ sB
   rw [← OD,← hcs,← lI];clear hst kK hnm hcs;(try clear hq1);(try clear hq2);(try clear hq3);(try clear hq0);(try clear lI);(try clear hq4);(try clear gL);(try clear gQ);(try clear gU);first|(simp_all;done)|(simp_all;omega)
  intro p53
  refine gV 3 56 ?_ ?_
  ·intro p56
   refine gV 4 60 ?_ ?_
   ·intro p60
    refine aj 7 ?_;intro a H;refine PU (_) _ _ ?_ sB
    rw [← OD,← hcs,← lI];clear hst kK hnm hcs;(try clear hq1);(try clear hq2);(try clear hq3);(try clear hq0);(try clear lI);(try clear hq4);(try clear gL);(try clear gQ);(try clear gU);first|(simp_all;done)|(simp_all;omega)
   intro p60
   refine aj 7 ?_;intro a H;refine PU (_) _ _ ?_ sB
   rw [← OD,← hcs,← lI];clear hst kK hnm hcs;(try clear hq1);(try clear hq2);(try clear hq3);(try clear hq0);(try clear lI);(try clear hq4);(try clear gL);(try clear gQ);(try clear gU);first|(simp_all;done)|(simp_all;omega)
  intro p56
  refine aj 11 ?_;intro a H;refine PU (_) _ _ ?_ sB
  rw [← OD,← hcs,← lI];clear hst kK hnm hcs;(try clear hq1);(try clear hq2);(try clear hq3);(try clear hq0);(try clear lI);(try clear hq4);(try clear gL);(try clear gQ);(try clear gU);first|(simp_all;done)|(simp_all;omega)
 clear H;intro q0 a w hI H;dsimp only [lca,aQ] at H;(repeat with_reducible refine dK ?_);refine d0 ?_;have hq0:=hI;refine fE 2 H ?_ ?_ <;> clear H
 ·intro sG
  have e:gN x=3:=by unfold gN;rw [au (by rw [← hq0];exact sG)]
  refine aJ 3 ?_;exact ⟨by rw [e],rfl⟩
 intro sG
 try have p44:=dF sG
 have f0:¬ (!decide (1≤x.kind∧x.kind≤8) || !codeOk x)=true:=by rw [← hq0,sG];decide
 refine aj 1 ?_;intro a H;refine mI (ι:=Bool) (Tc:=[(1,_),(4,_),(5,_),(6,_)]) 7 (fun (q1:Bool)=>[(75,.bool q1)]) (fun (q1:Bool)=>q1=(!uy x && decide (x.code≠0))) sB ?_ ?_
 ·intro MB;refine ku 3 71 H ?_ ?_ <;> clear H
  ·intro p71
   refine aj 4 ?_;intro a H;refine MB (_) _ _ ?_ sB;rw [← ZY,← hcs];clear hst kK hnm hcs;(try clear hq1);(try clear hq2);(try clear hq3);(try clear hq0);(try clear lI);(try clear hq4);(try clear gL);(try clear gQ);(try clear gU);simp_all
  intro p71
  refine aj 4 ?_;intro a H;refine MB (_) _ _ ?_ sB;rw [← ZY,← hcs];clear hst kK hnm hcs;(try clear hq1);(try clear hq2);(try clear hq3);(try clear hq0);(try clear lI);(try clear hq4);(try clear gL);(try clear gQ);(try clear gU);simp_all
 clear H;intro q1 a w hI H;dsimp only [lca,aQ] at H;(repeat with_reducible refine dK ?_);refine d0 ?_;have hq1:=hI;refine mI (ι:=Bool) (Tc:=[(1,_),(4,_),(5,_)]) 9 (fun (q2:Bool)=>[(84,.bool q2)]) (fun (q2:Bool)=>q2=(q1 || !sN x && decide (x.id≠0))) sB ?_ ?_
 ·intro UZ;refine ku 1 76 H ?_ ?_ <;> clear H
  ·intro Xd
   refine aj 8 ?_;intro a H;refine UZ (_) _ _ ?_ sB;rw [← hnm];clear hst kK hnm hcs;(try clear hq1);(try clear hq2);(try clear hq3);(try clear hq0);(try clear lI);(try clear hq4);(try clear gL);(try clear gQ);(try clear gU);simp_all
  intro Xd
  refine gV 3 79 ?_ ?_
  ·intro zq
   refine aj 5 ?_;intro a H;refine UZ (_) _ _ ?_ sB;rw [← hnm];clear hst kK hnm hcs;(try clear hq1);(try clear hq2);(try clear hq3);(try clear hq0);(try clear lI);(try clear hq4);(try clear gL);(try clear gQ);(try clear gU);simp_all
  intro zq
  refine aj 5 ?_;intro a H;refine UZ (_) _ _ ?_ sB;rw [← hnm];clear hst kK hnm hcs;(try clear hq1);(try clear hq2);(try clear hq3);(try clear hq0);(try clear lI);(try clear hq4);(try clear gL);(try clear gQ);(try clear gU);simp_all
 clear H;intro q2 a w hI H;dsimp only [lca,aQ] at H;(repeat with_reducible refine dK ?_);refine d0 ?_;have hq2:=hI;refine mI (ι:=Bool) (Tc:=[(1,_),(4,_),(5,_)]) 13 (fun (q3:Bool)=>[(97,.bool q3)]) (fun (q3:Bool)=>q3=(q2 || !uY x && !mh x.text)) sB ?_ ?_
 ·intro PV;refine ku 1 85 H ?_ ?_ <;> clear H
  ·intro Xg
   refine aj 12 ?_;intro a H;refine PV (_) _ _ ?_ sB;rw [show uY x=(FV || st) by rw [kK,hst];rfl];clear hst kK hnm hcs;(try clear hq1);(try clear hq2);(try clear hq3);(try clear hq0);(try clear lI);(try clear hq4);(try clear gL);(try clear gQ);(try clear gU);simp_all [mh]
  intro Xg
  refine gV 3 88 ?_ ?_
  ·intro Nu
   refine iV 4 92 ?_ ?_
   ·intro PL
    try have Kk:=dT PL
    refine aj 2 ?_;intro a H;refine afd H (wg H rfl rfl PL) rfl rfl rfl ?_;clear H;refine aj 2 ?_;intro a H;refine PV (_) _ _ ?_ sB;rw [show uY x=(FV || st) by rw [kK,hst];rfl];clear hst kK hnm hcs;(try clear hq1);(try clear hq2);(try clear hq3);(try clear hq0);(try clear lI);(try clear hq4);(try clear gL);(try clear gQ);(try clear gU);simp_all [mh]
   intro PL
   try have Kk:=dF PL
   refine aj 5 ?_;intro a H;refine PV (_) _ _ ?_ sB;rw [show uY x=(FV || st) by rw [kK,hst];rfl];clear hst kK hnm hcs;(try clear hq1);(try clear hq2);(try clear hq3);(try clear hq0);(try clear lI);(try clear hq4);(try clear gL);(try clear gQ);(try clear gU);simp_all [mh]
  intro Nu
  refine aj 9 ?_;intro a H;refine PV (_) _ _ ?_ sB;rw [show uY x=(FV || st) by rw [kK,hst];rfl];clear hst kK hnm hcs;(try clear hq1);(try clear hq2);(try clear hq3);(try clear hq0);(try clear lI);(try clear hq4);(try clear gL);(try clear gQ);(try clear gU);simp_all [mh]
 clear H;intro q3 a w hI H;dsimp only [lca,aQ] at H;(repeat with_reducible refine dK ?_);refine d0 ?_;have hq3:=hI;refine mI (ι:=Bool) (Tc:=[(1,_),(4,_),(5,_)]) 11 (fun (q4:Bool)=>[(108,.bool q4)]) (fun (q4:Bool)=>q4=(q3 || decide (x.kind≠6) && decide (0 < (x.flow.length:Int)))) sB ?_ ?_
 ·intro UW;refine ku 1 98 H ?_ ?_ <;> clear H
  ·intro Nw
   refine aj 10 ?_;intro a H;refine UW (_) _ _ ?_ sB;clear hst kK hnm hcs;(try clear hq1);(try clear hq2);(try clear hq3);(try clear hq0);(try clear lI);(try clear hq4);(try clear gL);(try clear gQ);(try clear gU);simp_all
  intro Nw
  refine gV 4 102 ?_ ?_
  ·intro arY
   refine aj 6 ?_;intro a H;refine UW (_) _ _ ?_ sB;clear hst kK hnm hcs;(try clear hq1);(try clear hq2);(try clear hq3);(try clear hq0);(try clear lI);(try clear hq4);(try clear gL);(try clear gQ);(try clear gU);simp_all
  intro arY
  refine aj 6 ?_;intro a H;refine UW (_) _ _ ?_ sB;clear hst kK hnm hcs;(try clear hq1);(try clear hq2);(try clear hq3);(try clear hq0);(try clear lI);(try clear hq4);(try clear gL);(try clear gQ);(try clear gU);simp_all
 clear H;intro q4 a w hI H;dsimp only [lca,aQ] at H;(repeat with_reducible refine dK ?_);refine d0 ?_;have hq4:=hI;refine mI (ι:=Bool) (Tc:=[(1,_),(4,_),(5,_)]) 11 (fun (q5:Bool)=>[(119,.bool q5)]) (fun (q5:Bool)=>q5=qU x) sB ?_ ?_
 ·intro UY;refine ku 1 109 H ?_ ?_ <;> clear H
  ·intro WX
   refine aj 10 ?_;intro a H;refine UY (_) _ _ ?_ sB;rw [show qU x=(q4 || decide (x.kind≠7) && decide (0 < (x.rows.length:Int))) by rw [hq4,hq3,hq2,hq1];rfl];clear hst kK hnm hcs;(try clear hq1);(try clear hq2);(try clear hq3);(try clear hq0);(try clear lI);(try clear hq4);(try clear gL);(try clear gQ);(try clear gU);simp_all
  intro WX
  refine gV 4 113 ?_ ?_
  ·intro CG
   refine aj 6 ?_;intro a H;refine UY (_) _ _ ?_ sB;rw [show qU x=(q4 || decide (x.kind≠7) && decide (0 < (x.rows.length:Int))) by rw [hq4,hq3,hq2,hq1];rfl];clear hst kK hnm hcs;(try clear hq1);(try clear hq2);(try clear hq3);(try clear hq0);(try clear lI);(try clear hq4);(try clear gL);(try clear gQ);(try clear gU);simp_all
  intro CG
  refine aj 6 ?_;intro a H;refine UY (_) _ _ ?_ sB;rw [show qU x=(q4 || decide (x.kind≠7) && decide (0 < (x.rows.length:Int))) by rw [hq4,hq3,hq2,hq1];rfl];clear hst kK hnm hcs;(try clear hq1);(try clear hq2);(try clear hq3);(try clear hq0);(try clear lI);(try clear hq4);(try clear gL);(try clear gQ);(try clear gU);simp_all
 clear H;intro q5 a w hI H;dsimp only [lca,aQ] at H;(repeat with_reducible refine dK ?_);refine d0 ?_;have gL:=hI;refine fE 2 H ?_ ?_ <;> clear H
 ·intro h68
  have e:gN x=15:=by unfold gN;rw [ah f0,au (by rw [← gL];exact h68)]
  refine aJ 3 ?_;exact ⟨by rw [e],rfl⟩
 intro h68
 try have p68:=dF h68
 have f1:¬ qU x=true:=by rw [← gL,h68];decide
 refine aj 3 ?_;intro a H;refine s_call ER H wn rfl (FU _ _ H.ro x.text hs) rfl ?_;clear H;rintro axx _ a w ⟨rfl,rfl⟩ - H;refine fE 3 H ?_ ?_ <;> clear H
 ·intro Pn
  have e:gN x=12:=by unfold gN;rw [ah f0,ah f1,au (by simpa using Pn)]
  refine aJ 3 ?_;exact ⟨by rw [e],rfl⟩
 intro Pn
 try have Fz:=dF Pn
 have f2:¬ mX x.text=false:=by simpa using Pn
 refine aj 1 ?_;intro a H;refine mI (ι:=Bool) (Tc:=[(1,_),(4,_)]) 6 (fun (q6:Bool)=>[(131,.bool q6)]) (fun (q6:Bool)=>q6=(decide (x.kind=1∨x.kind=5) && mh x.text)) sB ?_ ?_
 ·intro MC;refine jA 2 127 H ?_ ?_ <;> clear H
  ·intro h127
   try have aeF:=dT h127
   refine aj 2 ?_;intro a H;refine CQ H (wg H rfl rfl h127) rfl rfl rfl ?_;clear H;refine aj 1 ?_;intro a H;refine MC (_) _ _ ?_ sB;rw [← kK];clear hst kK hnm hcs;(try clear hq1);(try clear hq2);(try clear hq3);(try clear hq0);(try clear lI);(try clear hq4);(try clear gL);(try clear gQ);(try clear gU);simp_all [mh]
  intro h127
  try have aeF:=dF h127
  refine aj 4 ?_;intro a H;refine MC (_) _ _ ?_ sB;rw [← kK];clear hst kK hnm hcs;(try clear hq1);(try clear hq2);(try clear hq3);(try clear hq0);(try clear lI);(try clear hq4);(try clear gL);(try clear gQ);(try clear gU);simp_all [mh]
 clear H;intro q6 a w hI H;dsimp only [lca,aQ] at H;(repeat with_reducible refine dK ?_);refine d0 ?_;have gQ:=hI;refine fE 2 H ?_ ?_ <;> clear H
 ·intro Po
  have e:gN x=11:=by unfold gN;rw [ah f0,ah f1,ah f2,au (by rw [← gQ];exact Po)]
  refine aJ 3 ?_;exact ⟨by rw [e],rfl⟩
 intro Po
 try have aeE:=dF Po
 have f3:¬ (decide (x.kind=1∨x.kind=5) && mh x.text)=true:=by rw [← gQ,Po];decide
 refine aj 1 ?_;intro a H;refine mI (ι:=Bool) (Tc:=[(1,_),(4,_)]) 9 (fun (q7:Bool)=>[(141,.bool q7)]) (fun (q7:Bool)=>q7=(decide (x.kind=5) && decide (1024 < (x.text.size:Int)))) sB ?_ ?_
 ·intro ME;refine jA 4 136 H ?_ ?_ <;> clear H
  ·intro Pp
   try have W9:=dT Pp
   refine aj 2 ?_;intro a H;refine Bt jl H (wg H rfl rfl Pp) rfl rfl ?_;clear H;refine aj 2 ?_;intro a H;refine ME (_) _ _ ?_ sB;clear hst kK hnm hcs;(try clear hq1);(try clear hq2);(try clear hq3);(try clear hq0);(try clear lI);(try clear hq4);(try clear gL);(try clear gQ);(try clear gU);simp_all
  intro Pp
  try have W9:=dF Pp
  refine aj 5 ?_;intro a H;refine ME (_) _ _ ?_ sB;clear hst kK hnm hcs;(try clear hq1);(try clear hq2);(try clear hq3);(try clear hq0);(try clear lI);(try clear hq4);(try clear gL);(try clear gQ);(try clear gU);simp_all
 clear H;intro q7 a w hI H;dsimp only [lca,aQ] at H;(repeat with_reducible refine dK ?_);refine d0 ?_;have gU:=hI;refine fE 2 H ?_ ?_ <;> clear H
 ·intro DI
  have e:gN x=10:=by unfold gN;rw [ah f0,ah f1,ah f2,ah f3,au (by rw [← gU];exact DI)]
  refine aJ 3 ?_;exact ⟨by rw [e],rfl⟩
 intro DI
 try have ase:=dF DI
 have f4:¬ (decide (x.kind=5) && decide (1024 < (x.text.size:Int)))=true:=by rw [← gU,DI];decide
 refine aj 1 ?_;intro a H;refine mI (ι:=Bool) (Tc:=[]) 7 (fun (q8:Bool)=>[(149,.bool q8)]) (fun (q8:Bool)=>q8=(wo x && !oU x.text)) (by exact H.sub trivial) ?_ ?_
 ·intro abz;refine jA 2 144 H ?_ ?_ <;> clear H
  ·intro sD
   try have Nr:=dT sD
   refine aj 2 ?_;intro a H;refine s_call LY H (wg H rfl rfl sD) rfl (LP _ _ H.ro x.text hs) rfl ?_;clear H;rintro axA _ a w ⟨rfl,rfl⟩ - H;refine aH 2 H ?_;clear H;intro a H;refine abz (_) _ _ ?_ sB;rw [← hst];clear hst kK hnm hcs;(try clear hq1);(try clear hq2);(try clear hq3);(try clear hq0);(try clear lI);(try clear hq4);(try clear gL);(try clear gQ);(try clear gU);simp_all
  intro sD
  try have Nr:=dF sD
  refine aj 5 ?_;intro a H;refine abz (_) _ _ ?_ sB;rw [← hst];clear hst kK hnm hcs;(try clear hq1);(try clear hq2);(try clear hq3);(try clear hq0);(try clear lI);(try clear hq4);(try clear gL);(try clear gQ);(try clear gU);simp_all
 clear H;intro q8 a w hI H;dsimp only [lca,aQ] at H;(repeat with_reducible refine dK ?_);refine d0 ?_;have hq8:=hI;refine fE 2 H ?_ ?_ <;> clear H
 ·intro UF
  have e:gN x=13:=by unfold gN;rw [ah f0,ah f1,ah f2,ah f3,ah f4,au (by rw [← hq8];exact UF)]
  refine aJ 3 ?_;exact ⟨by rw [e],rfl⟩
 intro UF
 refine aj 1 ?_
 have e:gN x=0:=by unfold gN;rw [ah f0,ah f1,ah f2,ah f3,ah f4,ah (by rw [← hq8,UF];decide)]
 refine aJ 3 ?_;exact ⟨by rw [e],rfl⟩
end
section
open Go.RowKit
theorem OV:∀ args w,(callFunc 43 args).run prog w=.ok (.enter 43 args) w:=enters func43 rfl (by kernel_rfl)
theorem aaI:∀ args w,(callFunc 54 args).run prog w=.ok (.enter 54 args) w:=enters func54 rfl (by kernel_rfl)
theorem TS:∀ args w,(callFunc 16 args).run prog w=.ok (.enter 16 args) w:=enters func16 rfl (by kernel_rfl)
variable {us:List Int} {uo:ak}
abbrev Y7 (uo:ak) (D:gM) (b:Nat) (L0:OL) (r:CR):ak→OL→Prop:=fun u L'=>∃ v' L1 s',u=vi r.1∧L'=iC uo D b v' s'.n :: L1∧wE v' s'.aU L1 L0∧(r.1=0→s'=r.2)
def N7 (us:List Int) (uo:ak) (m:Nat):Prop:=∀ (G:GH) (L L0:OL) (w0:World) (D:gM) (st:List bH) (li:List dz) (rv:List bD) (b:Nat) (v:ak) (s:CS) (l:List av) (u:ak) (body note:Bool) (t:Int),
 BJ us uo G D st li rv→Gy st li rv→wE v s.aU L L0→fM G (iC uo D b v s.n :: L) w0→ay G (.sl 11 (l.map av.dat)) u→aX l < m→0≤t→t≤4→0≤s.n→s.n+(aX l:Nat)≤1099511627776→s.aU.length+aX l < 1099511627776 →
 Calls prog 16 #[(aK b 0),u,.bool body,.bool note,vi t] w0 (fB w0 G (iC uo D b v s.n :: L) fun u G' L'=>G=G'∧Y7 uo D b L0 (fP (aL us st li rv) body note t l s) u L')
theorem QS (G:GH) (L:OL) (w0:World) (D:gM) (st:List bH) (li:List dz) (rv:List bD) (b:Nat) (v:ak) (n:Int) (hck:BJ us uo G D st li rv) (hmz:Gy st li rv) (hO:fM G (iC uo D b v n :: L) w0)
  (e:Int) (h:cu) (p d l:ak) (hh:gW G h p d l) (hz:oN h≤4294967296) :
  Calls prog 43 #[(aK b 0),vi e,uK h p d l] w0 (fB w0 G (iC uo D b v n :: L) fun u G' L'=>G=G'∧L'=iC uo D b v n :: L∧u=vi (eH (aL us st li rv) e h)):=by
 have hm:=GH.EG G (o:=(iC uo D b v n).2) (hO.sep _ gP);exact (aqP (G.add b (iC uo D b v n).2) w0 hO.add D st li rv b v n (hck.mono hm) hmz (GH.EH _ _ _) e h p d l (hh.mono hm) hz).mono fun _ _=>Xr (b:=b) (o:=(iC uo D b v n).2) (R':=fun u=>u=vi (eH (aL us st li rv) e h)) hO fun _ _ h=>h
theorem atc {C:bL} {h:cu} {n:Nat} (e:eH C 9 h≠0):rG C h n=eH C 9 h:=by simp [rG,bP,e]
theorem atd {C:bL} {h:cu} {n:Nat} (e:eH C 9 h=0) (h0:n=0):rG C h n=11:=by simp [rG,bP,e,h0,bK]
theorem ate {C:bL} {h:cu} {n:Nat} (e:eH C 9 h=0) (h0:n≠0) (h1:32 < n):rG C h n=9:=by
 have h2:¬ (n:Int)=0:=by omega
 have h3:(32:Int) < n:=by omega
 simp only [rG,bP,e,bK,gD h2,eZ h3];decide
theorem atf {C:bL} {h:cu} {n:Nat} (e:eH C 9 h=0) (h0:n≠0) (h1:¬ 32 < n):rG C h n=0:=by
 have h2:¬ (n:Int)=0:=by omega
 have h3:¬ (32:Int) < n:=by omega
 simp only [rG,bP,e,bK,gD h2,gD h3];decide
theorem aqU {m:Nat} (ih:N7 us uo m) (hm:m≤4294967296) (G:GH) (L L0:OL) (w0:World) (D:gM) (st:List bH) (li:List dz) (rv:List bD) (b:Nat) (v:ak) (s:CS) (l:List aS) (u:ak) (note:Bool) (t:Int)
  (hck:BJ us uo G D st li rv) (hmz:Gy st li rv) (hi:wE v s.aU L L0) (hO:fM G (iC uo D b v s.n :: L) w0) (hv:ay G (.sl 6 (l.map aS.dat)) u) (hz:eD l < m) (ht0:0≤t) (Bf:t≤4) (hs0:0≤s.n) (hs1:s.n+(eD l:Nat)≤1099511627776) (hs2:s.aU.length+eD l < 1099511627776) :
  Calls prog 55 #[(aK b 0),u,.bool note,vi t] w0 (fB w0 G (iC uo D b v s.n :: L) fun u G' L'=>G=G'∧Y7 uo D b L0 (jD l.length (fun s=>fJ (aL us st li rv) note t l s) s) u L'):=by
 obtain ⟨A,c,rfl,hc1,hc2,hg⟩:=hv.slice;rw [bE] at *;have hll:=BH l;obtain ⟨R,hR⟩:∃ R,R=jD l.length (fun s=>fJ (aL us st li rv) note t l s) s:=⟨_,rfl⟩;rw [← hR];refine iM (N:=97) (T:=[(0,_),(1,_),(2,_),(3,_)]) func55 rfl ntmps55 rfl rfl hO ?_;refine goB 11 ?_ ?_
 ·intro p16
  have hF:R.1=11:=by rw [hR,jD,au (by omega)]
  refine aj 3 ?_;intro a H;refine lr H results55 rfl ?_;exact H.hp.bU (L':=iC uo D b v s.n :: L) (by repeat (first|exact bZ _|apply List.Sublist.cons)) ⟨rfl,v,L,s,aB vi hF.symm,rfl,hi,fun h=>absurd (hF.symm.trans h) (by decide)⟩
 intro p16
 refine goB 6 ?_ ?_
 ·intro pJ
  have hF:R.1=9:=by rw [hR,jD,ah (by omega),au (by omega)]
  refine aj 3 ?_;intro a H;refine lr H results55 rfl ?_;exact H.hp.bU (L':=iC uo D b v s.n :: L) (by repeat (first|exact bZ _|apply List.Sublist.cons)) ⟨rfl,v,L,s,aB vi hF.symm,rfl,hi,fun h=>absurd (hF.symm.trans h) (by decide)⟩
 intro pJ
 rw [jD,ah (by omega),ah (by omega)] at hR;refine aj 6 ?_;intro a H;refine dD (ι:=Nat × CS × ak × OL) (Tc:=[(0,_),(1,_),(2,_),(3,_)]) (Lc:=[]) (fun gh=>[(9,vi gh.1)]) (fun gh=>[iC uo D b gh.2.2.1 gh.2.1.n]++gh.2.2.2) (fun gh=>G) (fun gh=>gh.1≤l.length∧fJ (aL us st li rv) note t (l.drop gh.1) gh.2.1=R∧wE gh.2.2.1 gh.2.1.aU gh.2.2.2 L0∧0≤gh.2.1.n∧gh.2.1.n+(eD (l.drop gh.1):Nat)≤1099511627776∧gh.2.1.aU.length+eD (l.drop gh.1) < 1099511627776) (fun gh=>l.length - gh.1) ((0,s,v,L)) sB ?_ ?_
 ·exact ⟨eG _,hR.symm,hi,hs0,hs1,hs2⟩
 clear H;rintro ⟨k,s1,v1,L1⟩ a w hI H;dsimp only at hI H;obtain ⟨hk,hX,hv1,hn0,hn1,hn2⟩:=hI;dsimp only [lca,aQ] at H;refine cK 7 H ?_ ?_ <;> clear H
 ·intro p27
  have hk2:k < l.length:=by omega
  obtain ⟨o,xo,pA,pn,pc,dA,dn,dc,yA,yn,yc,cA,cn,cc,rfl,hrow,hhd,hcl⟩:=Eh hk2 hg;have hcn:=hcl.len;rw [bE] at hcn;subst hcn;obtain ⟨_,cc',hce,aoj,awG,hcg⟩:=hcl.slice
  intro a H;injection hce with e1 e2 e3
  subst e1;subst e3;rw [bE] at aoj;have hzs:=Yq hk2;have hzi:=tO l[k];have Ik:=Sk (iq hk2);have aom:=BD l[k].cells;rw [ath hk2,II] at hX
  have rh:∀ (j:Nat) (u:ak),[.slice pA pn pc,vi l[k].head.marks.ins,vi l[k].head.marks.move,.slice dA dn dc,.slice yA yn yc][j]?=some u→aC G o (xo+k*6+0+j)=some u:=by
   intro j u hj;refine hrow j u ?_
   match j,hj with
   | 0,hj=>exact hj
   | 1,hj=>exact hj
   | 2,hj=>exact hj
   | 3,hj=>exact hj
   | 4,hj=>exact hj
   | n+5,hj=>simp at hj
  have rc:aC G o (xo+k*6+5)=some (.slice cA l[k].cells.length cc):=hrow 5 _ rfl
  have hEr:∀ e,e≠0→rG (aL us st li rv) l[k].head l[k].cells.length=e→R.1=e:=fun e h1 h2=>by
   rw [← hX,uh (r:=(rG (aL us st li rv) l[k].head l[k].cells.length,s1)) (by dsimp only;rw [h2];exact h1)];rw [uh (by dsimp only;rw [h2];exact h1)];exact h2
  refine dG 10 H ?_;clear H;intro a H;refine aT gG (cs:=[.slice pA pn pc,vi l[k].head.marks.ins,vi l[k].head.marks.move,.slice dA dn dc,.slice yA yn yc]) H wn rfl rfl (fun j v hj=>H.hp.aC (rh j v hj)) rfl ?_;clear H;intro a H;refine fu OV (Li:=[]) (L:=iC uo D b v1 s1.n :: L1) H wn rfl (QS _ _ _ D st li rv b v1 s1.n hck hmz (Hp.owns (Li:=[]) H.hp) 9 l[k].head _ _ _ hhd (by omega)) rfl ?_;clear H;rintro v36 _ _ a w ⟨rfl,rfl,rfl⟩ - H;dsimp only [List.nil_append] at H;refine eO 6 H ?_ ?_ <;> clear H
  ·intro p38
   have hF:=hEr _ p38 (atc p38);refine aj 4 ?_;intro a H;refine lr H results55 rfl ?_;exact H.hp.bU (L':=iC uo D b v1 s1.n :: L1) (by repeat (first|exact bZ _|apply List.Sublist.cons)) ⟨rfl,v1,L1,s1,aB vi hF.symm,rfl,hv1,fun h=>absurd (hF.symm.trans h) p38⟩
  intro p38
  have e1:eH (aL us st li rv) 9 l[k].head=0:=fD.1 p38;refine goB 13 ?_ ?_
  ·intro p40
   have hF:=hEr 11 (by decide) (atd e1 (by omega));refine aj 3 ?_;intro a H;refine lr H results55 rfl ?_;exact H.hp.bU (L':=iC uo D b v1 s1.n :: L1) (by repeat (first|exact bZ _|apply List.Sublist.cons)) ⟨rfl,v1,L1,s1,aB vi hF.symm,rfl,hv1,fun h=>absurd (hF.symm.trans h) (by decide)⟩
  intro p40
  refine goB 10 ?_ ?_
  ·intro p48
   have hF:=hEr 9 (by decide) (ate e1 (by omega) (by omega));refine aj 3 ?_;intro a H;refine lr H results55 rfl ?_;exact H.hp.bU (L':=iC uo D b v1 s1.n :: L1) (by repeat (first|exact bZ _|apply List.Sublist.cons)) ⟨rfl,v1,L1,s1,aB vi hF.symm,rfl,hv1,fun h=>absurd (hF.symm.trans h) (by decide)⟩
  intro p48
  rw [rW (r:=(rG (aL us st li rv) l[k].head l[k].cells.length,s1)) (atf e1 (by omega) (by omega))] at hX;intro a H;dsimp only at hX;refine dG 5 H ?_;clear H;intro a H;refine dD (ι:=Nat × CS × ak × OL) (Tc:=[(0,_),(1,_),(2,_),(3,_),(9,_)]) (Lc:=[]) (fun gh=>[(11,vi gh.1)]) (fun gh=>[iC uo D b gh.2.2.1 gh.2.1.n]++gh.2.2.2) (fun gh=>G) (fun gh=>gh.1≤l[k].cells.length∧kS (aL us st li rv) note t (l[k].cells.drop gh.1) gh.2.1=kS (aL us st li rv) note t l[k].cells s1∧wE gh.2.2.1 gh.2.1.aU gh.2.2.2 L0∧0≤gh.2.1.n∧gh.2.1.n+(gH (l[k].cells.drop gh.1):Nat)≤s1.n+(gH l[k].cells:Nat)∧gh.2.1.aU.length+gH (l[k].cells.drop gh.1)≤s1.aU.length+gH l[k].cells) (fun gh=>l[k].cells.length - gh.1) ((0,s1,v1,L1)) sB ?_ ?_
  ·exact ⟨eG _,rfl,hv1,hn0,Int.le_refl _,bX _⟩
  clear H;rintro ⟨j,s2,v2,L2⟩ a w hI H;dsimp only at hI H;obtain ⟨hj,hY,hv2,hm0,hm1,hm2⟩:=hI;dsimp only [lca,aQ] at H;refine cK 11 H ?_ ?_ <;> clear H
  ·intro p63
   have hj2:j < l[k].cells.length:=by omega
   obtain ⟨o2,xo2,Ee,FD,pc2,Dr,EO,Dt,FY,F4,FZ,ES,EY,ET,rfl,hrow2,MO,Vt⟩:=BR hj2 hcg;have apT:=agw hj2;have apS:=uZ l[k].cells[j];have axf:=Sj (iq hj2);rw [ahC hj2,zO] at hY
   have oC:∀ e s9,e≠0→cellC (aL us st li rv) note t l[k].cells[j] s2=(e,s9)→R.1=e:=fun e s9 h1 h2=>by
    rw [zO] at h2;rw [h2,uh (by exact h1)] at hY;rw [← hX,← hY,uh (by exact h1)]
   refine aj 11 ?_;intro a H;refine aT iI (cs:=[vi l[k].cells[j].id,.slice Ee FD pc2,vi l[k].cells[j].head.marks.ins,vi l[k].cells[j].head.marks.move,.slice Dr EO Dt,.slice FY F4 FZ,.slice ES EY ET]) H wn rfl rfl (fun j v hj=>H.hp.aC (hrow2 j v hj)) rfl ?_;clear H;intro a H;refine dx iI H wn rfl ?_;clear H;intro b12 a w DU H;refine bq iI 0 (vs:=[_,_,_,_,_,_,_]) _ H wn rfl rfl rfl rfl rfl rfl rfl rfl ?_;clear H;intro w H;dsimp only [List.set,setRow] at H;refine aH 6 H ?_;clear H;intro a H;refine fu aaI (Li:=[_]) (L:=iC uo D b v2 s2.n :: L2) H wn rfl (adU (aL us st li rv) _ _ L0 _ D b v2 s2 l[k].cells[j].id hv2 (Hp.owns (Li:=[_]) H.hp) hck.WT (by omega)) rfl ?_;clear H;rintro v77 _ _ a w ⟨rfl,v3,L3,rfl,rfl,hv3⟩ - H;dsimp only [lca,aQ] at H;refine eO 6 H ?_ ?_ <;> clear H
   ·intro zq
    have hF:=oC (gZ (aL us st li rv) s2 l[k].cells[j].id).1 _ zq (by rw [zO,uh zq]);refine aj 4 ?_;intro a H;refine lr H results55 rfl ?_;exact H.hp.bU (L':=iC uo D b v3 s2.n :: L3) (by repeat (first|exact bZ _|apply List.Sublist.cons)) ⟨rfl,v3,L3,⟨s2.n,(gZ (aL us st li rv) s2 l[k].cells[j].id).2.aU⟩,aB vi hF.symm,rfl,hv3,fun h=>absurd (hF.symm.trans h) zq⟩
   intro zq
   have OQ:(gZ (aL us st li rv) s2 l[k].cells[j].id).1=0:=fD.1 zq;have hub:=R5 (aL us st li rv) s2 l[k].cells[j].id
   unfold ko at hub
   obtain ⟨s3,hs3⟩:∃ s3,s3=(gZ (aL us st li rv) s2 l[k].cells[j].id).2:=⟨_,rfl⟩
   have J2:s3.n=s2.n:=by rw [hs3];rfl
   rw [← hs3] at hv3 hub;intro a H;rw [← J2] at H;refine dG 5 H ?_;clear H;intro a H;refine aT gG (cs:=[.slice Ee FD pc2,vi l[k].cells[j].head.marks.ins,vi l[k].cells[j].head.marks.move,.slice Dr EO Dt,.slice FY F4 FZ]) H wn rfl rfl (H.hp.cO 0 rfl rfl) rfl ?_;clear H;intro a H;refine fu OV (Li:=[_]) (L:=iC uo D b v3 s3.n :: L3) H wn rfl (QS _ _ _ D st li rv b v3 s3.n hck hmz (Hp.owns (Li:=[_]) H.hp) 10 l[k].cells[j].head _ _ _ MO (by omega)) rfl ?_;clear H;rintro v84 _ _ a w ⟨rfl,rfl,rfl⟩ - H;dsimp only [lca,aQ] at H;refine eO 6 H ?_ ?_ <;> clear H
   ·intro Ns
    have hF:=oC (eH (aL us st li rv) 10 l[k].cells[j].head) s3 Ns (by rw [zO,rW OQ,← hs3,uh (by exact Ns)]);refine aj 4 ?_;intro a H;refine lr H results55 rfl ?_;exact H.hp.bU (L':=iC uo D b v3 s3.n :: L3) (by repeat (first|exact bZ _|apply List.Sublist.cons)) ⟨rfl,v3,L3,s3,aB vi hF.symm,rfl,hv3,fun h=>absurd (hF.symm.trans h) Ns⟩
   intro Ns
   have e86:eH (aL us st li rv) 10 l[k].cells[j].head=0:=fD.1 Ns;refine aj 7 ?_;intro a H;refine fu TS (Li:=[_]) (L:=iC uo D b v3 s3.n :: L3) H wn rfl (ih _ _ L0 _ D st li rv b v3 s3 l[k].cells[j].flow _ false note t hck hmz hv3 (Hp.owns (Li:=[_]) H.hp) Vt (by omega) ht0 Bf (by omega) (by omega) (by omega)) rfl ?_;clear H;rintro v93 _ _ a w ⟨rfl,v5,L5,s5,rfl,rfl,hv5,h5⟩ - H;dsimp only [lca,aQ] at H
   have abI:cellC (aL us st li rv) note t l[k].cells[j] s2=fP (aL us st li rv) false note t l[k].cells[j].flow s3:=by rw [zO,rW OQ,← hs3,rW (r:=(eH (aL us st li rv) 10 l[k].cells[j].head,s3)) e86]
   refine eO 6 H ?_ ?_ <;> clear H
   ·intro Ed
    have hF:=oC _ _ Ed abI;refine aj 4 ?_;intro a H;refine lr H results55 rfl ?_;exact H.hp.bU (L':=iC uo D b v5 s5.n :: L5) (by repeat (first|exact bZ _|apply List.Sublist.cons)) ⟨rfl,v5,L5,s5,aB vi hF.symm,rfl,hv5,fun h=>absurd (hF.symm.trans h) Ed⟩
   intro Ed
   have e95:=fD.1 Ed;have hs5:=h5 e95
   have hcell:cellC (aL us st li rv) note t l[k].cells[j] s2=(0,s5):=by rw [abI,hs5,← e95]
   obtain ⟨z1,z2,z3⟩:=ahm hcell
   have hC:kS (aL us st li rv) note t (l[k].cells.drop (j+1)) s5=kS (aL us st li rv) note t l[k].cells s1:=by
    rw [zO] at hcell;rw [hcell,rW rfl] at hY;exact hY
   refine aj 5 ?_;intro a H;refine aI ?_;refine bR ((j+1,s5,v5,L5)) (by exact (H.bY (Pl:=[_,_]) (bT:=[_]) [1] (by decide) rfl).sub ⟨rfl,rfl,rfl,rfl,rfl,rfl,aY⟩) ?_ ?_
   ·(try dsimp only);exact ⟨by omega,hC,hv5,by omega,by omega,by omega⟩
   first|omega|(dsimp only;omega)
  intro p63
  have hj3:l[k].cells.drop j=[]:=eX (by omega);rw [hj3,kS] at hY;rw [← hY,rW rfl] at hX;have hB:fJ (aL us st li rv) note t (l.drop (k+1)) s2=fJ (aL us st li rv) note t (l.drop (k+1)) s2:=rfl;rw [hj3] at hm1 hm2;have hz0:gH []=0:=rfl;refine aj 5 ?_;intro a H;refine aI ?_;refine bR ((k+1,s2,v2,L2)) sB ?_ ?_
  ·(try dsimp only);exact ⟨by omega,by rw [hB];exact hX,hv2,by omega,by omega,by omega⟩
  first|omega|(dsimp only;omega)
 intro p27
 have hk3:l.drop k=[]:=eX (by omega);rw [hk3,fJ] at hX;refine aj 4 ?_;intro a H;refine lr H results55 rfl ?_;exact H.hp.dO ⟨rfl,v1,L1,s1,aB vi (by rw [← hX]),rfl,hv1,fun _=>by rw [← hX]⟩
end
section
open Go.RowKit
theorem akZ:∀ args w,(callFunc 55 args).run prog w=.ok (.enter 55 args) w:=enters func55 rfl (by kernel_rfl)
theorem akY:∀ args w,(callFunc 52 args).run prog w=.ok (.enter 52 args) w:=enters func52 rfl (by kernel_rfl)
instance:dL prog 56 3 13:=⟨by kernel_rfl⟩
variable {us:List Int} {uo:ak}
theorem asC {C:bL} {body note:Bool} {t k i:Int} {s:CS} {q:Bool} (hq:q=(decide (k=3) && !body || decide (k=6) && note)) (h:q=true):jh C body note t k i s=(19,s):=by
 subst hq
 unfold jh
 rcases Bool.or_eq_true_iff.1 h with h|h
 ·obtain ⟨h1,h2⟩:=Bool.and_eq_true_iff.1 h;rw [au (lQ h1),h2];rfl
 obtain ⟨h1,h2⟩:=Bool.and_eq_true_iff.1 h;have h3:=lQ h1;subst h3;rw [ah (by decide),au rfl,h2];rfl
theorem asF {C:bL} {body note:Bool} {t k i:Int} {s:CS} (h:¬ (decide (k=3) && !body || decide (k=6) && note)=true) (h7:k=7→¬ 4≤t) (h8:k=8→1≤i∧i≤1073741824):jh C body note t k i s=if k=6∨k=7 then gZ C s i else (0,s):=by
 unfold jh
 by_cases k3:k=3
 ·subst k3;rw [au rfl,ah (by decide)]
  cases body
  ·exact absurd rfl h
  rfl
 rw [ah k3]
 by_cases k6:k=6
 ·subst k6;rw [au rfl,au (by decide)]
  cases note
  ·exact rW rfl
  exact absurd (by simp) h
 rw [ah k6]
 by_cases k7:k=7
 ·subst k7;rw [au rfl,au (by decide),show bK (decide (4≤t)) 17=0 by rw [bK,ah (by simpa using h7 rfl)]];exact rW rfl
 rw [ah k7,ah (show ¬ (k=6∨k=7) by omega)]
 by_cases k8:k=8
 ·rw [au k8,eZ (h8 k8)];rfl
 rw [ah k8]
theorem asA {C:bL} {body note:Bool} {t i:Int} {s:CS} (h:4≤t):jh C body note t 7 i s=(17,s):=by
 unfold jh
 rw [ah (by decide),ah (by decide),au rfl,eZ h];rfl
theorem asB {C:bL} {body note:Bool} {t i:Int} {s:CS} (h:¬ (1≤i∧i≤1073741824)):jh C body note t 8 i s=(18,s):=by
 unfold jh
 rw [ah (by decide),ah (by decide),ah (by decide),au rfl,gD h];rfl
theorem aqN {m:Nat} (ih:N7 us uo m) (hm:m≤4294967296):N7 us uo (m+1):=by
 intro G L L0 w0 D st li rv b v s l u body note t hck hmz hi hO hv hz ht0 Bf hs0 hs1 hs2;obtain ⟨A,c,rfl,hc1,hc2,hg⟩:=hv.slice;rw [bE] at *;have hll:=BG l;obtain ⟨R,hR⟩:∃ R,R=fP (aL us st li rv) body note t l s:=⟨_,rfl⟩;rw [← hR];refine iM (N:=139) (T:=[(0,_),(1,_),(2,_),(3,_),(4,_)]) func16 rfl ntmps16 rfl rfl hO ?_;refine aj 8 ?_;intro a H;refine dD (ι:=Nat × CS × ak × OL) (Tc:=[(0,_),(1,_),(2,_),(3,_),(4,_)]) (Lc:=[]) (fun gh=>[(11,vi gh.1)]) (fun gh=>[iC uo D b gh.2.2.1 gh.2.1.n]++gh.2.2.2) (fun gh=>G) (fun gh=>gh.1≤l.length∧fP (aL us st li rv) body note t (l.drop gh.1) gh.2.1=R∧wE gh.2.2.1 gh.2.1.aU gh.2.2.2 L0∧0≤gh.2.1.n∧gh.2.1.n+(aX (l.drop gh.1):Nat)≤1099511627776∧gh.2.1.aU.length+aX (l.drop gh.1) < 1099511627776) (fun gh=>l.length - gh.1) ((0,s,v,L)) sB ?_ ?_
 ·exact ⟨eG _,hR.symm,hi,hs0,hs1,hs2⟩
 clear H;rintro ⟨k,s1,v1,L1⟩ a w hI H;dsimp only at hI H;obtain ⟨hk,hX,hv1,hn0,hn1,hn2⟩:=hI;dsimp only [lca,aQ] at H;refine cK 7 H ?_ ?_ <;> clear H
 ·intro Aa
  have hk2:k < l.length:=by omega
  obtain ⟨o,xo,pA,pn,pc,dA,dn,dc,yA,yn,yc,fA,fn,fc,rA,rn,rc,rfl,hrow,hhd,hfl,hrw⟩:=AA hk2 hg;have hfn:=hfl.len;rw [bE] at hfn;subst hfn;have hrn:=hrw.len;rw [bE] at hrn;subst hrn;have hzs:=Yo hk2;have hzi:=pU l[k];have Ik:=I5 (iq hk2);rw [aqo hk2] at hX;obtain ⟨x,hx⟩:∃ x,x=l[k]:=⟨_,rfl⟩;rw [← hx] at hX hrow hhd hfl hrw hzs hzi Ik;have hcl:=GQ x.text
  have Ii:fK x≤x.text.size+1:=by unfold fK;split <;> omega
  have oC:∀ e s9,e≠0→eB (aL us st li rv) body note t x s1=(e,s9)→R.1=e:=fun e s9 h1 h2=>by rw [← hX,h2,uh (by exact h1)]
  have hN:∀ {s9},eB (aL us st li rv) body note t x s1=(0,s9)→fP (aL us st li rv) body note t (l.drop (k+1)) s9=R:=fun {s9} h2=>by rw [h2,rW rfl] at hX;exact hX
  have iG:=Nc (aL us st li rv) body note t x s1;refine aj 7 ?_;intro a H;refine aT dU (cs:=[vi x.kind,vi x.code,vi x.id,.string x.text,.slice pA pn pc,vi x.head.marks.ins,vi x.head.marks.move,.slice dA dn dc,.slice yA yn yc,.slice fA x.flow.length fc,.slice rA x.rows.length rc]) H wn rfl rfl (fun j v hj=>H.hp.aC (hrow j v hj)) rfl ?_;clear H;intro a H;refine dx dU H wn rfl ?_;clear H;intro b12 a w DU H;refine bq dU 0 (vs:=[_,_,_,_,_,_,_,_,_,_,_]) _ H wn rfl rfl rfl rfl rfl rfl rfl rfl ?_;clear H;intro w H;dsimp only [List.set,setRow] at H;refine aH 3 H ?_;clear H;intro a H;refine aT dU (cs:=[vi x.kind,vi x.code,vi x.id,.string x.text,.slice pA pn pc,vi x.head.marks.ins,vi x.head.marks.move,.slice dA dn dc,.slice yA yn yc,.slice fA x.flow.length fc,.slice rA x.rows.length rc]) H wn rfl rfl (H.hp.cO 0 rfl rfl) rfl ?_;clear H;intro a H;refine s_call akY H wn rfl (aqT _ _ H.ro x _ _ _ _ _ _ _ (by omega)) rfl ?_;clear H;rintro v31 _ a w ⟨rfl,rfl⟩ - H;refine eO 6 H ?_ ?_ <;> clear H
  ·intro p33
   have hF:=oC (gN x) s1 p33 (by rw [iG,uh (by exact p33)]);refine aj 4 ?_;intro a H;refine lr H results16 rfl ?_;exact H.hp.bU (L':=iC uo D b v1 s1.n :: L1) (by repeat (first|exact bZ _|apply List.Sublist.cons)) ⟨rfl,v1,L1,s1,aB vi hF.symm,rfl,hv1,fun h=>absurd (hF.symm.trans h) p33⟩
  intro p33
  have e1:gN x=0:=fD.1 p33;rw [rW (r:=(gN x,s1)) e1] at iG;intro a H;dsimp only at iG;refine dG 4 H ?_;clear H;intro a H;refine s_call OX H wn rfl (OE _ _ H.ro x.text (by omega)) rfl ?_;clear H;rintro v38 _ a w ⟨rfl,rfl⟩ - H;refine aH 1 H ?_;clear H;intro a H;(iterate 2 refine qK H wn rfl rfl rfl ?_;clear H;intro a H);refine aH 3 H ?_;clear H;intro a H;refine oQ (ι:=Int) (Tc:=[(0,_),(1,_),(2,_),(3,_),(4,_),(11,_),(12,_)]) (Lc:=[(_,_),(_,_)]) (fun gh=>[(14,vi gh)]) (fun gh=>[]++L1) (fun gh=>G) (fun gh=>gh=(fK x:Nat)) sB ?_ ?_
  ·refine cK 5 H ?_ ?_ <;> clear H
   ·intro p43
    refine aj 2 ?_;intro a H;refine aI ?_;refine ⟨_,sB,?_⟩
    unfold fK;first|rw [au (by simpa using p43)]|(rw [ah (by simpa using p43)];rfl)
   intro p43
   intro a H;refine iE ?_;refine ⟨_,sB,?_⟩
   unfold fK;first|rw [au (by simpa using p43)]|(rw [ah (by simpa using p43)];rfl)
  clear H;intro un a w hI H;have hun:=hI;dsimp only [lca,aQ] at H;refine dG 10 H ?_;clear H;intro a H;refine bq bC 1 (vs:=[_]) _ H wn rfl rfl rfl rfl rfl rfl rfl rfl ?_;clear H;intro w H;dsimp only [List.set,setRow] at H;refine aH 3 H ?_;clear H
  have hsn:s1.n+un=s1.n+(fK x:Nat):=by omega
  intro a H;rw [hsn] at H;obtain ⟨s2,hs2⟩:∃ s2:CS,s2=⟨s1.n+(fK x:Nat),s1.aU⟩:=⟨_,rfl⟩;rw [← hs2] at iG
  have acP:s2.n=s1.n+(fK x:Nat):=by rw [hs2]
  have Qq:s2.aU=s1.aU:=by rw [hs2]
  rw [← acP] at H;rw [← Qq] at hv1;refine tq ?_;refine mI (ι:=Bool) (Tc:=[(0,_),(1,_),(2,_),(3,_),(4,_),(11,_),(12,_)]) 15 (fun (q1:Bool)=>[(68,.bool q1)]) (fun (q1:Bool)=>q1=(decide (x.kind=3) && !body || decide (x.kind=6) && note)) sB ?_ ?_
  ·intro AQ;refine ku 4 57 H ?_ ?_ <;> clear H
   ·intro p57
    refine gV 4 61 ?_ ?_
    ·intro p61
     refine aj 7 ?_;intro a H;refine AQ (_) _ _ ?_ sB
     clear iG oC hN hX;first|(simp_all;done)|(simp_all;omega)
    intro p61
    refine gV 4 65 ?_ ?_
    ·intro p65
     refine aj 3 ?_;intro a H;refine AQ (_) _ _ ?_ sB
     clear iG oC hN hX;first|(simp_all;done)|(simp_all;omega)
    intro p65
    refine aj 3 ?_;intro a H;refine AQ (_) _ _ ?_ sB
    clear iG oC hN hX;first|(simp_all;done)|(simp_all;omega)
   intro p57
   refine aj 4 ?_;intro a H;refine IJ Cc H (wg H rfl rfl rfl) rfl rfl ?_;clear H;intro a H;refine iH bC H (wg H rfl rfl rfl) rfl (H.hp.qd 0 rfl rfl) rfl ?_;clear H;intro a H;refine Ej H (wg H rfl rfl rfl) rfl rfl rfl rfl ?_;clear H;intro a H;refine FK H (wg H rfl rfl rfl) rfl rfl ?_;clear H;refine iV 0 65 ?_ ?_
   ·intro Mk
    try have p65:=dT Mk
    refine aj 1 ?_;intro a H;refine Kr H (wg H rfl rfl rfl) rfl Mk rfl rfl ?_;clear H;refine aj 1 ?_;intro a H;refine AQ (_) _ _ ?_ sB
    clear iG oC hN hX;first|(simp_all;done)|(simp_all;omega)
   intro Mk
   try have p65:=dF Mk
   refine aj 1 ?_;intro a H;refine NA H (wg H rfl rfl rfl) rfl Mk rfl rfl ?_;clear H;refine aj 1 ?_;intro a H;refine AQ (_) _ _ ?_ sB
   clear iG oC hN hX;first|(simp_all;done)|(simp_all;omega)
  clear H;intro q1 a w hI H;dsimp only [lca,aQ] at H;(repeat with_reducible refine dK ?_);refine d0 ?_;have hq1:=hI;refine fE 2 H ?_ ?_ <;> clear H
  ·intro nG
   try have p53:=dT nG
   have hF:=oC 19 s2 (by decide) (by rw [iG,asC hq1 nG,uh (r:=(19,s2)) (show (19:Int)≠0 by decide)]);refine aj 3 ?_;intro a H;refine lr H results16 rfl ?_;exact H.hp.bU (L':=iC uo D b v1 s2.n :: L1) (by repeat (first|exact bZ _|apply List.Sublist.cons)) ⟨rfl,v1,L1,s2,aB vi hF.symm,rfl,hv1,fun h=>absurd (hF.symm.trans h) (by decide)⟩
  intro nG
  try have p53:=dF nG
  have VO:¬ (decide (x.kind=3) && !body || decide (x.kind=6) && note)=true:=by rw [← hq1,nG];decide
  refine aj 1 ?_;intro a H;refine mI (ι:=Bool) (Tc:=[(0,_),(1,_),(2,_),(3,_),(4,_),(11,_),(12,_)]) 7 (fun (q2:Bool)=>[(76,.bool q2)]) (fun (q2:Bool)=>q2=(decide (x.kind=7) && decide (4≤t))) sB ?_ ?_
  ·intro MB;refine ku 4 73 H ?_ ?_ <;> clear H
   ·intro p73
    refine aj 3 ?_;intro a H;refine MB (_) _ _ ?_ sB
    clear iG oC hN hX;first|(simp_all;done)|(simp_all;omega)
   intro p73
   refine aj 3 ?_;intro a H;refine MB (_) _ _ ?_ sB
   clear iG oC hN hX;first|(simp_all;done)|(simp_all;omega)
  clear H;intro q2 a w hI H;dsimp only [lca,aQ] at H;(repeat with_reducible refine dK ?_);refine d0 ?_;have hq2:=hI;refine fE 2 H ?_ ?_ <;> clear H
  ·intro qB
   try have p69:=dT qB
   rw [qB] at hq2;have hq3:=Bool.and_eq_true_iff.1 hq2.symm;have hF:=oC 17 s2 (by decide) (by rw [iG,lQ hq3.1,asA (lQ hq3.2),uh (r:=(17,s2)) (show (17:Int)≠0 by decide)]);refine aj 3 ?_;intro a H;refine lr H results16 rfl ?_;exact H.hp.bU (L':=iC uo D b v1 s2.n :: L1) (by repeat (first|exact bZ _|apply List.Sublist.cons)) ⟨rfl,v1,L1,s2,aB vi hF.symm,rfl,hv1,fun h=>absurd (hF.symm.trans h) (by decide)⟩
  intro qB
  try have p69:=dF qB
  have Qo:x.kind=7→¬ 4≤t:=fun h1 h2=>by rw [qB,eZ h1,eZ h2] at hq2;cases hq2
  refine aj 1 ?_;intro a H;refine mI (ι:=Bool) (Tc:=[(0,_),(1,_),(2,_),(3,_),(4,_),(11,_),(12,_)]) 13 (fun (q3:Bool)=>[(90,.bool q3)]) (fun (q3:Bool)=>q3=(decide (x.kind=8) && !decide (1≤x.id∧x.id≤1073741824))) sB ?_ ?_
  ·intro JA;refine ku 4 81 H ?_ ?_ <;> clear H
   ·intro yG
    refine gV 4 85 ?_ ?_
    ·intro Xg
     refine aj 5 ?_;intro a H;refine JA (_) _ _ ?_ sB
     clear iG oC hN hX;first|(rw [gD yG];rfl)|(rw [eZ yG,gD (by omega)];rfl)|(rw [eZ yG,tY,← decide_not];exact decide_eq_decide.2 (by omega))
    intro Xg
    refine aj 5 ?_;intro a H;refine JA (_) _ _ ?_ sB
    clear iG oC hN hX;first|(rw [gD yG];rfl)|(rw [eZ yG,gD (by omega)];rfl)|(rw [eZ yG,tY,← decide_not];exact decide_eq_decide.2 (by omega))
   intro yG
   refine aj 9 ?_;intro a H;refine JA (_) _ _ ?_ sB
   clear iG oC hN hX;first|(rw [gD yG];rfl)|(rw [eZ yG,gD (by omega)];rfl)|(rw [eZ yG,tY,← decide_not];exact decide_eq_decide.2 (by omega))
  clear H;intro q3 a w hI H;dsimp only [lca,aQ] at H;(repeat with_reducible refine dK ?_);refine d0 ?_;have hq3:=hI;refine fE 2 H ?_ ?_ <;> clear H
  ·intro Mr
   try have FB:=dT Mr
   rw [Mr] at hq3;have hq4:=Bool.and_eq_true_iff.1 hq3.symm
   have gL:¬ (1≤x.id∧x.id≤1073741824):=by have:=hq4.2;simp at this;omega
   have hF:=oC 18 s2 (by decide) (by rw [iG,lQ hq4.1,asB gL,uh (r:=(18,s2)) (show (18:Int)≠0 by decide)]);refine aj 3 ?_;intro a H;refine lr H results16 rfl ?_;exact H.hp.bU (L':=iC uo D b v1 s2.n :: L1) (by repeat (first|exact bZ _|apply List.Sublist.cons)) ⟨rfl,v1,L1,s2,aB vi hF.symm,rfl,hv1,fun h=>absurd (hF.symm.trans h) (by decide)⟩
  intro Mr
  try have FB:=dF Mr
  have VP:x.kind=8→1≤x.id∧x.id≤1073741824:=fun h1=>by rw [Mr,eZ h1] at hq3;simpa using hq3
  rw [asF VO Qo VP] at iG;refine aj 1 ?_;intro a H;refine oQ (ι:=CS × ak × OL) (Tc:=[(0,_),(1,_),(2,_),(3,_),(4,_),(11,_),(12,_)]) (Lc:=[(_,_)]) (fun gh=>[]) (fun gh=>[iC uo D b gh.2.1 gh.1.n]++gh.2.2) (fun gh=>G) (fun gh=>(eB (aL us st li rv) body note t x s1=fF (eH (aL us st li rv) x.kind x.head,gh.1) fun s=>if x.kind=6 then fP (aL us st li rv) false true t x.flow s else if x.kind=7 then jD x.rows.length (fun s=>fJ (aL us st li rv) note (t+1) x.rows s) s else (0,s))∧wE gh.2.1 gh.1.aU gh.2.2 L0∧gh.1.n=s1.n+(fK x:Nat)∧gh.1.aU.length≤s1.aU.length+1) sB ?_ ?_
  ·refine tq ?_;refine mI (ι:=Bool) (Tc:=[(0,_),(1,_),(2,_),(3,_),(4,_),(11,_),(12,_)]) 8 (fun (q4:Bool)=>[(98,.bool q4)]) (fun (q4:Bool)=>q4=decide (x.kind=6∨x.kind=7)) sB ?_ ?_
   ·intro MC;refine ku 4 94 H ?_ ?_ <;> clear H
    ·intro p94
     refine aj 4 ?_;intro a H;refine MC (_) _ _ ?_ sB
     clear iG oC hN hX VO Qo VP;first|(simp_all;done)|(simp_all;omega)
    intro p94
    refine aj 4 ?_;intro a H;refine MC (_) _ _ ?_ sB
    clear iG oC hN hX VO Qo VP;first|(simp_all;done)|(simp_all;omega)
   clear H;intro q4 a w hI H;dsimp only [lca,aQ] at H;(repeat with_reducible refine dK ?_);refine d0 ?_;have hq4:=hI;refine fE 1 H ?_ ?_ <;> clear H
   ·intro Ms
    try have Nw:=dT Ms
    have Hf:x.kind=6∨x.kind=7:=by rw [Ms] at hq4;exact lQ hq4.symm
    rw [au Hf] at iG;refine aj 4 ?_;intro a H;refine fu aaI (Li:=[_]) (L:=iC uo D b v1 s2.n :: L1) H wn rfl (adU (aL us st li rv) _ _ L0 _ D b v1 s2 x.id hv1 (Hp.owns (Li:=[_]) H.hp) hck.WT (by rw [Qq];omega)) rfl ?_;clear H;rintro axo _ _ a w ⟨rfl,v2,L2,rfl,rfl,hv2⟩ - H;dsimp only [lca,aQ] at H;refine eO 6 H ?_ ?_ <;> clear H
    ·intro Np
     have hF:=oC (gZ (aL us st li rv) s2 x.id).1 _ Np (by rw [iG,uh Np]);refine aj 4 ?_;intro a H;refine lr H results16 rfl ?_;exact H.hp.bU (L':=iC uo D b v2 s2.n :: L2) (by repeat (first|exact bZ _|apply List.Sublist.cons)) ⟨rfl,v2,L2,⟨s2.n,(gZ (aL us st li rv) s2 x.id).2.aU⟩,aB vi hF.symm,rfl,hv2,fun h=>absurd (hF.symm.trans h) Np⟩
    intro Np
    have OQ:(gZ (aL us st li rv) s2 x.id).1=0:=fD.1 Np;rw [rW OQ] at iG;have hub:=R5 (aL us st li rv) s2 x.id
    unfold ko at hub
    obtain ⟨s3,hs3⟩:∃ s3,s3=(gZ (aL us st li rv) s2 x.id).2:=⟨_,rfl⟩
    have J2:s3.n=s2.n:=by rw [hs3];rfl
    rw [← hs3] at hv2 hub iG;intro a H;rw [← J2] at H
    have hsb:s3.aU.length≤s1.aU.length+1:=by rw [← Qq];omega
    refine iE ?_;refine ⟨(s3,v2,L2),sB,?_⟩;(try dsimp only);exact ⟨iG,hv2,by omega,hsb⟩
   intro Ms
   try have Nw:=dF Ms
   have Hf:¬ (x.kind=6∨x.kind=7):=by rw [Ms] at hq4;exact of_decide_eq_false hq4.symm
   rw [ah Hf,rW rfl] at iG;intro a H;dsimp only at iG;have hw2:=hv1
   have hsb:s2.aU.length≤s1.aU.length+1:=by rw [Qq];omega
   refine iE ?_;refine ⟨(s2,v1,L1),sB,?_⟩;(try dsimp only);exact ⟨iG,hv1,acP,hsb⟩
  clear H;rintro ⟨s3,v3,L3⟩ a w hI H;dsimp only at hI H;clear iG hv1;obtain ⟨iG,hv3,J2,hsb⟩:=hI;dsimp only [lca,aQ] at H;refine dG 6 H ?_;clear H;intro a H;refine aT gG (cs:=[.slice pA pn pc,vi x.head.marks.ins,vi x.head.marks.move,.slice dA dn dc,.slice yA yn yc]) H wn rfl rfl (H.hp.cO 0 rfl rfl) rfl ?_;clear H;intro a H;refine fu OV (Li:=[_]) (L:=iC uo D b v3 s3.n :: L3) H wn rfl (QS _ _ _ D st li rv b v3 s3.n hck hmz (Hp.owns (Li:=[_]) H.hp) x.kind x.head _ _ _ hhd (by omega)) rfl ?_;clear H;rintro axq _ _ a w ⟨rfl,rfl,rfl⟩ - H;dsimp only [lca,aQ] at H;refine eO 6 H ?_ ?_ <;> clear H
  ·intro CG
   have hF:=oC (eH (aL us st li rv) x.kind x.head) s3 CG (by rw [iG,uh (by exact CG)]);refine aj 4 ?_;intro a H;refine lr H results16 rfl ?_;exact H.hp.bU (L':=iC uo D b v3 s3.n :: L3) (by repeat (first|exact bZ _|apply List.Sublist.cons)) ⟨rfl,v3,L3,s3,aB vi hF.symm,rfl,hv3,fun h=>absurd (hF.symm.trans h) CG⟩
  intro CG
  rw [rW (r:=(eH (aL us st li rv) x.kind x.head,s3)) (fD.1 CG)] at iG;intro a H;dsimp only at iG;refine iE ?_;refine dW ?_;refine oQ (ι:=CS × ak × OL) (Tc:=[(0,_),(1,_),(2,_),(3,_),(4,_),(11,_),(12,_)]) (Lc:=[(_,_)]) (fun gh=>[]) (fun gh=>[iC uo D b gh.2.1 gh.1.n]++gh.2.2) (fun gh=>G) (fun gh=>(eB (aL us st li rv) body note t x s1=if x.kind=7 then jD x.rows.length (fun s=>fJ (aL us st li rv) note (t+1) x.rows s) gh.1 else (0,gh.1))∧wE gh.2.1 gh.1.aU gh.2.2 L0∧(x.kind=7→gh.1.n=s1.n+(fK x:Nat)∧gh.1.aU.length≤s1.aU.length+1)) sB ?_ ?_
  ·refine cK 5 H ?_ ?_ <;> clear H
   ·intro WZ
    rw [au WZ] at iG;refine aj 5 ?_;intro a H;refine fu TS (Li:=[_]) (L:=iC uo D b v3 s3.n :: L3) H wn rfl (ih _ _ L0 _ D st li rv b v3 s3 x.flow _ false true t hck hmz hv3 (Hp.owns (Li:=[_]) H.hp) hfl (by omega) ht0 Bf (by omega) (by omega) (by omega)) rfl ?_;clear H;rintro axw _ _ a w ⟨rfl,v5,L5,s5,rfl,rfl,hv5,h5⟩ - H;dsimp only [lca,aQ] at H;refine eO 6 H ?_ ?_ <;> clear H
    ·intro Q5
     have hF:=oC _ _ Q5 iG;refine aj 4 ?_;intro a H;refine lr H results16 rfl ?_;exact H.hp.bU (L':=iC uo D b v5 s5.n :: L5) (by repeat (first|exact bZ _|apply List.Sublist.cons)) ⟨rfl,v5,L5,s5,aB vi hF.symm,rfl,hv5,fun h=>absurd (hF.symm.trans h) Q5⟩
    intro Q5
    have aah:=fD.1 Q5;have hs5:=h5 aah
    have aoF:eB (aL us st li rv) body note t x s1=if x.kind=7 then jD x.rows.length (fun s=>fJ (aL us st li rv) note (t+1) x.rows s) s5 else (0,s5):=by rw [ah (by omega),iG,hs5,← aah]
    intro a H;refine iE ?_;refine ⟨(s5,v5,L5),sB,?_⟩;(try dsimp only);exact ⟨aoF,hv5,fun h=>by omega⟩
   intro WZ
   rw [ah WZ] at iG;intro a H;refine iE ?_;refine ⟨(s3,v3,L3),sB,?_⟩;(try dsimp only);exact ⟨iG,hv3,fun _=>⟨J2,hsb⟩⟩
  clear H;rintro ⟨s3,v3,L3⟩ a w hI H;dsimp only at hI H;clear iG hv3;obtain ⟨iG,hv3,apC⟩:=hI;dsimp only [lca,aQ] at H;refine cK 5 H ?_ ?_ <;> clear H
  ·intro Ec
   rw [au Ec] at iG;obtain ⟨J2,hsb⟩:=apC Ec;have ht7:=Qo Ec;refine aj 7 ?_;intro a H;refine fu akZ (Li:=[_]) (L:=iC uo D b v3 s3.n :: L3) H wn rfl (aqU ih hm _ _ L0 _ D st li rv b v3 s3 x.rows _ note (t+1) hck hmz hv3 (Hp.owns (Li:=[_]) H.hp) hrw (by omega) (by omega) (by omega) (by omega) (by omega) (by omega)) rfl ?_;clear H;rintro axz _ _ a w ⟨rfl,v6,L6,s6,rfl,rfl,hv6,h6⟩ - H;dsimp only [lca,aQ] at H;refine eO 6 H ?_ ?_ <;> clear H
   ·intro Q6
    have hF:=oC _ _ Q6 iG;refine aj 4 ?_;intro a H;refine lr H results16 rfl ?_;exact H.hp.bU (L':=iC uo D b v6 s6.n :: L6) (by repeat (first|exact bZ _|apply List.Sublist.cons)) ⟨rfl,v6,L6,s6,aB vi hF.symm,rfl,hv6,fun h=>absurd (hF.symm.trans h) Q6⟩
   intro Q6
   have e137:=fD.1 Q6
   have Qe:eB (aL us st li rv) body note t x s1=(0,s6):=by rw [iG,h6 e137,← e137]
   refine aj 5 ?_;intro a H;refine aI ?_;refine bR ((k+1,s6,v6,L6)) (by exact (H.bY (Pl:=[_,_]) (bT:=[_]) [1] (by decide) rfl).sub ⟨rfl,rfl,rfl,rfl,rfl,rfl,aY⟩) ?_ ?_
   ·(try dsimp only);exact ⟨by omega,hN Qe,hv6,by have:=Ji Qe;omega,by have:=Ji Qe;omega,by have:=Ji Qe;omega⟩
   first|omega|(dsimp only;omega)
  intro Ec
  rw [ah Ec] at iG;refine aj 5 ?_;intro a H;refine aI ?_;refine bR ((k+1,s3,v3,L3)) (by exact (H.bY (Pl:=[_,_]) (bT:=[_]) [1] (by decide) rfl).sub ⟨rfl,rfl,rfl,rfl,rfl,rfl,aY⟩) ?_ ?_
  ·(try dsimp only);exact ⟨by omega,hN iG,hv3,by have:=Ji iG;omega,by have:=Ji iG;omega,by have:=Ji iG;omega⟩
  first|omega|(dsimp only;omega)
 intro Aa
 have hk3:l.drop k=[]:=eX (by omega);rw [hk3,fP] at hX;refine aj 4 ?_;intro a H;refine lr H results16 rfl ?_;exact H.hp.dO ⟨rfl,v1,L1,s1,aB vi (by rw [← hX]),rfl,hv1,fun _=>by rw [← hX]⟩
theorem adS:∀ m:Nat,m≤4294967297→N7 us uo m
 | 0,_=>fun _ _ _ _ _ _ _ _ _ _ _ _ _ _ _ _ _ _ _ _ _ h=>absurd h (by omega)
 | m+1,hm=>aqN (adS m (by omega)) (by omega)
end
section
open Go.RowKit
theorem auu (G:GH) (w0:World) (hG:Hold G w0) (s:qN) (a b c d:ak) (hR:tV G s a b c d) (hsl:s.styles.length≤4294967296) (hz:Ll s) :
  Calls prog 38 #[.agg #[a,b,c,d]] w0 (bB w0 G fun u G'=>∃ r,u=.bool r):=by
 obtain ⟨sA,sc,rfl,-,-,-⟩:=hR.st.slice;obtain ⟨lA,lc,rfl,-,-,-⟩:=hR.li.slice;obtain ⟨cA,cc,rfl,-,-,-⟩:=hR.cm.slice;obtain ⟨vA,vc,rfl,-,-,-⟩:=hR.va.slice;have hl1:=hz.ln
 simp only [bE] at hR ⊢
 refine eN [(0,_)] func38 rfl ntmps38 rfl rfl hG ?_;refine aj 1 ?_;intro a H;refine dN (cs:=[_,_,_,_]) H wn rfl rfl rfl ?_;clear H;intro b1 a w hb1 H;refine aH 3 H ?_;clear H;intro a H;obtain ⟨Ga,hma,hb1',H⟩:=H.dS
 have hc0:aC Ga b1 0=some (.slice sA s.styles.length sc):=by unfold aC;rw [hb1'];rfl
 have hc1:aC Ga b1 1=some (.slice lA s.lists.length lc):=by unfold aC;rw [hb1'];rfl
 have hc2:aC Ga b1 2=some (.slice cA s.comments.length cc):=by unfold aC;rw [hb1'];rfl
 have hc3:aC Ga b1 3=some (.slice vA s.vars.length vc):=by unfold aC;rw [hb1'];rfl
 have hst:=hR.st.mono hma;have wW:=hR.li.mono hma;refine wT 6 9 H ?_ ?_ <;> clear H
 ·intro p9
  refine aJ 22 ?_;exact ⟨_,rfl⟩
 intro p9
 refine gV 6 15 ?_ ?_
 ·intro mE
  refine aJ 16 ?_;exact ⟨_,rfl⟩
 intro mE
 refine gV 6 21 ?_ ?_
 ·intro nN
  refine aJ 10 ?_;exact ⟨_,rfl⟩
 intro nN
 refine goB 6 ?_ ?_
 ·intro p26
  refine aJ 3 ?_;exact ⟨_,rfl⟩
 intro p26
 refine aj 6 ?_;intro a H;refine dD (ι:=Nat) (Tc:=[(1,_)]) (Lc:=[]) (fun gh=>[(3,vi gh)]) (fun gh=>[]) (fun gh=>Ga) (fun gh=>gh≤s.styles.length) (fun gh=>s.styles.length - gh) (0) sB ?_ ?_
 ·exact eG _
 clear H;intro k a w hI H;have hk:=hI;dsimp only [lca,aQ] at H;refine cK 8 H ?_ ?_ <;> clear H
 ·intro p31
  have hk2:k < s.styles.length:=by omega
  obtain ⟨b',o',pA,pc,rfl,hrow,-,-⟩:=Bv hst hk2;have hq:=hrow 5 _ rfl;refine goB 13 ?_ ?_
  ·intro p41
   refine aJ 3 ?_;exact ⟨_,rfl⟩
  intro p41
  refine aj 5 ?_;intro a H;refine aI ?_;refine bR ((k+1)) sB ?_ ?_
  ·omega
  first|omega|(dsimp only;omega)
 intro p31
 refine aj 6 ?_;intro a H;refine dD (ι:=Nat) (Tc:=[(1,_)]) (Lc:=[]) (fun gh=>[(4,vi gh)]) (fun gh=>[]) (fun gh=>Ga) (fun gh=>gh≤s.lists.length) (fun gh=>s.lists.length - gh) (0) sB ?_ ?_
 ·exact eG _
 clear H;intro n a w hI H;have hn:=hI;dsimp only [lca,aQ] at H;refine cK 8 H ?_ ?_ <;> clear H
 ·intro p46
  have hn2:n < s.lists.length:=by omega
  obtain ⟨b',o',B,d,rfl,hrow,-⟩:=Ir wW hn2;have hq:=hrow 1 _ rfl;refine goB 13 ?_ ?_
  ·intro p56
   refine aJ 3 ?_;exact ⟨_,rfl⟩
  intro p56
  refine aj 5 ?_;intro a H;refine aI ?_;refine bR ((n+1)) sB ?_ ?_
  ·omega
  first|omega|(dsimp only;omega)
 intro p46
 refine aJ 4 ?_;exact ⟨_,rfl⟩
end
section
open Go.RowKit
end
section
open Go.RowKit
end
section
open Go.RowKit
def amE (t:Int) (a:Nat × av):Bool:=decide ((a.1:Int)+fK a.2≤t)
def lA (t:Int) (A:List (Nat × av)):List av:=(A.filter (amE t)).map (·.2)
end
section
open Go.RowKit
def Y8 (l:List av):Prop:=∀ (k:Nat) (h:k+1 < l.length),¬ (l[k].kind=1∧l[k+1].kind=1∧l[k].head=l[k+1].head)
theorem Y8.one {l:List av} (h:l.length≤1):Y8 l:=fun k hk=>by omega
end
section
open Go.RowKit
end
section
open Go.RowKit
end
section
open Go.RowKit
end
section
open Go.RowKit
theorem avK (l m:List av):aX (l++m)=aX l+aX m:=by simp [aX,NH]
end
section
open Go.RowKit
end
section
open Go.RowKit
end
section
open Go.RowKit
theorem Yp:∀ {m l:List av},m.Sublist l→aX m≤aX l
 | _,_,.slnil=>bX _
 | _,_,.cons a h=>by have:=Yp h;simp only [aX,dR,dY] at *;omega
 | _,_,.cons_cons a h=>by have:=Yp h;simp only [aX,dR,dY] at *;omega
end
section
open Go.RowKit
end
section
open Go.RowKit
structure Y9 where
 from_:Int
 to:Int
 mark:Bool
 props:List gB
def Y9.dat (a:Y9):List Dat:=[li a.from_,li a.to,.lf (.bool a.mark),.sl 2 (a.props.map gB.dat)]
end
section
open Go.RowKit
def Tw:aR:=.mk 0 hd0 []
def rw0:aS:=.mk hd0 [Tw]
end
section
open Go.RowKit
end
section
open Go.RowKit
theorem T9:∀ args w,(callFunc 39 args).run prog w=.ok (.enter 39 args) w:=enters func39 rfl (by kernel_rfl)
theorem alr:∀ args w,(callFunc 89 args).run prog w=.ok (.enter 89 args) w:=enters func89 rfl (by kernel_rfl)
theorem Es (n:Nat):0≤(n:Int).tdiv 8∧(n:Int).tdiv 8≤n:=by
 rw [Int.tdiv_eq_ediv_of_nonneg (by omega)];omega
abbrev rX (b:Nat) (n:Int):Nat × Obj:=(b,.cells #[vi n] 3 (0,0))
def SN (bl:Nat) (left:Int) (z:Nat) (u:ak) (_:GH) (L':OL):Prop:=∃ b lf,u=.bool b∧L'=[rX bl lf]∧left - 4*(z:Int)≤lf∧lf≤left
def Oh (n:Nat):Prop:=∀ (G:GH) (w0:World) (l:List av) (v:ak) (uO left:Int) (bl:Nat),fM G [rX bl left] w0→ay G (.sl 11 (l.map av.dat)) v→aX l < n→0≤uO→uO≤1000→left≤1000→-1000000000000≤left - 4*(aX l:Int) →
 Calls prog 39 #[v,vi uO,(aK bl 0)] w0 (fB w0 G [rX bl left] (SN bl left (aX l)))
theorem agz (l m:List aS):eD (l++m)=eD l+eD m:=by simp [eD,NH]
theorem agv (l m:List aR):gH (l++m)=gH l+gH m:=by simp [gH,NH]
theorem avL {l:List av} {k:Nat} (h:k < l.length):aX (l.take (k+1))=aX (l.take k)+(1+bM l[k].dat):=by rw [gI h,avK];simp [aX,dY]
theorem avM {l:List aS} {k:Nat} (h:k < l.length):eD (l.take (k+1))=eD (l.take k)+(1+bM l[k].dat):=by rw [gI h,agz];simp [eD,dY]
theorem avJ {l:List aR} {k:Nat} (h:k < l.length):gH (l.take (k+1))=gH (l.take k)+(1+bM l[k].dat):=by rw [gI h,agv];simp [gH,dY]
theorem agy (l:List av) (k:Nat):aX (l.take k)≤aX l:=Yp (List.take_sublist k l)
theorem agA (l:List aS) (k:Nat):eD (l.take k)≤eD l:=by
 have:=agz (l.take k) (l.drop k);rw [List.take_append_drop] at this;omega
theorem agx (l:List aR) (k:Nat):gH (l.take k)≤gH l:=by
 have:=agv (l.take k) (l.drop k);rw [List.take_append_drop] at this;omega
theorem aou {G:GH} {b o:Nat} {x q1 q2 q3 q4 q5 f:ak} (h:∀ j u,[x,q1,q2,q3,q4,q5,f][j]?=some u→aC G b (o+j)=some u):∀ j u,[q1,q2,q3,q4,q5][j]?=some u→aC G b (o+1+j)=some u:=by
 intro j u hj;rw [Nat.add_assoc,Nat.add_comm 1 j];refine h (j+1) u ?_
 match j,hj with
 | 0,hj=>exact hj
 | 1,hj=>exact hj
 | 2,hj=>exact hj
 | 3,hj=>exact hj
 | 4,hj=>exact hj
 | n+5,hj=>simp at hj
theorem aur {n:Nat} (ih:Oh n) (hn:n≤4294967296)
  (hrows:∀ (G:GH) (w0:World) (l:List aS) (v:ak) (uO left:Int) (bl:Nat),fM G [rX bl left] w0→ay G (.sl 6 (l.map aS.dat)) v→eD l < n→0≤uO→uO≤1000→left≤1000→-1000000000000≤left - 4*(eD l:Int) →
   Calls prog 89 #[v,vi uO,(aK bl 0)] w0 (fB w0 G [rX bl left] (SN bl left (eD l)))):Oh (n+1):=by
 intro G w0 l v uO left bl hO hv hz hl0 hl1 hf1 hf0;obtain ⟨A,c,rfl,hc1,hc2,hg⟩:=hv.slice;rw [bE] at *;have hll:=BG l;refine iM (N:=89) (T:=[(0,_),(1,_),(2,_)]) func39 rfl ntmps39 rfl rfl hO ?_;refine aj 8 ?_;intro a H;refine dD (ι:=Nat × Int × GH) (Tc:=[(0,_),(1,_),(2,_)]) (Lc:=[]) (fun gh=>[(7,vi gh.1)]) (fun gh=>[rX bl gh.2.1]) (fun gh=>gh.2.2) (fun gh=>gh.1≤l.length∧left - 4*(aX (l.take gh.1):Int)≤gh.2.1∧gh.2.1≤left∧(∀ b o,G b=some o→gh.2.2 b=some o)) (fun gh=>l.length - gh.1) ((0,left,G)) sB ?_ ?_
 ·exact ⟨by omega,by show left - 4*((0:Nat):Int)≤left;omega,Int.le_refl _,fun _ _ h=>h⟩
 clear H;rintro ⟨k,lf,g⟩ a w hI H;dsimp only at hI H;obtain ⟨hk,hlo,hhi,hgm⟩:=hI;have hzk:=agy l k;dsimp only [lca,aQ] at H;refine cK 7 H ?_ ?_ <;> clear H
 ·intro qg
  have hk2:k < l.length:=by omega
  obtain ⟨b,o,pA,pn,pc,dA,dn,dc,yA,yn,yc,fA,fn,fc,rA,rn,rc,rfl,hrow,hhd,hfl,hrw⟩:=AA hk2 hg;have r3:aC g b (o+k*11+3)=some (.string l[k].text):=aD hgm (hrow 3 _ rfl);have r4:aC g b (o+k*11+4+0)=some (.slice pA pn pc):=aD hgm (hrow 4 _ rfl);have r7:aC g b (o+k*11+4+1+2)=some (.slice dA dn dc):=aD hgm (hrow 7 _ rfl);have r8:aC g b (o+k*11+4+1+3)=some (.slice yA yn yc):=aD hgm (hrow 8 _ rfl);have r9:aC g b (o+k*11+9)=some (.slice fA fn fc):=aD hgm (hrow 9 _ rfl);have Rp:aC g b (o+k*11+10)=some (.slice rA rn rc):=aD hgm (hrow 10 _ rfl);have q1:=Es pn;have q2:=Es dn;have q3:=Es yn;have hzi:=pU l[k];have Wd:=BF l[k].head;have l1:=hhd.props.len;have l2:=hhd.bg.len;have l3:=hhd.layers.len;have m1:=lK (l[k].head.props.map gB.dat);have m2:=lK (l[k].head.marks.bg.map iK.dat);have m3:=lK (l[k].head.marks.layers.map iO.dat);have hzs:=avL hk2;have hzt:=agy l (k+1);refine aj 4 ?_;intro a H;refine dI hmx [[],[],[1],[1,2],[1,2,3],[],[],[5,6],[5,6,7],(ra 5 4),(ra 5 5),(ra 5 6),(ra 5 7),(ra 1 12),[],[],[14,15],[14,15,16],(ra 14 4),(ra 14 5),(ra 14 6),(ra 14 7),(ra 14 8),(ra 1 22),[],[],[24,25],[24,25,26],(ra 24 4),(ra 24 5),(ra 24 6),(ra 24 7),(ra 24 8),(ra 1 32),(ra 0 34),(ra 0 35)] [35] (by kernel_rfl) [_,_,_,vi lf,_,_,_,_,_,_,_,_,vi ((pn:Int).tdiv 8),_,_,_,_,_,_,_,_,_,vi ((dn:Int).tdiv 8),_,_,_,_,_,_,_,_,_,vi ((yn:Int).tdiv 8),_,_] H (aF (Z0 rfl (Rm rfl)) (Z0 rfl (Rm rfl)) (Z1 1 15 rfl (Rk rfl)) (Z1 2 16 rfl (Ro bC 0 rfl)) (aF (Z1 3 17 rfl (Rs rfl)) (Z0 rfl (Rm rfl)) (Z0 rfl (Rm rfl)) (Z2 5 19 6 20 rfl (Ri rR dU rfl rfl)) (aF (Z1 7 21 rfl (Rf DC rfl)) (Z1 8 22 rfl (Rf Ma rfl)) (X1 9 23 rfl fun hG=>Rg Et rfl (aD hG r4)) (Z1 10 24 rfl (Rl wu rfl)) (aF ?_ (Z2 4 18 12 26 rfl (Rs rfl)) (Z0 rfl (Rm rfl)) (Z0 rfl (Rm rfl)) (aF (Z2 14 28 15 29 rfl (Ri rR dU rfl rfl)) (Z1 16 30 rfl (Rf DC rfl)) (Z1 17 31 rfl (Rf Cb rfl)) (Z1 18 32 rfl (Rf zS rfl)) (aF (X1 19 33 rfl fun hG=>Rg Af rfl (aD hG r7)) (Z1 20 34 rfl (Rl wz rfl)) ?_ (Z2 13 27 22 36 rfl (Rs rfl)) (aF (Z0 rfl (Rm rfl)) (Z0 rfl (Rm rfl)) (Z2 24 38 25 39 rfl (Ri rR dU rfl rfl)) (Z1 26 40 rfl (Rf DC rfl)) (aF (Z1 27 41 rfl (Rf Cb rfl)) (Z1 28 42 rfl (Rf GV rfl)) (X1 29 43 rfl fun hG=>Rg IU rfl (aD hG r8)) (Z1 30 44 rfl (Rl yK rfl)) (aF ?_ (Z2 23 37 32 46 rfl (Rs rfl)) (Z1 0 14 rfl (Rk rfl)) (bS rfl) cZ))))))))) ?_
  ·refine dM 11 25 rfl rfl fun _ a w G1 hG HT H fin=>?_;refine Em _ H wn rfl rfl (by omega) rfl (by omega) (by omega) rfl ?_;clear H;intro a H;exact fin H iJ rfl
  ·refine dM 21 35 rfl rfl fun _ a w G1 hG HT H fin=>?_;refine Em _ H wn rfl rfl (by omega) rfl (by omega) (by omega) rfl ?_;clear H;intro a H;exact fin H iJ rfl
  ·refine dM 31 45 rfl rfl fun _ a w G1 hG HT H fin=>?_;refine Em _ H wn rfl rfl (by omega) rfl (by omega) (by omega) rfl ?_;clear H;intro a H;exact fin H iJ rfl
  clear H;intro a w G sI H hv;have H:=H.aV (hv 33 47 rfl rfl) rfl;have H:=H.aV (hv 34 48 rfl rfl) rfl;clear hv;refine bq bC 0 (vs:=[_]) _ H wn rfl rfl rfl rfl rfl rfl rfl rfl ?_;clear H;intro w H;dsimp only [List.set,setRow] at H;refine aI ⟨rfl,?_⟩;refine dW ?_;refine wT 6 53 H ?_ ?_ <;> clear H
  ·intro p53
   refine aj 40 ?_;intro a H;refine lr H results39 rfl ?_;exact H.hp.dO ⟨_,_,rfl,rfl,by omega,by omega⟩
  intro p53
  replace r3:=aD sI r3;replace r9:=aD sI r9;replace Rp:=aD sI Rp;refine iV 4 57 ?_ ?_
  ·intro h57
   try have p57:=dT h57
   refine aj 36 ?_;intro a H;refine lr H results39 rfl ?_;exact H.hp.dO ⟨_,_,rfl,rfl,by omega,by omega⟩
  intro h57
  try have p57:=dF h57
  refine aj 5 ?_;intro a H;refine Bt jl H (wg H rfl rfl h57) rfl rfl ?_;clear H;refine iV 3 66 ?_ ?_
  ·intro Ml
   try have p66:=dT Ml
   refine aj 27 ?_;intro a H;refine lr H results39 rfl ?_;exact H.hp.dO ⟨_,_,rfl,rfl,by omega,by omega⟩
  intro Ml
  try have p66:=dF Ml
  refine aj 6 ?_;intro a H;refine lC _ H (wg H rfl rfl Ml) rfl rfl rfl (by omega) (by omega) rfl ?_;clear H;refine aj 1 ?_;intro a H;refine fu T9 (Li:=[]) (L:=[rX bl _]) H (wg H rfl rfl Ml) rfl (ih _ _ l[k].flow _ (uO - 1) _ bl (Hp.owns (Li:=[]) H.hp) (hfl.mono fun b o h=>sI b o (hgm b o h)) (by omega) (by omega) (by omega) (by omega) (by omega)) rfl ?_;clear H;rintro v75 G75 L75 a w ⟨b75,lf75,rfl,rfl,awR,awM⟩ VD H;dsimp only [List.nil_append] at H;replace Rp:=aD VD Rp;refine jA 3 78 H ?_ ?_ <;> clear H
  ·intro PG
   try have Xe:=dT PG
   refine aj 15 ?_;intro a H;refine lr H results39 rfl ?_;exact H.hp.dO ⟨_,_,rfl,rfl,by omega,by omega⟩
  intro PG
  try have Xe:=dF PG
  refine aj 7 ?_;intro a H;refine fu alr (Li:=[]) (L:=[rX bl _]) H (wg H rfl rfl PG) rfl (hrows _ _ l[k].rows _ uO _ bl (Hp.owns (Li:=[]) H.hp) (hrw.mono fun b o h=>VD b o (sI b o (hgm b o h))) (by omega) (by omega) (by omega) (by omega) (by omega)) rfl ?_;clear H;rintro v86 G86 L86 a w ⟨b86,aqB,rfl,rfl,awS,awN⟩ aoQ H;dsimp only [List.nil_append] at H;refine eO 3 H ?_ ?_ <;> clear H
  ·intro Nu
   refine aj 3 ?_;intro a H;refine lr H results39 rfl ?_;exact H.hp.dO ⟨_,_,rfl,rfl,by omega,by omega⟩
  intro Nu
  refine aj 5 ?_;intro a H;refine aI ?_;refine bR ((k+1,aqB,G86)) sB ?_ ?_
  ·(try dsimp only);exact ⟨by omega,by omega,by omega,fun b o h=>aoQ b o (VD b o (sI b o (hgm b o h)))⟩
  first|omega|(dsimp only;omega)
 intro qg
 refine aj 4 ?_;intro a H;refine lr H results39 rfl ?_;exact H.hp.dO ⟨_,_,rfl,rfl,by omega,by omega⟩
theorem aut {n:Nat} (ih:Oh n) (hn:n≤4294967296) (G:GH) (w0:World) (l:List aS) (v:ak) (uO left:Int) (bl:Nat) (hO:fM G [rX bl left] w0) (hv:ay G (.sl 6 (l.map aS.dat)) v) (hz:eD l < n) (hl0:0≤uO) (hl1:uO≤1000) (hf1:left≤1000) (hf0:-1000000000000≤left - 4*(eD l:Int)) :
  Calls prog 89 #[v,vi uO,(aK bl 0)] w0 (fB w0 G [rX bl left] (SN bl left (eD l))):=by
 obtain ⟨A,c,rfl,hc1,hc2,hg⟩:=hv.slice;rw [bE] at *;have hll:=BH l;refine iM (N:=121) (T:=[(0,_),(1,_),(2,_)]) func89 rfl ntmps89 rfl rfl hO ?_;refine aj 8 ?_;intro a H;refine dD (ι:=Nat × Int × GH) (Tc:=[(0,_),(1,_),(2,_)]) (Lc:=[]) (fun gh=>[(7,vi gh.1)]) (fun gh=>[rX bl gh.2.1]) (fun gh=>gh.2.2) (fun gh=>gh.1≤l.length∧left - 4*(eD (l.take gh.1):Int)≤gh.2.1∧gh.2.1≤left∧(∀ b o,G b=some o→gh.2.2 b=some o)) (fun gh=>l.length - gh.1) ((0,left,G)) sB ?_ ?_
 ·exact ⟨by omega,by show left - 4*((0:Nat):Int)≤left;omega,Int.le_refl _,fun _ _ h=>h⟩
 clear H;rintro ⟨k,lf,g⟩ a w hI H;dsimp only at hI H;obtain ⟨hk,hlo,hhi,hgm⟩:=hI;have hzk:=agA l k;dsimp only [lca,aQ] at H;refine cK 7 H ?_ ?_ <;> clear H
 ·intro oJ
  have hk2:k < l.length:=by omega
  obtain ⟨b,o,pA,pn,pc,dA,dn,dc,yA,yn,yc,cA,cn,cc,rfl,hrow,hhd,hcl⟩:=Eh hk2 hg;have r0:aC g b (o+k*6+0+0)=some (.slice pA pn pc):=aD hgm (hrow 0 _ rfl);have r3:aC g b (o+k*6+0+1+2)=some (.slice dA dn dc):=aD hgm (hrow 3 _ rfl);have r4:aC g b (o+k*6+0+1+3)=some (.slice yA yn yc):=aD hgm (hrow 4 _ rfl);have r5:aC g b (o+k*6+5)=some (.slice cA cn cc):=aD hgm (hrow 5 _ rfl);have hcn:=hcl.len;rw [bE] at hcn;subst hcn;have hcc:=hcl.slice;have q1:=Es pn;have q2:=Es dn;have q3:=Es yn;have hzi:=tO l[k];have Wd:=BF l[k].head;have l1:=hhd.props.len;have l2:=hhd.bg.len;have l3:=hhd.layers.len;have m1:=lK (l[k].head.props.map gB.dat);have m2:=lK (l[k].head.marks.bg.map iK.dat);have m3:=lK (l[k].head.marks.layers.map iO.dat);have hzs:=avM hk2;have hzt:=agA l (k+1);have aom:=BD l[k].cells;refine aj 4 ?_;intro a H;refine dI hmx [[],[],[1],[1,2],[1,2,3],[],[],[5,6],[5,6,7],(ra 5 4),(ra 5 5),(ra 5 6),(ra 5 7),(ra 1 12),[],[],[14,15],[14,15,16],(ra 14 4),(ra 14 5),(ra 14 6),(ra 14 7),(ra 14 8),(ra 1 22),[],[],[24,25],[24,25,26],(ra 24 4),(ra 24 5),(ra 24 6),(ra 24 7),(ra 24 8),(ra 1 32),(ra 0 34),(ra 0 35)] [35] (by kernel_rfl) [_,_,_,vi lf,_,_,_,_,_,_,_,_,vi ((pn:Int).tdiv 8),_,_,_,_,_,_,_,_,_,vi ((dn:Int).tdiv 8),_,_,_,_,_,_,_,_,_,vi ((yn:Int).tdiv 8),_,_] H (aF (Z0 rfl (Rm rfl)) (Z0 rfl (Rm rfl)) (Z1 1 17 rfl (Rk rfl)) (Z1 2 18 rfl (Ro bC 0 rfl)) (aF (Z1 3 19 rfl (Rs rfl)) (Z0 rfl (Rm rfl)) (Z0 rfl (Rm rfl)) (Z2 5 21 6 22 rfl (Ri IV jw rfl rfl)) (aF (Z1 7 23 rfl (Rf Jw rfl)) (Z1 8 24 rfl (Rf Ma rfl)) (X1 9 25 rfl fun hG=>Rg Et rfl (aD hG r0)) (Z1 10 26 rfl (Rl wu rfl)) (aF ?_ (Z2 4 20 12 28 rfl (Rs rfl)) (Z0 rfl (Rm rfl)) (Z0 rfl (Rm rfl)) (aF (Z2 14 30 15 31 rfl (Ri IV jw rfl rfl)) (Z1 16 32 rfl (Rf Jw rfl)) (Z1 17 33 rfl (Rf Cb rfl)) (Z1 18 34 rfl (Rf zS rfl)) (aF (X1 19 35 rfl fun hG=>Rg Af rfl (aD hG r3)) (Z1 20 36 rfl (Rl wz rfl)) ?_ (Z2 13 29 22 38 rfl (Rs rfl)) (aF (Z0 rfl (Rm rfl)) (Z0 rfl (Rm rfl)) (Z2 24 40 25 41 rfl (Ri IV jw rfl rfl)) (Z1 26 42 rfl (Rf Jw rfl)) (aF (Z1 27 43 rfl (Rf Cb rfl)) (Z1 28 44 rfl (Rf GV rfl)) (X1 29 45 rfl fun hG=>Rg IU rfl (aD hG r4)) (Z1 30 46 rfl (Rl yK rfl)) (aF ?_ (Z2 23 39 32 48 rfl (Rs rfl)) (Z1 0 16 rfl (Rk rfl)) (bS rfl) cZ))))))))) ?_
  ·refine dM 11 27 rfl rfl fun _ a w G1 hG HT H fin=>?_;refine Em _ H wn rfl rfl (by omega) rfl (by omega) (by omega) rfl ?_;clear H;intro a H;exact fin H iJ rfl
  ·refine dM 21 37 rfl rfl fun _ a w G1 hG HT H fin=>?_;refine Em _ H wn rfl rfl (by omega) rfl (by omega) (by omega) rfl ?_;clear H;intro a H;exact fin H iJ rfl
  ·refine dM 31 47 rfl rfl fun _ a w G1 hG HT H fin=>?_;refine Em _ H wn rfl rfl (by omega) rfl (by omega) (by omega) rfl ?_;clear H;intro a H;exact fin H iJ rfl
  clear H;intro a w G sI H hv;have H:=H.aV (hv 33 49 rfl rfl) rfl;have H:=H.aV (hv 34 50 rfl rfl) rfl;clear hv;refine bq bC 0 (vs:=[_]) _ H wn rfl rfl rfl rfl rfl rfl rfl rfl ?_;clear H;intro w H;dsimp only [List.set,setRow] at H;refine aI ⟨rfl,?_⟩;refine dW ?_;refine Jy ?_;obtain ⟨lf1,aoG⟩:∃ x,x=lf - 1 - (pn:Int).tdiv 8 - (dn:Int).tdiv 8 - (yn:Int).tdiv 8:=⟨_,rfl⟩;rw [← aoG] at H;have MK:∀ b o,g b=some o→G b=some o:=sI;obtain ⟨g1,hg1⟩:∃ x,x=G:=⟨_,rfl⟩;rw [← hg1] at H MK;refine dG 4 H ?_;clear H;intro a H;refine dD (ι:=Nat × Int × GH) (Tc:=[(0,_),(1,_),(2,_),(7,_)]) (Lc:=[]) (fun gh=>[(8,vi gh.1)]) (fun gh=>[rX bl gh.2.1]) (fun gh=>gh.2.2) (fun gh=>gh.1≤l[k].cells.length∧lf1 - 4*(gH (l[k].cells.take gh.1):Int)≤gh.2.1∧gh.2.1≤lf1∧(∀ b o,g b=some o→gh.2.2 b=some o)) (fun gh=>l[k].cells.length - gh.1) ((0,lf1,g1)) sB ?_ ?_
  ·exact ⟨by omega,by show lf1 - 4*((0:Nat):Int)≤lf1;omega,Int.le_refl _,MK⟩
  clear H;rintro ⟨j,lf2,g2⟩ a w hI H;dsimp only at hI H;obtain ⟨hj,hlo2,hhi2,pz⟩:=hI;have jI:=fun b o h=>pz b o (hgm b o h);have axe:=agx l[k].cells j;replace r5:=aD pz r5;dsimp only [lca,aQ] at H;refine cK 11 H ?_ ?_ <;> clear H
  ·intro p58
   have hj2:j < l[k].cells.length:=by omega
   obtain ⟨b2,o2,qA,qn,qc,eA,en,ec,zA,zn,zc,fA,fn,fc,rfl,hrow2,MO,Vt⟩:=BR hj2 hcl.at_;have t2:aC g2 b2 (o2+j*7+6)=some (.slice fA fn fc):=aD jI (hrow2 6 _ rfl);have p1:=Es qn;have p2:=Es en;have p3:=Es zn;have apS:=uZ l[k].cells[j];have axd:=BF l[k].cells[j].head;have l4:=MO.props.len;have l5:=MO.bg.len;have l6:=MO.layers.len;have m4:=lK (l[k].cells[j].head.props.map gB.dat);have m5:=lK (l[k].cells[j].head.marks.bg.map iK.dat);have m6:=lK (l[k].cells[j].head.marks.layers.map iO.dat);have apT:=avJ hj2;have axg:=agx l[k].cells (j+1);refine aj 12 ?_;intro a H;refine aT gG (cs:=[.slice qA qn qc,vi l[k].cells[j].head.marks.ins,vi l[k].cells[j].head.marks.move,.slice eA en ec,.slice zA zn zc]) H wn rfl rfl (fun i v hi=>H.hp.aC (aD jI (aou hrow2 i v hi))) rfl ?_;clear H;intro a H;refine dx gG H wn rfl ?_;clear H;intro b9 a w qE H;refine bq gG 0 (vs:=[_,_,_,_,_]) _ H wn rfl rfl rfl rfl rfl rfl rfl rfl ?_;clear H;intro w H;dsimp only [List.set,setRow] at H;refine aH 2 H ?_;clear H;intro a H;refine dI hmx [[],[],[1],[1,2],[1,2,3],[],[5],[5,6],[5,6,7],(ra 1 8),[],[10],[10,11],[10,11,12],(ra 10 4),(ra 1 14),[],[16],[16,17],[16,17,18],(ra 16 4),(ra 1 20),(ra 0 22),(ra 0 23)] [23] (by kernel_rfl) [_,_,_,vi lf2,_,_,.slice qA qn qc,_,vi ((qn:Int).tdiv 8),_,_,_,.slice eA en ec,_,vi ((en:Int).tdiv 8),_,_,_,.slice zA zn zc,_,vi ((zn:Int).tdiv 8),_,_] H (aF (Z0 rfl (Rm rfl)) (Z0 rfl (Rm rfl)) (Z1 1 71 rfl (Rk rfl)) (Z1 2 72 rfl (Ro bC 1 rfl)) (aF (Z1 3 73 rfl (Rs rfl)) (Z0 rfl (Rf Ma rfl)) (Z1 5 75 rfl (Ro Et 0 rfl)) (Z1 6 76 rfl (Rl wu rfl)) (aF ?_ (Z2 4 74 8 78 rfl (Rs rfl)) (Z0 rfl (Rf Cb rfl)) (Z1 10 80 rfl (Rf zS rfl)) (aF (Z1 11 81 rfl (Ro Af 0 rfl)) (Z1 12 82 rfl (Rl wz rfl)) ?_ (Z2 9 79 14 84 rfl (Rs rfl)) (aF (Z0 rfl (Rf Cb rfl)) (Z1 16 86 rfl (Rf GV rfl)) (Z1 17 87 rfl (Ro IU 0 rfl)) (Z1 18 88 rfl (Rl yK rfl)) (aF ?_ (Z2 15 85 20 90 rfl (Rs rfl)) (Z1 0 70 rfl (Rk rfl)) (bS rfl) cZ)))))) ?_
   ·refine dM 7 77 rfl rfl fun _ a w G1 hG HT H fin=>?_;refine Em _ H wn rfl rfl (by omega) rfl (by omega) (by omega) rfl ?_;clear H;intro a H;exact fin H iJ rfl
   ·refine dM 13 83 rfl rfl fun _ a w G1 hG HT H fin=>?_;refine Em _ H wn rfl rfl (by omega) rfl (by omega) (by omega) rfl ?_;clear H;intro a H;exact fin H iJ rfl
   ·refine dM 19 89 rfl rfl fun _ a w G1 hG HT H fin=>?_;refine Em _ H wn rfl rfl (by omega) rfl (by omega) (by omega) rfl ?_;clear H;intro a H;exact fin H iJ rfl
   clear H;intro a w G E8 H hv;have H:=H.aV (hv 21 91 rfl rfl) rfl;have H:=H.aV (hv 22 92 rfl rfl) rfl;clear hv;refine bq bC 1 (vs:=[_]) _ H wn rfl rfl rfl rfl rfl rfl rfl rfl ?_;clear H;intro w H;dsimp only [List.set,setRow] at H;refine aI ⟨rfl,?_⟩;refine dW ?_;refine wT 6 97 H ?_ ?_ <;> clear H
   ·intro p97
    refine aj 24 ?_;intro a H;refine lr H results89 rfl ?_;exact H.hp.bU (L':=[rX bl _]) (by repeat (first|exact bZ _|apply List.Sublist.cons)) ⟨_,_,rfl,rfl,by omega,by omega⟩
   intro p97
   replace r5:=aD E8 r5;replace t2:=aD E8 t2;refine iV 4 101 ?_ ?_
   ·intro Mf
    try have Nn:=dT Mf
    refine aj 20 ?_;intro a H;refine lr H results89 rfl ?_;exact H.hp.bU (L':=[rX bl _]) (by repeat (first|exact bZ _|apply List.Sublist.cons)) ⟨_,_,rfl,rfl,by omega,by omega⟩
   intro Mf
   try have Nn:=dF Mf
   refine aj 10 ?_;intro a H;refine lC _ H (wg H rfl rfl Mf) rfl rfl rfl (by omega) (by omega) rfl ?_;clear H;refine aj 1 ?_;intro a H;refine fu T9 (Li:=[_]) (L:=[rX bl _]) (H.bY (Pl:=[_,_]) (bT:=[_,_]) [0,1] (by decide) rfl) (wg H rfl rfl Mf) rfl (ih _ _ l[k].cells[j].flow _ (uO - 1) _ bl (Hp.owns (Li:=[_]) (H.bY (Pl:=[_,_]) (bT:=[_,_]) [0,1] (by decide) rfl).hp) (Vt.mono fun b o h=>E8 b o (jI b o h)) (by omega) (by omega) (by omega) (by omega) (by omega)) rfl ?_;clear H;rintro axr agG avV a w ⟨avX,lf3,rfl,rfl,hlo3,hhi3⟩ aoK H;dsimp only [lca,aQ] at H;refine eO 3 H ?_ ?_ <;> clear H
   ·intro Q0
    refine aj 3 ?_;intro a H;refine lr H results89 rfl ?_;exact H.hp.bU (L':=[rX bl _]) (by repeat (first|exact bZ _|apply List.Sublist.cons)) ⟨_,_,rfl,rfl,by omega,by omega⟩
   intro Q0
   refine aj 5 ?_;intro a H;refine aI ?_;refine bR ((j+1,lf3,agG)) (by exact (H.bY (Pl:=[_,_]) (bT:=[_]) [1] (by decide) rfl).sub ⟨rfl,rfl,rfl,rfl,rfl,aY⟩) ?_ ?_
   ·(try dsimp only);exact ⟨by omega,by omega,by omega,fun b o h=>aoK b o (E8 b o (pz b o h))⟩
   first|omega|(dsimp only;omega)
  intro p58
  refine goB 7 ?_ ?_
  ·intro Fz
   refine aj 3 ?_;intro a H;refine lr H results89 rfl ?_;exact H.hp.bU (L':=[rX bl _]) (by repeat (first|exact bZ _|apply List.Sublist.cons)) ⟨_,_,rfl,rfl,by omega,by omega⟩
  intro Fz
  refine aj 5 ?_;intro a H;refine aI ?_;refine bR ((k+1,lf2,g2)) sB ?_ ?_
  ·(try dsimp only);exact ⟨by omega,by omega,by omega,jI⟩
  first|omega|(dsimp only;omega)
 intro oJ
 refine aj 4 ?_;intro a H;refine lr H results89 rfl ?_;exact H.hp.bU (L':=[rX bl _]) (by repeat (first|exact bZ _|apply List.Sublist.cons)) ⟨_,_,rfl,rfl,by omega,by omega⟩
theorem XK:∀ n:Nat,n≤4294967296→Oh n
 | 0,_=>fun _ _ _ _ _ _ _ _ _ hz=>absurd hz (Nat.not_lt_zero _)
 | n+1,h=>aur (XK n (by omega)) (by omega) (fun G w0 l v uO left bl hO hv hz h1 h2 h3 h4=>aut (XK n (by omega)) (by omega) G w0 l v uO left bl hO hv hz h1 h2 h3 h4)
theorem aus (G:GH) (w0:World) (hG:Hold G w0) (l:List av) (v:ak) (hv:ay G (.sl 11 (l.map av.dat)) v) (hz:aX l≤1073741824) :
  Calls prog 10 #[v] w0 (bB w0 G fun u G'=>∃ b,u=.bool b):=by
 refine eN [(0,_)] func10 rfl ntmps10 rfl rfl hG ?_;refine aj 4 ?_;intro a H;refine dx bC H wn rfl ?_;clear H;intro b3 a w hb3 H;refine bq bC 0 (vs:=[_]) _ H wn rfl rfl rfl rfl rfl rfl rfl rfl ?_;clear H;intro w H;dsimp only [List.set,setRow] at H;refine aH 3 H ?_;clear H;intro a H;refine fu T9 (Li:=[]) (L:=[rX b3 300]) H wn rfl (XK 4294967296 (bX _) _ _ l v 12 300 b3 (Hp.owns (Li:=[]) H.hp) hv (by omega) (by decide) (by decide) (by decide) (by omega)) rfl ?_;clear H;rintro v5 G5 L5 a w ⟨b5,lf5,rfl,rfl,-,-⟩ Qh H;refine gK 2 H ?_;exact ⟨_,rfl⟩
end
section
open Go.RowKit
theorem akW:∀ args w,(callFunc 40 args).run prog w=.ok (.enter 40 args) w:=enters func40 rfl (by kernel_rfl)
theorem auD:sV prog 56 [(0,11),(11,1),(12,1),(13,1)] [.slice none 0 0,.slice none 0 0,.int .i64 0,.int .i64 0,.slice none 0 0,.slice none 0 0,.slice none 0 0,.slice none 0 0,.slice none 0 0,.slice none 0 0,.slice none 0 0,.slice none 0 0,.slice none 0 0,.int .i64 0]:=⟨by kernel_rfl,by kernel_rfl⟩
theorem ajh:∀ args w,(callFunc 10 args).run prog w=.ok (.enter 10 args) w:=enters func10 rfl (by kernel_rfl)
theorem akV:∀ args w,(callFunc 38 args).run prog w=.ok (.enter 38 args) w:=enters func38 rfl (by kernel_rfl)
theorem aqL (G:GH) (w0:World) (hG:Hold G w0) (D:gM) (d:iW) (hR:mJ G D d) (hz:zJ d) :
  Calls prog 11 #[D.val] w0 (bB w0 G fun u G'=>u=vi (gJ d)):=by
 obtain ⟨df,dp,dd,dy,⟨rA,rn,rc⟩,d1,d2,d3,d4,ins,mv⟩:=D;obtain ⟨hfl,hhd,hin,hmv,jO,hst⟩:=hR;dsimp only at hfl hhd hin hmv jO hst;subst hin;subst hmv;obtain ⟨zf,zh,zr,zt,zs,zg⟩:=hz;have hdl:=hhd.bg.len;rw [bE] at hdl
 have hdn:d.fin.marks.bg.length≤4294967296:=by
  have h1:=BF d.fin;have h2:=lK (d.fin.marks.bg.map iK.dat);rw [bE] at h2;omega
 have hrl:=jO.len;rw [bE] at hrl;dsimp only at hrl;subst hrl;refine eN [(0,_)] func11 rfl ntmps11 rfl rfl hG ?_;refine aj 1 ?_;intro a H;refine dN (cs:=[_,_,_,_,_,_,_,_,_,_,_]) H wn rfl rfl rfl ?_;clear H;intro b1 a w hb1 H;refine aH 3 H ?_;clear H;intro a H;obtain ⟨Ga,hma,hb1',H⟩:=H.dS;have hgs:=fun j v hj=>nE hb1' 7 [aM d1,aM d2,aM d3,aM d4] rfl j v hj;have hgh:=fun j v hj=>nE hb1' 1 [aM dp,vi d.fin.marks.ins,vi d.fin.marks.move,aM dd,aM dy] rfl j v hj;have hgm:=fun j v hj=>nE hb1' 2 [vi d.fin.marks.ins,vi d.fin.marks.move,aM dd,aM dy] rfl j v hj
 have hgr:aC Ga b1 6=some (.slice rA d.revs.length rc):=by unfold aC;rw [hb1'];rfl
 have hgf:aC Ga b1 0=some (aM df):=by unfold aC;rw [hb1'];rfl
 have hga:=fun j v hj=>nE hb1' 0 [aM df,aM dp,vi d.fin.marks.ins,vi d.fin.marks.move,aM dd,aM dy,.slice rA d.revs.length rc,aM d1,aM d2,aM d3,aM d4] rfl j v hj;replace hfl:=hfl.mono hma;replace hhd:=hhd.mono hma;replace jO:=jO.mono hma;replace hst:=hst.mono hma;refine dG 2 H ?_;clear H;intro a H;refine aT Ag (cs:=[aM d1,aM d2,aM d3,aM d4]) H wn rfl rfl (fun j v hj=>H.hp.aC (hgs j v hj)) rfl ?_;clear H;intro a H;refine s_call akW H wn rfl (ari _ _ H.ro d.iD _ _ _ _ hst zg) rfl ?_;clear H;rintro v13 oh a w rfl kV H;refine eO 6 H ?_ ?_ <;> clear H
 ·intro mE
  have e:gJ d=jU d.iD:=by rw [gJ,bP,bP,au mE,au mE]
  refine aJ 4 ?_;exact (aB vi e.symm)
 intro mE
 have e1:jU d.iD=0:=fD.1 mE
 have hE1:gJ d=bP [uq d.revs,bP [eH d.jN 3 d.fin,bK (qI d.fin.marks) 21],(fP d.jN true false 0 d.flow ⟨0,[]⟩).1,bK (decide (16384 < (fP d.jN true false 0 d.flow ⟨0,[]⟩).2.n)) 9]:=by
  rw [gJ,iF e1,Cg]
 replace hgr:=aD kV hgr;replace jO:=jO.mono kV;refine goB 8 ?_ ?_
 ·intro pJ
  have e:gJ d=9:=by
   have h:uq d.revs=9:=QL (m:=256) (by omega);rw [hE1,wP (by rw [h];decide),h]
  refine aJ 3 ?_;exact (aB vi e.symm)
 intro pJ
 have hRv:uq d.revs=fV (wh d.revs) d.revs.length:=QK (m:=256) (by omega);refine aj 6 ?_;intro a H;refine dD (ι:=Nat × GH) (Tc:=[(1,_)]) (Lc:=[]) (fun gh=>[(4,vi gh.1)]) (fun gh=>[]) (fun gh=>gh.2) (fun gh=>gh.1≤d.revs.length∧bP (((List.range d.revs.length).map (wh d.revs)).drop gh.1)=fV (wh d.revs) d.revs.length∧(∀ b o,oh b=some o→gh.2 b=some o)) (fun gh=>d.revs.length - gh.1) ((0,oh)) sB ?_ ?_
 ·exact ⟨eG _,rfl,fun _ _ h=>h⟩
 clear H;rintro ⟨k,g⟩ a w hI H;dsimp only at hI H;obtain ⟨hk,he,pz⟩:=hI;have aoB:=aD pz hgr;have acL:=jO.mono pz;dsimp only [lca,aQ] at H;refine cK 8 H ?_ ?_ <;> clear H
 ·intro p25
  have hk2:k < d.revs.length:=by omega
  have hk1:k - 1 < d.revs.length:=by omega
  obtain ⟨lb,lo,rfl,hrow⟩:=FH acL hk2;obtain ⟨_,_,HY,hrow'⟩:=FH acL hk1
  intro a H;injection HY with HY
  injection HY with LW e2'
  subst LW;subst e2';have hte:=zt _ (iq hk2);obtain ⟨x,hx⟩:∃ x,x=d.revs[k]:=⟨_,rfl⟩
  have hek:wh d.revs k=Km d.revs k x:=by unfold wh;rw [dV hk2,hx]
  unfold Km at hek
  have hinc:xq x.id d.revs[k - 1].id (decide ((k:Int)=0))=jJ (fun k=>(d.revs[k]?.map bD.id).getD 0) k:=by
   rw [← Wp];(try dsimp only);rw [dV hk2,dV hk1,hx];simp
  rw [← hx] at hrow hte
  have Qs:∀ e,wh d.revs k=e→e≠0→gJ d=e:=fun e h1 h2=>by
   have h3:uq d.revs=e:=by rw [hRv,yR hk2 he (by rw [h1];exact h2),h1]
   rw [hE1,wP (by rw [h3];exact h2),h3]
  refine dG 8 H ?_;clear H;intro a H;refine aT mF (cs:=x.cells) H wn rfl rfl (fun j v hj=>H.hp.aC (hrow j v hj)) rfl ?_;clear H;intro a H;refine dx mF H wn rfl ?_;clear H;intro b5 a w hb5 H;refine bq mF 0 (vs:=[_,_,_]) _ H wn rfl rfl rfl rfl rfl rfl rfl rfl ?_;clear H;intro w H;dsimp only [List.set,setRow] at H;refine aH 3 H ?_;clear H;intro a H;refine dI hmx [[],[0],[],[2],[],[4],[4,5],(ra 2 5),(ra 2 6),(ra 2 7),[],[10],(ra 0 12),(ra 0 13)] [13] (by kernel_rfl) [_,vi x.id,_,_,_,_,vi ((k - 1:Nat):Int),_,_,_,_,_,vi (jJ (fun k=>(d.revs[k]?.map bD.id).getD 0) k)] H (aF (Z0 rfl (Rf Ur rfl)) (Z1 0 33 rfl (Ro bC 0 rfl)) (Z0 rfl (Rf O6 rfl)) (X1 2 35 rfl fun hG=>Rg uW rfl (aD hG aoB)) (aF (Z0 rfl (Rm rfl)) (Z1 4 37 rfl (Rs rfl)) ?_ (Z2 3 36 6 39 rfl (Ri uX mF rfl rfl)) (aF (Z1 7 40 rfl (Rf Ur rfl)) (X1 8 41 rfl fun hG=>Rg bC rfl (aD hG (hrow' 0 _ rfl))) (Z0 rfl (Rm rfl)) (Z1 10 43 rfl (Rc rfl)) (aW ?_ (aW (bS rfl) cZ))))) ?_
  ·refine dM 5 38 rfl rfl fun _ a w G1 hG HT H fin=>?_;refine FJ H wn rfl rfl rfl ?_;clear H;intro a H;exact fin H iJ (aB vi (by omega))
  ·refine tQ 1 34 9 42 11 44 rfl rfl fun _ a w G1 hG HT H fin=>?_;refine s_call Ua H wn rfl (Wq _ _ H.ro x.id d.revs[k - 1].id (decide ((k:Int)=0))) rfl ?_;clear H;rintro v45 G45 a w ⟨rfl,-⟩ anm H;exact fin H anm (aB vi hinc)
  clear H;intro a w G nV H hv;have H:=H.aV (hv 12 45 rfl rfl) rfl;clear hv;refine t1 6 H ?_;clear H;refine goB 0 ?_ ?_
  ·intro p47
   have e:gJ d=jJ (fun k=>(d.revs[k]?.map bD.id).getD 0) k:=Qs _ (by rw [hek,wP p47]) p47;refine aJ 4 ?_;exact (aB vi e.symm)
  intro p47
  refine aj 5 ?_;intro a H;refine s_call aaG H wn rfl (Zf _ _ H.ro x.author hte) rfl ?_;clear H;rintro v52 _ a w ⟨rfl,rfl⟩ - H;refine fE 3 H ?_ ?_ <;> clear H
  ·intro xY
   have e:gJ d=39:=Qs _ (by rw [hek,iF (fD.1 p47),show (!oq x.author)=true from xY];rfl) (by decide);refine aJ 3 ?_;exact (aB vi e.symm)
  intro xY
  try have p49:=dF xY
  have FX:bK (!oq x.author) 39=0:=by rw [show (!oq x.author)=false from xY];rfl
  refine gV 5 58 ?_ ?_
  ·intro p58
   refine aj 7 ?_;have e:gJ d=40:=Qs _ (by rw [hek,iF (fD.1 p47),iF FX,gD (by omega)];rfl) (by decide);refine aJ 3 ?_;exact (aB vi e.symm)
  intro p58
  refine goB 6 ?_ ?_
  ·intro p54
   have e:gJ d=40:=Qs _ (by rw [hek,iF (fD.1 p47),iF FX,gD (by omega)];rfl) (by decide);refine aJ 3 ?_;exact (aB vi e.symm)
  intro p54
  have Sc:bK (!decide (0≤x.time∧x.time≤1099511627776)) 40=0:=by rw [eZ (by omega)];rfl
  refine aj 5 ?_;intro a H;refine aI ?_;refine bR ((k+1,_)) (by exact (H.bY (Pl:=[_]) (bT:=[]) [] (by decide) rfl).sub ⟨rfl,rfl,aY⟩) ?_ ?_
  ·(try dsimp only);exact ⟨by omega,Oo hk2 he (by rw [hek,iF (fD.1 p47),iF FX,iF Sc];rfl),fun b o h=>nV b o (pz b o h)⟩
  first|omega|(dsimp only;omega)
 intro p25
 have anF:uq d.revs=0:=by rw [hRv,Om (by omega) he]
 rw [iF anF] at hE1;have hgg:∀ b o,Ga b=some o→g b=some o:=fun b o h=>pz b o (kV b o h);replace hhd:=hhd.mono hgg;replace hfl:=hfl.mono hgg;have hmk:BJ [] (.slice none 0 0) g ⟨df,dp,dd,dy,⟨rA,d.revs.length,rc⟩,d1,d2,d3,d4,d.fin.marks.ins,d.fin.marks.move⟩ d.iD.styles d.iD.lists d.revs:=⟨hst.st.mono hgg,hst.li.mono hgg,jO.mono pz,ay.jB rfl (by decide)⟩;have hmz:Gy d.iD.styles d.iD.lists d.revs:=⟨afw (lF e1 _ gP),zs,zg.ln,zr⟩;have awL:=aD hgg hgf;refine aj 2 ?_;intro a H;refine aT iY H wn rfl rfl (fun j v hj=>H.hp.aC (aD hgg (hga j v hj))) rfl ?_;clear H;intro a H;refine jZ auD [_,_,_,_,_,_,_,_,_,_,_,_,_,_] H wn rfl rfl rfl rfl ?_;clear H;intro a H;refine dN (cs:=[_,_,_,_,_,_,_,_,_,_,_,_,_,_]) H wn rfl rfl rfl ?_;clear H;intro Ot a w awv H;refine aH 6 H ?_;clear H;intro a H;refine aT gG (cs:=[aM dp,vi d.fin.marks.ins,vi d.fin.marks.move,aM dd,aM dy]) H wn rfl rfl (fun j v hj=>H.hp.aC (aD hgg (hgh j v hj))) rfl ?_;clear H;intro a H;refine fu OV (Li:=[]) (L:=[iC (.slice none 0 0) ⟨df,dp,dd,dy,⟨rA,d.revs.length,rc⟩,d1,d2,d3,d4,d.fin.marks.ins,d.fin.marks.move⟩ Ot (.slice none 0 0) 0]) H wn rfl (QS _ _ _ _ _ _ _ Ot (.slice none 0 0) 0 hmk hmz (Hp.owns (Li:=[]) H.hp) 3 d.fin _ _ _ hhd zh) rfl ?_;clear H;rintro v69 _ _ a w ⟨rfl,rfl,rfl⟩ - H;dsimp only [List.nil_append] at H;refine eO 6 H ?_ ?_ <;> clear H
 ·intro p71
  have e:gJ d=eH d.jN 3 d.fin:=by rw [hE1,wP p71,wP p71]
  refine aJ 4 ?_;exact (aB vi e.symm)
 intro p71
 rw [iF (fD.1 p71),Cg] at hE1;refine aj 5 ?_;intro a H;refine aT xE (cs:=[vi d.fin.marks.ins,vi d.fin.marks.move,aM dd,aM dy]) H wn rfl rfl (fun j v hj=>H.hp.aC (aD hgg (hgm j v hj))) rfl ?_;clear H;intro a H;refine dx xE H wn rfl ?_;clear H;intro b9 a w qE H;refine bq xE 0 (vs:=[_,_,_,_]) _ H wn rfl rfl rfl rfl rfl rfl rfl rfl ?_;clear H;intro w H;dsimp only [List.set,setRow] at H;refine ku 6 79 H ?_ ?_ <;> clear H
 ·intro zq
  refine aj 12 ?_
  have e:gJ d=21:=by
   have h:qI d.fin.marks=true:=eZ (by simp_all);rw [hE1,h];rfl
  refine aJ 3 ?_;exact (aB vi e.symm)
 intro zq
 refine gV 5 84 ?_ ?_
 ·intro Xf
  refine aj 7 ?_
  have e:gJ d=21:=by
   have h:qI d.fin.marks=true:=eZ (by simp_all);rw [hE1,h];rfl
  refine aJ 3 ?_;exact (aB vi e.symm)
 intro Xf
 refine goB 6 ?_ ?_
 ·intro p89
  have e:gJ d=21:=by
   have h:qI d.fin.marks=true:=eZ (by simp_all);rw [hE1,h];rfl
  refine aJ 3 ?_;exact (aB vi e.symm)
 intro p89
 have hmb:qI d.fin.marks=false:=gD (by simp_all);rw [hmb,iF (show bK false 21=0 from rfl)] at hE1;refine aj 6 ?_;intro a H;refine fu TS (Li:=[_]) (L:=[iC (.slice none 0 0) ⟨df,dp,dd,dy,⟨rA,d.revs.length,rc⟩,d1,d2,d3,d4,d.fin.marks.ins,d.fin.marks.move⟩ Ot (.slice none 0 0) 0]) H wn rfl (adS 4294967297 (by omega) _ _ [] _ _ _ _ _ Ot _ ⟨0,[]⟩ d.flow _ true false 0 hmk hmz ⟨[],rfl,cB.nil⟩ (Hp.owns (Li:=[_]) H.hp) hfl (by omega) (by omega) (by omega) (by decide) (by dsimp only;omega) (by dsimp only [List.length_nil];omega)) rfl ?_;clear H;rintro v93 _ _ a w ⟨rfl,v5,L5,s5,rfl,rfl,hv5,h5⟩ - H;dsimp only [lca,aQ] at H;refine eO 6 H ?_ ?_ <;> clear H
 ·intro Ed
  have e:gJ d=(fP d.jN true false 0 d.flow ⟨0,[]⟩).1:=by rw [hE1,wP Ed]
  refine aJ 4 ?_;exact (aB vi e.symm)
 intro Ed
 rw [iF (fD.1 Ed),Cg] at hE1;have hs5:=h5 (fD.1 Ed);subst hs5;refine goB 9 ?_ ?_
 ·intro Nn
  have e:gJ d=9:=by rw [hE1,eZ Nn];rfl
  refine aJ 3 ?_;exact (aB vi e.symm)
 intro Nn
 refine aj 1 ?_
 have e:gJ d=0:=by rw [hE1,gD Nn];rfl
 refine aJ 3 ?_;exact (aB vi e.symm)
theorem auq (G:GH) (w0:World) (hG:Hold G w0) (D:gM) (d:iW) (hR:mJ G D d) (hz:zJ d) :
  Calls prog 9 #[D.val] w0 (bB w0 G fun u G'=>∃ b,u=.bool b):=by
 obtain ⟨df,dp,dd,dy,dr,d1,d2,d3,d4,ins,mv⟩:=D;obtain ⟨hfl,hhd,hin,hmv,jO,hst⟩:=hR;dsimp only at hfl hhd hin hmv jO hst;subst hin;subst hmv;refine eN [(0,_)] func9 rfl ntmps9 rfl rfl hG ?_;refine aj 1 ?_;intro a H;refine dN (cs:=[_,_,_,_,_,_,_,_,_,_,_]) H wn rfl rfl rfl ?_;clear H;intro b1 a w hb1 H;refine aH 2 H ?_;clear H;intro a H;obtain ⟨Ga,hma,hb1',H⟩:=H.dS;have hgs:=fun j v hj=>nE hb1' 7 [aM d1,aM d2,aM d3,aM d4] rfl j v hj;have hgh:=fun j v hj=>nE hb1' 1 [aM dp,vi d.fin.marks.ins,vi d.fin.marks.move,aM dd,aM dy] rfl j v hj
 have hgr:aC Ga b1 6=some (aM dr):=by unfold aC;rw [hb1'];rfl
 have hgf:aC Ga b1 0=some (aM df):=by unfold aC;rw [hb1'];rfl
 replace hfl:=hfl.mono hma;replace hst:=hst.mono hma;refine dG 2 H ?_;clear H;intro a H;refine aT gG (cs:=[aM dp,vi d.fin.marks.ins,vi d.fin.marks.move,aM dd,aM dy]) H wn rfl rfl (fun j v hj=>H.hp.aC (hgh j v hj)) rfl ?_;clear H;intro a H;refine dx gG H wn rfl ?_;clear H;intro b3 a w hb3 H;refine bq gG 0 (vs:=[_,_,_,_,_]) _ H wn rfl rfl rfl rfl rfl rfl rfl rfl ?_;clear H;intro w H;dsimp only [List.set,setRow] at H;refine aH 4 H ?_;clear H;intro a H;refine s_call ajh H wn rfl (aus _ _ H.ro d.flow _ hfl hz.fl) rfl ?_;clear H;rintro v8 G8 a w ⟨b8,rfl⟩ sK H;refine jA 1 9 H ?_ ?_ <;> clear H
 ·intro h9
  refine aj 1 ?_;intro a H;refine aT Ag (cs:=[aM d1,aM d2,aM d3,aM d4]) H (wg H rfl rfl h9) rfl rfl (fun j v hj=>H.hp.aC (aD sK (hgs j v hj))) rfl ?_;clear H;intro a H;refine s_call akV H (wg H rfl rfl h9) rfl (auu _ _ H.ro d.iD _ _ _ _ (hst.mono sK) hz.sn hz.st) rfl ?_;clear H;rintro v12 C9 a w ⟨b12,rfl⟩ A9 H;replace hgr:=aD A9 (aD sK hgr);refine ku 2 14 H ?_ ?_ <;> clear H
  ·intro kM
   refine gV 6 20 ?_ ?_
   ·intro pJ
    refine gV 6 26 ?_ ?_
    ·intro p26
     refine gV 7 33 ?_ ?_
     ·intro p33
      refine aJ 8 ?_;exact ⟨_,rfl⟩
     intro p33
     refine aJ 8 ?_;exact ⟨_,rfl⟩
    intro p26
    refine aJ 15 ?_;exact ⟨_,rfl⟩
   intro pJ
   refine aJ 21 ?_;exact ⟨_,rfl⟩
  intro kM
  refine aJ 27 ?_;exact ⟨_,rfl⟩
 intro h9
 refine aJ 32 ?_;exact ⟨_,rfl⟩
end
section
open Go.RowKit
theorem Ud:∀ args w,(callFunc 68 args).run prog w=.ok (.enter 68 args) w:=enters func68 rfl (by kernel_rfl)
theorem akz:∀ args w,(callFunc 217 args).run prog w=.ok (.enter 217 args) w:=enters func217 rfl (by kernel_rfl)
theorem ajY:∀ args w,(callFunc 179 args).run prog w=.ok (.enter 179 args) w:=enters func179 rfl (by kernel_rfl)
theorem ajs:∀ args w,(callFunc 121 args).run prog w=.ok (.enter 121 args) w:=enters func121 rfl (by kernel_rfl)
theorem akA:∀ args w,(callFunc 218 args).run prog w=.ok (.enter 218 args) w:=enters func218 rfl (by kernel_rfl)
theorem akb:∀ args w,(callFunc 180 args).run prog w=.ok (.enter 180 args) w:=enters func180 rfl (by kernel_rfl)
theorem ajt:∀ args w,(callFunc 122 args).run prog w=.ok (.enter 122 args) w:=enters func122 rfl (by kernel_rfl)
theorem bytes_beq (p q:ByteArray):((p.toList == q.toList)=true)↔p=q:=by
 rw [ByteArray.toList_eq,ByteArray.toList_eq,beq_iff_eq];exact ⟨fun e=>Go.WideShapes.bytes_inj e,fun e=>by rw [e]⟩
theorem av.eq_iff (a b:av):((((((a.kind=b.kind∧a.code=b.code)∧a.id=b.id)∧a.text=b.text)∧a.head=b.head)∧a.flow=b.flow)∧a.rows=b.rows)↔a=b:=by
 cases a;cases b
 simp [av.kind,av.code,av.id,av.text,av.head,av.flow,av.rows,and_assoc]
theorem aS.eq_iff (a b:aS):(a.head=b.head∧a.cells=b.cells)↔a=b:=by
 cases a;cases b
 simp [aS.head,aS.cells]
theorem aR.eq_iff (a b:aR):((a.id=b.id∧a.head=b.head)∧a.flow=b.flow)↔a=b:=by
 cases a;cases b
 simp [aR.id,aR.head,aR.flow,and_assoc]
def Ew (fv:ak) (G:GH) (d d':List Dat) (p:Prop):Prop:=∀ (G1:GH) (w1:World) (cs cs':List ak),(∀ b o,G b=some o→G1 b=some o)→Hold G1 w1→aZ G1 d cs→aZ G1 d' cs' →
 wD prog fv [.agg cs.toArray,.agg cs'.toArray] w1 (bB w1 G1 fun u G'=>∃ b,u=.bool b∧(b=true↔p))
theorem aly (G:GH) (w0:World) (hG:Hold G w0) (A B:List av) (v u fv:ak) (hv:ay G (.sl 11 (A.map av.dat)) v) (hu:ay G (.sl 11 (B.map av.dat)) u) (hf:∀ (i:Nat) (h1:i < A.length) (h2:i < B.length),Ew fv G A[i].dat B[i].dat (A[i]=B[i])) :
  Calls prog 121 #[v,u,fv] w0 (bB w0 G fun r G'=>∃ b,r=.bool b∧(b=true↔A=B)):=by
 obtain ⟨vA,vc,rfl,hc1,hc2,hg⟩:=hv.slice;obtain ⟨uA,uc,rfl,hd1,hd2,hh⟩:=hu.slice;have hml:maxLen=9223372036854775807:=rfl;(iterate 2 rw [bE] at *);refine eN [(0,_),(1,_),(2,_)] func121 rfl ntmps121 rfl rfl hG ?_;refine goB 11 ?_ ?_
 ·intro kM
  refine aJ 3 ?_;exact ⟨false,rfl,by simp only [lM,false_iff];exact fun e=>absurd (aB List.length e) (by omega)⟩
 intro kM
 refine aj 8 ?_;intro a H;refine dD (ι:=Nat × GH) (Tc:=[(1,_),(2,_),(15,_),(16,_)]) (Lc:=[]) (fun gh=>[(17,vi gh.1)]) (fun gh=>[]) (fun gh=>gh.2) (fun gh=>gh.1≤A.length∧A.take gh.1=B.take gh.1∧(∀ b o,G b=some o→gh.2 b=some o)) (fun gh=>A.length - gh.1) ((0,G)) sB ?_ ?_
 ·exact ⟨by omega,rfl,fun _ _ h=>h⟩
 clear H;rintro ⟨k,g⟩ a w hI H;dsimp only at hI H;obtain ⟨hk,hsame,hgm⟩:=hI;dsimp only [lca,aQ] at H;refine cK 4 H ?_ ?_ <;> clear H
 ·intro nM
  have hk2:k < A.length:=by omega
  have hk3:k < B.length:=by omega
  obtain ⟨b1,o1,cs1,rfl,JH,wZ,hr1⟩:=hg k A[k].dat (by simp [hk2]);obtain ⟨pA,pn,pc,dA,dn,dc,yA,yn,yc,fA,fn,fc,rA,rn,rc,rfl,-⟩:=hr1.item;obtain ⟨b2,o2,cs2,rfl,JI,hrow2,hr2⟩:=hh k B[k].dat (by simp [hk3]);obtain ⟨Ee,FD,pc2,Dr,EO,Dt,FY,F4,FZ,ES,EY,ET,rA2,rn2,rc2,rfl,-⟩:=hr2.item;refine aj 6 ?_;intro a H;refine aT dU (cs:=_) H wn rfl rfl (fun j v hj=>H.hp.aC (aD hgm (wZ j v hj))) rfl ?_;clear H;intro a H;refine dx dU H wn rfl ?_;clear H;intro b8 a w wV H;refine aH 1 H ?_;clear H;intro a H;refine bq dU 0 (vs:=[_,_,_,_,_,_,_,_,_,_,_]) _ H wn rfl rfl rfl rfl rfl rfl rfl rfl ?_;clear H;intro w H;dsimp only [List.set,setRow] at H;refine aH 5 H ?_;clear H;intro a H;refine aT dU (cs:=_) H wn rfl rfl (fun j v hj=>H.hp.aC (aD hgm (hrow2 j v hj))) rfl ?_;clear H;intro a H;refine dx dU H wn rfl ?_;clear H;intro b9 a w qE H;refine bq dU 0 (vs:=[_,_,_,_,_,_,_,_,_,_,_]) _ H wn rfl rfl rfl rfl rfl rfl rfl rfl ?_;clear H;intro w H;dsimp only [List.set,setRow] at H;refine aH 3 H ?_;clear H;intro a H;refine aT dU (cs:=[_,_,_,_,_,_,_,_,_,_,_]) H wn rfl rfl (H.hp.cO 1 rfl rfl) rfl ?_;clear H;intro a H;refine aT dU (cs:=[_,_,_,_,_,_,_,_,_,_,_]) H wn rfl rfl (H.hp.cO 0 rfl rfl) rfl ?_;clear H;intro a H;refine nZ H wn rfl rfl (hf k hk2 hk3 _ _ _ _ hgm H.ro (hr1.mono hgm) (hr2.mono hgm)) rfl ?_;clear H;rintro v29 xM a w ⟨LD,rfl,AY⟩ Bb H;refine fE 2 H ?_ ?_ <;> clear H
  ·intro sF
   refine aJ 3 ?_;exact ⟨false,rfl,by simp only [lM,false_iff];rintro rfl;exact absurd (AY.2 rfl) (by simpa using sF)⟩
  intro sF
  try have p30:=dF sF
  refine aj 4 ?_;intro a H;refine aI ?_;refine bR ((k+1,xM)) (by exact (H.bY (Pl:=[_,_]) (bT:=[]) [] (by decide) rfl).sub ⟨rfl,rfl,rfl,rfl,rfl,aY⟩) ?_ ?_
  ·(try dsimp only);exact ⟨by omega,by rw [gI hk2,gI hk3,hsame,AY.1 (by simpa using sF)],fun b o h=>Bb b o (hgm b o h)⟩
  first|omega|(dsimp only;omega)
 intro nM
 refine aJ 4 ?_;exact ⟨true,rfl,by rw [iL (by omega),iL (by omega)] at hsame;simpa using hsame⟩
theorem alz (G:GH) (w0:World) (hG:Hold G w0) (A B:List aS) (v u fv:ak) (hv:ay G (.sl 6 (A.map aS.dat)) v) (hu:ay G (.sl 6 (B.map aS.dat)) u) (hf:∀ (i:Nat) (h1:i < A.length) (h2:i < B.length),Ew fv G A[i].dat B[i].dat (A[i]=B[i])) :
  Calls prog 179 #[v,u,fv] w0 (bB w0 G fun r G'=>∃ b,r=.bool b∧(b=true↔A=B)):=by
 obtain ⟨vA,vc,rfl,hc1,hc2,hg⟩:=hv.slice;obtain ⟨uA,uc,rfl,hd1,hd2,hh⟩:=hu.slice;have hml:maxLen=9223372036854775807:=rfl;(iterate 2 rw [bE] at *);refine eN [(0,_),(1,_),(2,_)] func179 rfl ntmps179 rfl rfl hG ?_;refine goB 11 ?_ ?_
 ·intro kM
  refine aJ 3 ?_;exact ⟨false,rfl,by simp only [lM,false_iff];exact fun e=>absurd (aB List.length e) (by omega)⟩
 intro kM
 refine aj 8 ?_;intro a H;refine dD (ι:=Nat × GH) (Tc:=[(1,_),(2,_),(15,_),(16,_)]) (Lc:=[]) (fun gh=>[(17,vi gh.1)]) (fun gh=>[]) (fun gh=>gh.2) (fun gh=>gh.1≤A.length∧A.take gh.1=B.take gh.1∧(∀ b o,G b=some o→gh.2 b=some o)) (fun gh=>A.length - gh.1) ((0,G)) sB ?_ ?_
 ·exact ⟨by omega,rfl,fun _ _ h=>h⟩
 clear H;rintro ⟨k,g⟩ a w hI H;dsimp only at hI H;obtain ⟨hk,hsame,hgm⟩:=hI;dsimp only [lca,aQ] at H;refine cK 4 H ?_ ?_ <;> clear H
 ·intro nM
  have hk2:k < A.length:=by omega
  have hk3:k < B.length:=by omega
  obtain ⟨b1,o1,cs1,rfl,JH,wZ,hr1⟩:=hg k A[k].dat (by simp [hk2]);obtain ⟨pA,pn,pc,dA,dn,dc,yA,yn,yc,fA,fn,fc,rfl,-⟩:=hr1.row;obtain ⟨b2,o2,cs2,rfl,JI,hrow2,hr2⟩:=hh k B[k].dat (by simp [hk3]);obtain ⟨Ee,FD,pc2,Dr,EO,Dt,FY,F4,FZ,ES,EY,ET,rfl,-⟩:=hr2.row;refine aj 6 ?_;intro a H;refine aT jw (cs:=_) H wn rfl rfl (fun j v hj=>H.hp.aC (aD hgm (wZ j v hj))) rfl ?_;clear H;intro a H;refine dx jw H wn rfl ?_;clear H;intro b8 a w wV H;refine aH 1 H ?_;clear H;intro a H;refine bq jw 0 (vs:=[_,_,_,_,_,_]) _ H wn rfl rfl rfl rfl rfl rfl rfl rfl ?_;clear H;intro w H;dsimp only [List.set,setRow] at H;refine aH 5 H ?_;clear H;intro a H;refine aT jw (cs:=_) H wn rfl rfl (fun j v hj=>H.hp.aC (aD hgm (hrow2 j v hj))) rfl ?_;clear H;intro a H;refine dx jw H wn rfl ?_;clear H;intro b9 a w qE H;refine bq jw 0 (vs:=[_,_,_,_,_,_]) _ H wn rfl rfl rfl rfl rfl rfl rfl rfl ?_;clear H;intro w H;dsimp only [List.set,setRow] at H;refine aH 3 H ?_;clear H;intro a H;refine aT jw (cs:=[_,_,_,_,_,_]) H wn rfl rfl (H.hp.cO 1 rfl rfl) rfl ?_;clear H;intro a H;refine aT jw (cs:=[_,_,_,_,_,_]) H wn rfl rfl (H.hp.cO 0 rfl rfl) rfl ?_;clear H;intro a H;refine nZ H wn rfl rfl (hf k hk2 hk3 _ _ _ _ hgm H.ro (hr1.mono hgm) (hr2.mono hgm)) rfl ?_;clear H;rintro v29 xM a w ⟨LD,rfl,AY⟩ Bb H;refine fE 2 H ?_ ?_ <;> clear H
  ·intro sF
   refine aJ 3 ?_;exact ⟨false,rfl,by simp only [lM,false_iff];rintro rfl;exact absurd (AY.2 rfl) (by simpa using sF)⟩
  intro sF
  try have p30:=dF sF
  refine aj 4 ?_;intro a H;refine aI ?_;refine bR ((k+1,xM)) (by exact (H.bY (Pl:=[_,_]) (bT:=[]) [] (by decide) rfl).sub ⟨rfl,rfl,rfl,rfl,rfl,aY⟩) ?_ ?_
  ·(try dsimp only);exact ⟨by omega,by rw [gI hk2,gI hk3,hsame,AY.1 (by simpa using sF)],fun b o h=>Bb b o (hgm b o h)⟩
  first|omega|(dsimp only;omega)
 intro nM
 refine aJ 4 ?_;exact ⟨true,rfl,by rw [iL (by omega),iL (by omega)] at hsame;simpa using hsame⟩
theorem alx (G:GH) (w0:World) (hG:Hold G w0) (A B:List aR) (v u fv:ak) (hv:ay G (.sl 7 (A.map aR.dat)) v) (hu:ay G (.sl 7 (B.map aR.dat)) u) (hf:∀ (i:Nat) (h1:i < A.length) (h2:i < B.length),Ew fv G A[i].dat B[i].dat (A[i]=B[i])) :
  Calls prog 217 #[v,u,fv] w0 (bB w0 G fun r G'=>∃ b,r=.bool b∧(b=true↔A=B)):=by
 obtain ⟨vA,vc,rfl,hc1,hc2,hg⟩:=hv.slice;obtain ⟨uA,uc,rfl,hd1,hd2,hh⟩:=hu.slice;have hml:maxLen=9223372036854775807:=rfl;(iterate 2 rw [bE] at *);refine eN [(0,_),(1,_),(2,_)] func217 rfl ntmps217 rfl rfl hG ?_;refine goB 11 ?_ ?_
 ·intro kM
  refine aJ 3 ?_;exact ⟨false,rfl,by simp only [lM,false_iff];exact fun e=>absurd (aB List.length e) (by omega)⟩
 intro kM
 refine aj 8 ?_;intro a H;refine dD (ι:=Nat × GH) (Tc:=[(1,_),(2,_),(15,_),(16,_)]) (Lc:=[]) (fun gh=>[(17,vi gh.1)]) (fun gh=>[]) (fun gh=>gh.2) (fun gh=>gh.1≤A.length∧A.take gh.1=B.take gh.1∧(∀ b o,G b=some o→gh.2 b=some o)) (fun gh=>A.length - gh.1) ((0,G)) sB ?_ ?_
 ·exact ⟨by omega,rfl,fun _ _ h=>h⟩
 clear H;rintro ⟨k,g⟩ a w hI H;dsimp only at hI H;obtain ⟨hk,hsame,hgm⟩:=hI;dsimp only [lca,aQ] at H;refine cK 4 H ?_ ?_ <;> clear H
 ·intro nM
  have hk2:k < A.length:=by omega
  have hk3:k < B.length:=by omega
  obtain ⟨b1,o1,cs1,rfl,JH,wZ,hr1⟩:=hg k A[k].dat (by simp [hk2]);obtain ⟨pA,pn,pc,dA,dn,dc,yA,yn,yc,fA,fn,fc,rfl,-⟩:=hr1.cell;obtain ⟨b2,o2,cs2,rfl,JI,hrow2,hr2⟩:=hh k B[k].dat (by simp [hk3]);obtain ⟨Ee,FD,pc2,Dr,EO,Dt,FY,F4,FZ,ES,EY,ET,rfl,-⟩:=hr2.cell;refine aj 6 ?_;intro a H;refine aT iI (cs:=_) H wn rfl rfl (fun j v hj=>H.hp.aC (aD hgm (wZ j v hj))) rfl ?_;clear H;intro a H;refine dx iI H wn rfl ?_;clear H;intro b8 a w wV H;refine aH 1 H ?_;clear H;intro a H;refine bq iI 0 (vs:=[_,_,_,_,_,_,_]) _ H wn rfl rfl rfl rfl rfl rfl rfl rfl ?_;clear H;intro w H;dsimp only [List.set,setRow] at H;refine aH 5 H ?_;clear H;intro a H;refine aT iI (cs:=_) H wn rfl rfl (fun j v hj=>H.hp.aC (aD hgm (hrow2 j v hj))) rfl ?_;clear H;intro a H;refine dx iI H wn rfl ?_;clear H;intro b9 a w qE H;refine bq iI 0 (vs:=[_,_,_,_,_,_,_]) _ H wn rfl rfl rfl rfl rfl rfl rfl rfl ?_;clear H;intro w H;dsimp only [List.set,setRow] at H;refine aH 3 H ?_;clear H;intro a H;refine aT iI (cs:=[_,_,_,_,_,_,_]) H wn rfl rfl (H.hp.cO 1 rfl rfl) rfl ?_;clear H;intro a H;refine aT iI (cs:=[_,_,_,_,_,_,_]) H wn rfl rfl (H.hp.cO 0 rfl rfl) rfl ?_;clear H;intro a H;refine nZ H wn rfl rfl (hf k hk2 hk3 _ _ _ _ hgm H.ro (hr1.mono hgm) (hr2.mono hgm)) rfl ?_;clear H;rintro v29 xM a w ⟨LD,rfl,AY⟩ Bb H;refine fE 2 H ?_ ?_ <;> clear H
  ·intro sF
   refine aJ 3 ?_;exact ⟨false,rfl,by simp only [lM,false_iff];rintro rfl;exact absurd (AY.2 rfl) (by simpa using sF)⟩
  intro sF
  try have p30:=dF sF
  refine aj 4 ?_;intro a H;refine aI ?_;refine bR ((k+1,xM)) (by exact (H.bY (Pl:=[_,_]) (bT:=[]) [] (by decide) rfl).sub ⟨rfl,rfl,rfl,rfl,rfl,aY⟩) ?_ ?_
  ·(try dsimp only);exact ⟨by omega,by rw [gI hk2,gI hk3,hsame,AY.1 (by simpa using sF)],fun b o h=>Bb b o (hgm b o h)⟩
  first|omega|(dsimp only;omega)
 intro nM
 refine aJ 4 ?_;exact ⟨true,rfl,by rw [iL (by omega),iL (by omega)] at hsame;simpa using hsame⟩
def F8 (n:Nat):Prop:=∀ (G:GH) (w0:World),Hold G w0→∀ (A B:List av) (v u:ak),ay G (.sl 11 (A.map av.dat)) v→ay G (.sl 11 (B.map av.dat)) u→aX A < n →
 Calls prog 68 #[v,u] w0 (bB w0 G fun r G'=>∃ b,r=.bool b∧(b=true↔A=B))
theorem alu {n:Nat} (ih:F8 n) (G:GH) (x y:aR) (hz:aX x.flow < n):Ew (.func (.func 218) #[] #[]) G x.dat y.dat (x=y):=by
 intro G1 w0 cs cs' hm hG h1 h2;refine jM (caps:=[]) akA ?_;obtain ⟨pA,pn,pc,dA,dn,dc,yA,yn,yc,fA,fn,fc,rfl,ML,hf1⟩:=h1.cell;obtain ⟨Ee,FD,pc2,Dr,EO,Dt,FY,F4,FZ,ES,EY,ET,rfl,H6,hf2⟩:=h2.cell;have he:=aR.eq_iff x y;refine eN [(0,_),(1,_)] func218 rfl ntmps218 rfl rfl hG ?_;refine aj 1 ?_;intro a H;refine dN (cs:=[_,_,_,_,_,_,_]) H wn rfl rfl rfl ?_;clear H;intro b2 a w hb2 H;refine dN (cs:=[_,_,_,_,_,_,_]) H wn rfl rfl rfl ?_;clear H;intro b3 a w hb3 H;refine jA 9 10 H ?_ ?_ <;> clear H
 ·intro h10
  try have kE:=dT h10
  refine aj 1 ?_;intro a H;refine aT gG (cs:=[_,_,_,_,_]) H (wg H rfl rfl h10) rfl rfl (H.hp.cO 1 rfl rfl) rfl ?_;clear H;refine aj 1 ?_;intro a H;refine aT gG (cs:=[_,_,_,_,_]) H (wg H rfl rfl h10) rfl rfl (H.hp.cO 0 rfl rfl) rfl ?_;clear H;intro a H;refine s_call Jt H (wg H rfl rfl h10) rfl (Jv _ _ H.ro x.head y.head _ _ _ _ _ _ ML H6) rfl ?_;clear H;rintro vH GH a w rfl Cw H;refine jA 2 17 H ?_ ?_ <;> clear H
  ·intro jd
   try have kF:=dT jd
   refine aj 4 ?_;intro a H;refine s_call Ud H (wg H rfl rfl jd) rfl (ih _ _ H.ro x.flow y.flow _ _ (hf1.mono Cw) (hf2.mono Cw) hz) rfl ?_;clear H;rintro vF GF a w ⟨bF,rfl,hbF⟩ Qi H;refine gK 3 H ?_;exact ⟨_,rfl,by rw [← he];simp_all⟩
  intro jd
  try have kF:=dF jd
  refine aJ 8 ?_;exact ⟨_,rfl,by rw [← he];simp_all⟩
 intro h10
 try have kE:=dF h10
 refine aJ 15 ?_;exact ⟨_,rfl,by rw [← he];simp_all⟩
theorem alE {n:Nat} (ih:F8 n) (hn:n≤4294967297) (G:GH) (x y:aS) (hz:gH x.cells < n):Ew (.func (.func 180) #[] #[]) G x.dat y.dat (x=y):=by
 intro G1 w0 cs cs' hm hG h1 h2;refine jM (caps:=[]) akb ?_;obtain ⟨pA,pn,pc,dA,dn,dc,yA,yn,yc,fA,fn,fc,rfl,ML,hf1⟩:=h1.row;obtain ⟨Ee,FD,pc2,Dr,EO,Dt,FY,F4,FZ,ES,EY,ET,rfl,H6,hf2⟩:=h2.row;have he:=aS.eq_iff x y;refine eN [(0,_),(1,_)] func180 rfl ntmps180 rfl rfl hG ?_;refine aj 1 ?_;intro a H;refine dN (cs:=[_,_,_,_,_,_]) H wn rfl rfl rfl ?_;clear H;intro b2 a w hb2 H;refine dN (cs:=[_,_,_,_,_,_]) H wn rfl rfl rfl ?_;clear H;intro b3 a w hb3 H;refine aH 4 H ?_;clear H;intro a H;refine aT gG (cs:=[_,_,_,_,_]) H wn rfl rfl (H.hp.cO 1 rfl rfl) rfl ?_;clear H;refine aj 1 ?_;intro a H;refine aT gG (cs:=[_,_,_,_,_]) H wn rfl rfl (H.hp.cO 0 rfl rfl) rfl ?_;clear H;intro a H;refine s_call Jt H wn rfl (Jv _ _ H.ro x.head y.head _ _ _ _ _ _ ML H6) rfl ?_;clear H;rintro vH GH a w rfl Cw H;refine jA 1 10 H ?_ ?_ <;> clear H
 ·intro h10
  try have kE:=dT h10
  refine aj 4 ?_;intro a H;refine s_call akz H (wg H rfl rfl h10) rfl (alx _ _ H.ro x.cells y.cells _ _ _ (hf1.mono Cw) (hf2.mono Cw) (fun i h1 h2=>alu ih _ _ _ (by have:=KD h1;omega))) rfl ?_;clear H;rintro vF GF a w ⟨bF,rfl,hbF⟩ Qi H;refine gK 3 H ?_;exact ⟨_,rfl,by rw [← he];simp_all⟩
 intro h10
 try have kE:=dF h10
 refine aJ 8 ?_;exact ⟨_,rfl,by rw [← he];simp_all⟩
theorem alA {n:Nat} (ih:F8 n) (hn:n≤4294967297) (G:GH) (w0:World) (hG:Hold G w0) (x y:av) (cs cs':List ak) (h1:aZ G x.dat cs) (h2:aZ G y.dat cs') (hz:aX x.flow < n) (hr:eD x.rows < n) :
  Calls prog 122 #[.agg cs.toArray,.agg cs'.toArray] w0 (bB w0 G fun u G'=>∃ b,u=.bool b∧(b=true↔x=y)):=by
 obtain ⟨pA,pn,pc,dA,dn,dc,yA,yn,yc,fA,fn,fc,rA,rn,rc,rfl,ML,hf1,hw1⟩:=h1.item;obtain ⟨Ee,FD,pc2,Dr,EO,Dt,FY,F4,FZ,ES,EY,ET,rA2,rn2,rc2,rfl,H6,hf2,hw2⟩:=h2.item;have he:=av.eq_iff x y;have hb:=bytes_beq x.text y.text;refine eN [(0,_),(1,_)] func122 rfl ntmps122 rfl rfl hG ?_;refine aj 1 ?_;intro a H;refine dN (cs:=[_,_,_,_,_,_,_,_,_,_,_]) H wn rfl rfl rfl ?_;clear H;intro b2 a w hb2 H;refine dN (cs:=[_,_,_,_,_,_,_,_,_,_,_]) H wn rfl rfl rfl ?_;clear H;intro b3 a w hb3 H;refine ku 9 10 H ?_ ?_ <;> clear H
 ·intro kE
  refine gV 7 17 ?_ ?_
  ·intro kF
   refine iV 7 24 ?_ ?_
   ·intro kT
    try have kN:=dT kT
    refine aj 4 ?_;intro a H;refine CQ H (wg H rfl rfl kT) rfl rfl rfl ?_;clear H;refine iV 2 31 ?_ ?_
    ·intro h31
     try have p31:=dT h31
     refine aj 1 ?_;intro a H;refine aT gG (cs:=[_,_,_,_,_]) H (wg H rfl rfl h31) rfl rfl (H.hp.cO 1 rfl rfl) rfl ?_;clear H;refine aj 1 ?_;intro a H;refine aT gG (cs:=[_,_,_,_,_]) H (wg H rfl rfl h31) rfl rfl (H.hp.cO 0 rfl rfl) rfl ?_;clear H;intro a H;refine s_call Jt H (wg H rfl rfl h31) rfl (Jv _ _ H.ro x.head y.head _ _ _ _ _ _ ML H6) rfl ?_;clear H;rintro vH GH a w rfl Cw H;refine jA 2 38 H ?_ ?_ <;> clear H
     ·intro DJ
      try have p38:=dT DJ
      refine aj 4 ?_;intro a H;refine s_call Ud H (wg H rfl rfl DJ) rfl (ih _ _ H.ro x.flow y.flow _ _ (hf1.mono Cw) (hf2.mono Cw) hz) rfl ?_;clear H;rintro vF GF a w ⟨bF,rfl,hbF⟩ Qi H;refine jA 2 45 H ?_ ?_ <;> clear H
      ·intro h45
       try have p45:=dT h45
       refine aj 4 ?_;intro a H;refine s_call ajY H (wg H rfl rfl h45) rfl (alz _ _ H.ro x.rows y.rows _ _ _ ((hw1.mono Cw).mono Qi) ((hw2.mono Cw).mono Qi) (fun i h1 h2=>alE ih hn _ _ _ (by have:=I6 h1;omega))) rfl ?_;clear H;rintro vW GW a w ⟨bW,rfl,hbW⟩ hmW H;refine gK 3 H ?_;exact ⟨_,rfl,by rw [← he];simp_all⟩
      intro h45
      try have p45:=dF h45
      refine aJ 8 ?_;exact ⟨_,rfl,by rw [← he];simp_all⟩
     intro DJ
     try have p38:=dF DJ
     refine aJ 15 ?_;exact ⟨_,rfl,by rw [← he];simp_all⟩
    intro h31
    try have p31:=dF h31
    refine aJ 22 ?_;exact ⟨_,rfl,by rw [← he];simp_all⟩
   intro kT
   try have kN:=dF kT
   refine aJ 29 ?_;exact ⟨_,rfl,by rw [← he];simp_all⟩
  intro kF
  refine aJ 36 ?_;exact ⟨_,rfl,by rw [← he];simp_all⟩
 intro kE
 refine aJ 43 ?_;exact ⟨_,rfl,by rw [← he];simp_all⟩
theorem alB {n:Nat} (ih:F8 n) (hn:n≤4294967297) (G:GH) (x y:av) (hz:aX x.flow < n) (hr:eD x.rows < n):Ew (.func (.func 122) #[] #[]) G x.dat y.dat (x=y):=by
 intro G1 w0 cs cs' hm hG h1 h2;exact jM (caps:=[]) ajt (alA ih hn G1 w0 hG x y cs cs' h1 h2 hz hr)
theorem alI {n:Nat} (ih:F8 n) (hn:n≤4294967297):F8 (n+1):=by
 intro G w0 hG A B v u hv hu hz;refine eN [(0,_),(1,_)] func68 rfl ntmps68 rfl rfl hG ?_;refine aj 6 ?_;intro a H;refine s_call ajs H wn rfl (aly _ _ H.ro A B _ _ _ hv hu (fun i h1 h2=>alB ih hn _ _ _ (by have:=KE h1;omega) (by have:=KE h1;omega))) rfl ?_;clear H;rintro v7 G7 a w ⟨b7,rfl,qD⟩ vO H;refine gK 2 H ?_;exact ⟨_,rfl,qD⟩
theorem aaP:∀ n:Nat,n≤4294967298→F8 n
 | 0,_=>fun _ _ _ _ _ _ _ _ _ h=>absurd h (by omega)
 | n+1,hn=>alI (aaP n (by omega)) (by omega)
theorem alS (G:GH) (w0:World) (hG:Hold G w0) (A B:List av) (v u:ak) (hv:ay G (.sl 11 (A.map av.dat)) v) (hu:ay G (.sl 11 (B.map av.dat)) u) (hz:aX A≤4294967296) :
  Calls prog 68 #[v,u] w0 (bB w0 G fun r G'=>∃ b,r=.bool b∧(b=true↔A=B)):=aaP 4294967298 (by omega) G w0 hG A B v u hv hu (by omega)
end
section
open Go.RowKit
def jH (xs:Array ak) (o:Nat × Nat):Option (Int × Int × List UInt8):=match o.2 with
 | 0=>(jG xs o.1).map fun n=>(n,0,[])
 | 1=>match xs[o.1]? with|some (.string s)=>some (0,0,s.toList)|_=>none
 | 2=>match jG xs o.1,jG xs (o.1+1) with|some a,some b=>some (a,b,[])|_,_=>none
 | 3=>match xs[o.1]? with|some (.bool b)=>some (if b=true then 1 else 0,0,[])|_=>none
 | _=>none
def aew (P:Program) (t:TypeId):Bool:=!P.stoodInHeld t && decide ((P.fieldsOf t).toList.map (·.offset)=[0,1]) && ((P.fieldsOf t).toList.all fun f=>decide (f.name ≠ "_") && P.plainKey f.type && QD (P.underlying f.type)) && decide (P.cellsOf t=2) && (P.info? t).isSome
def zY (P:Program) (t:TypeId):Nat:=match P.underlying t with|some (.int .i64)=>0|some .string=>1|some (.struct _)=>2|some .bool=>3|_=>4
def WR (P:Program) (t:TypeId):Bool:=match zY P t with|0=>P.plainKey t|1=>P.plainKey t|2=>aew P t|3=>P.plainKey t|_=>false
structure KI (P:Program) (t:TypeId) (rE:List (Nat × Nat)):Prop where
 und:P.underlying t=some (.struct (P.fieldsOf t))
 held:P.stoodInHeld t=false
 guard:P.eqGuardType P.depth t=false
 Az:(P.fieldsOf t).toList.map (fun f=>(f.offset,zY P f.type))=rE
 ok:(P.fieldsOf t).toList.all (fun f=>decide (f.name ≠ "_") && WR P f.type)=true
theorem avd {P:Program} {t:TypeId} {fs:Array Field} (h:P.underlying t=some (.struct fs)):P.underlying t=some (.struct (P.fieldsOf t)):=by
 rw [h]
 simp [Program.fieldsOf,h]
theorem aeU {P:Program} (w:World) {t:TypeId} {fs:Array Field} (hu:P.underlying t=some (.struct fs)) {i:TypeInfo} (hi:P.info? t=some i) (hc:P.cellsOf t=2) (xs:Array ak) (off:Nat):(part t xs off).run P w=.ok (.agg (xs.extract off (off+2))) w:=by
 unfold part
 simp [isAgg,dX,run_underlying hu,run_sizeOf w hi,hc]
theorem Pj {xs:Array ak} {o:Nat} {n:Int} (h:jG xs o=some n):xs[o]?=some (.int .i64 n):=by
 unfold jG at h
 split at h
 ·rename_i hx;cases h;exact hx
 ·cases h
theorem abp {xs:Array ak} {off:Nat} {a b:Int} (h1:jG xs off=some a) (h2:jG xs (off+1)=some b):jG (xs.extract off (off+2)) 0=some a∧jG (xs.extract off (off+2)) 1=some b:=by
 have e1:=Pj h1
 have e2:=Pj h2
 have hl:off+1 < xs.size:=(Array.getElem?_eq_some_iff.1 e2).1
 constructor
 ·unfold jG
  rw [Array.getElem?_extract,au (by omega),mO,e1]
 ·unfold jG
  rw [Array.getElem?_extract,au (by omega),e2]
theorem aeR {P:Program} {w:World} {d:Nat} {xs ys:Array ak}:∀ fs:List Field,fs.all (fun f=>decide (f.name ≠ "_") && WR P f.type)=true →
  (fs.map (fun f=>(f.offset,zY P f.type))).all (fun o=>(jH xs o).isSome && (jH ys o).isSome)=true→(Op.eqFields (d+2) xs ys fs).run P w=.ok ((fs.map (fun f=>(f.offset,zY P f.type))).all fun o=>jH xs o == jH ys o) w
 | [],_,_=>by simp [Op.eqFields]
 | f :: fs,h1,h2=>by
  simp only [List.all_cons,nk,lN,dR] at h1 h2
  obtain ⟨⟨hn,hk⟩,h1⟩:=h1
  obtain ⟨⟨hx,hy⟩,h2⟩:=h2
  have ih:=aeR (w:=w) (d:=d) fs (by simpa using h1) h2
  have fin:∀ (x y:ak) (r:Bool),(part f.type xs f.offset).run P w=.ok x w→(part f.type ys f.offset).run P w=.ok y w→(Op.equalIn (d+2) f.type x y).run P w=.ok r w→(jH xs (f.offset,zY P f.type) == jH ys (f.offset,zY P f.type))=r →
    (Op.eqFields (d+2) xs ys (f :: fs)).run P w=.ok (((f :: fs).map (fun f=>(f.offset,zY P f.type))).all fun o=>jH xs o == jH ys o) w:=by
   intro x y r p1 p2 p3 p4
   simp only [Op.eqFields,hn,ne_eq,not_false_eq_true,if_true,dX,p1,p2,mM,p3,dR,List.all_cons,p4]
   cases r with
   | true=>simp [ih,List.all_map]
   | false=>simp
  unfold WR at hk
  rcases hkd:zY P f.type with _|_|_|_|n
  ·rw [hkd] at hk hx hy
   have hu:P.underlying f.type=some (.int .i64):=by unfold zY at hkd;split at hkd <;> first|assumption|cases hkd
   obtain ⟨m,hm⟩:∃ m,jG xs f.offset=some m:=by cases h:jG xs f.offset with|some m=>exact ⟨m,rfl⟩|none=>simp [jH,h] at hx
   obtain ⟨m2,hm2⟩:∃ m,jG ys f.offset=some m:=by cases h:jG ys f.offset with|some m=>exact ⟨m,rfl⟩|none=>simp [jH,h] at hy
   refine fin _ _ _ (run_part_plain w hk (Pj hm)) (run_part_plain w hk (Pj hm2)) (run_equalIn_int w (d+1) f.type .i64 .i64 m m2 hu) ?_
   rw [hkd,lq]
   simp [jH,hm,hm2]
  ·rw [hkd] at hk hx hy
   have hu:P.underlying f.type=some .string:=by unfold zY at hkd;split at hkd <;> first|assumption|cases hkd
   obtain ⟨m,hm⟩:∃ m,xs[f.offset]?=some (.string m):=by
    simp only [jH] at hx
    split at hx
    ·rename_i s hs;exact ⟨s,hs⟩
    ·cases hx
   obtain ⟨m2,hm2⟩:∃ m,ys[f.offset]?=some (.string m):=by
    simp only [jH] at hy
    split at hy
    ·rename_i s hs;exact ⟨s,hs⟩
    ·cases hy
   refine fin _ _ _ (run_part_plain w hk hm) (run_part_plain w hk hm2) (run_equalIn_string w (d+1) f.type m m2 hu) ?_
   rw [hkd,lq]
   simp [jH,hm,hm2]
  ·rw [hkd] at hk hx hy
   obtain ⟨gs,hu⟩:∃ gs,P.underlying f.type=some (.struct gs):=by
    unfold zY at hkd
    split at hkd
    ·cases hkd
    ·cases hkd
    ·rename_i gs hg;exact ⟨gs,hg⟩
    ·cases hkd
    ·cases hkd
   simp only [aew,nk,ug,lN] at hk
   obtain ⟨⟨⟨⟨k1,k2⟩,k3⟩,k4⟩,k5⟩:=hk
   obtain ⟨inf,abY⟩:=Option.isSome_iff_exists.1 k5
   obtain ⟨a,b,ha,hb⟩:∃ a b,jG xs f.offset=some a∧jG xs (f.offset+1)=some b:=by
    simp only [jH] at hx
    split at hx
    ·rename_i a b h1 h2;exact ⟨a,b,h1,h2⟩
    ·cases hx
   obtain ⟨a',b',ha',hb'⟩:∃ a b,jG ys f.offset=some a∧jG ys (f.offset+1)=some b:=by
    simp only [jH] at hy
    split at hy
    ·rename_i a b h1 h2;exact ⟨a,b,h1,h2⟩
    ·cases hy
   obtain ⟨e1,e2⟩:=abp ha hb
   obtain ⟨e3,e4⟩:=abp ha' hb'
   have hq:=Xu (P:=P) (w:=w) (d:=d) (xs:=xs.extract f.offset (f.offset+2)) (ys:=ys.extract f.offset (f.offset+2)) _ (by simpa only [mZ,nk,lN] using k3) (by rw [k2];simp [e1,e2,e3,e4])
   rw [k2] at hq
   refine fin _ _ _ (aeU w hu abY k4 xs f.offset) (aeU w hu abY k4 ys f.offset) ((run_equalIn_struct w (d+1) f.type _ _ (avd hu) k1).trans hq) ?_
   rw [hkd,lq]
   simp [jH,ha,hb,ha',hb',e1,e2,e3,e4]
  ·rw [hkd] at hk hx hy
   have hu:P.underlying f.type=some .bool:=by unfold zY at hkd;split at hkd <;> first|assumption|cases hkd
   obtain ⟨m,hm⟩:∃ m,xs[f.offset]?=some (.bool m):=by
    simp only [jH] at hx
    split at hx
    ·rename_i s hs;exact ⟨s,hs⟩
    ·cases hx
   obtain ⟨m2,hm2⟩:∃ m,ys[f.offset]?=some (.bool m):=by
    simp only [jH] at hy
    split at hy
    ·rename_i s hs;exact ⟨s,hs⟩
    ·cases hy
   refine fin _ _ _ (run_part_plain w hk hm) (run_part_plain w hk hm2) (run_equalIn_bool' w (d+1) f.type m m2 hu) ?_
   rw [hkd,lq]
   cases m <;> cases m2 <;> simp [jH,hm,hm2]
  ·rw [hkd] at hk;cases hk
section
variable {N:Nat} {D:List Deferred} {w0:World} {F:Nat→Prop} {G0 G:GH} {L:List (Nat × Obj)} {T:List (Nat × ak)}
variable {r:Option Nat} {P:Program} {ops:Array Oper} {Q:Exit→Act→World→Prop} {rest:List Oper} {a:Act} {w:World}
variable {d:Nat} {ty:TypeId} {pos:String} {aP:Array Edge} {g:Option (Nat × Bool)}
theorem RG {t yt:TypeId} {rE:List (Nat × Nat)} (he:KI P t rE) {x y:Operand} {xs ys:Array ak} (H:St N D w0 F G0 G L T a w) (hw:Region.wanted ⟨some d,.binOp .neq t x y yt,ty,pos,aP,g⟩ (yielded ops a.tmps)=true) (hx:ev T x=some (.agg xs)) (hy:ev T y=some (.agg ys))
  (hi:rE.all (fun o=>(jH xs o).isSome && (jH ys o).isSome)=true) (hd:Nat.blt d N=true)
  (k:∀ a',St N D w0 F G0 G L ((d,.bool (!(rE.all fun o=>jH xs o == jH ys o))) :: T) a' w→WL r P ops Q rest a' w):WL r P ops Q (⟨some d,.binOp .neq t x y yt,ty,pos,aP,g⟩ :: rest) a w:=by
 have h1:=aeR (P:=P) (w:=w) (d:=9997) (xs:=xs) (ys:=ys) _ he.ok (by rw [he.Az];exact hi)
 rw [he.Az] at h1
 refine fQ (v:=.bool (!(rE.all fun o=>jH xs o == jH ys o))) (w':=w) hw rfl ?_ (k _ (H.put hd _ H.hp))
 simp only [execOp,H.ev hx,H.ev hy,dX,run_eqGuard_agg w .neq t x y xs ys he.guard,mM,run_neq_struct,run_equalIn_struct w 9999 t xs ys he.und he.held,h1]
 rfl
end
end
end Go.Proofs.YthmanofbmnfemaaGreat
