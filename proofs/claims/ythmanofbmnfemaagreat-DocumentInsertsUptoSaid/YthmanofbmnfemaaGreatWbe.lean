/-
  What the claim stands on, part 5: Blw Tbs Okd Brd Ins Uq13 Lf13 Fz13 Tb13 Mst Mck Dnn Dnc Mis Pm13 Cin Av16 Hds Mus Kt K13 Kn13 Mid.
-/
import Derived.Test.YthmanofbmnfemaaGreatWbd
import Derived.ProofKit
import Derived.Deep.Slices
import Derived.Laws.StructEq
namespace Go.Proofs.YthmanofbmnfemaaGreat
open Go.Proofs.Tryz
section
open Go.RowKit
theorem DW:Ty prog 50 6 64 [.int .i64 0,.slice none 0 0,.int .i64 0,.int .i64 0,.bool false,.int .i64 0] true:=⟨by kernel_rfl,by kernel_rfl⟩
theorem BD:prog.underlying 45=some (.slice 50):=by kernel_rfl
theorem KM:dJ prog 50 1 1:=⟨by kernel_rfl⟩
theorem RF:dJ prog 50 0 0:=⟨by kernel_rfl⟩
theorem RG:dJ prog 50 4 5:=⟨by kernel_rfl⟩
theorem VP:sU prog 50 [(0,1),(1,1),(2,2),(4,1),(5,1)] [.int .i64 0,.slice none 0 0,.int .i64 0,.int .i64 0,.bool false,.int .i64 0]:=⟨by kernel_rfl,by kernel_rfl⟩
theorem Rj:∀ args w,(callFunc 48 args).run prog w=.ok (.enter 48 args) w:=enters func48 rfl (by kernel_rfl)
theorem Y7:dJ prog 50 3 4:=⟨by kernel_rfl⟩
structure jK where
 id:Int
 items:List ay
 flow:Int
 at_:Int
 note:Bool
 depth:Int
def jK.dat (p:jK):List Dat:=[li p.id,.sl 11 (p.items.map ay.dat),li p.flow,li p.at_,.lf (.bool p.note),li p.depth]
abbrev jK.cells (p:jK) (v:aj):List aj:=[vi p.id,v,vi p.flow,vi p.at_,.bool p.note,vi p.depth]
theorem jK.rep {G:GH} {p:jK} {v:aj} (h:aC G (.sl 11 (p.items.map ay.dat)) v):bJ G p.dat (p.cells v) :=
 ⟨_,_,rfl,⟨rfl,rfl⟩,_,_,rfl,h,_,_,rfl,⟨rfl,rfl⟩,_,_,rfl,⟨rfl,rfl⟩,_,_,rfl,⟨rfl,rfl⟩,_,_,rfl,⟨rfl,rfl⟩,rfl⟩
theorem jK.of {G:GH} {p:jK} {cs:List aj} (h:bJ G p.dat cs):∃ v,cs=p.cells v∧aC G (.sl 11 (p.items.map ay.dat)) v:=by
 simp only [jK.dat,bJ] at h
 obtain ⟨_,_,rfl,⟨rfl,-⟩,v,_,rfl,hv,_,_,rfl,⟨rfl,-⟩,_,_,rfl,⟨rfl,-⟩,_,_,rfl,⟨rfl,-⟩,_,_,rfl,⟨rfl,-⟩,rfl⟩:=h;exact ⟨v,rfl,hv⟩
mutual
def FY (f:Int) (at_:Nat) (note:Bool) (t:Int):ay→List jK
 | .mk k _ i _ _ fl r=>if k=6 then ⟨i,fl,f,at_,true,t⟩ :: tu i true t 0 fl else if k=7 then uJ f at_ note (t+1) r else []
/-- The flows that are contained in a flow, with where they stand. -/
def tu (f:Int) (note:Bool) (t:Int):Nat→List ay→List jK
 | _,[]=>[]
 | at_,x :: l=>FY f at_ note t x++tu f note t (at_+n1 x) l
def uJ (f:Int) (at_:Nat) (note:Bool) (t:Int):List bH→List jK
 | []=>[]
 | x :: l=>FZ f at_ note t x++uJ f at_ note t l
def FZ (f:Int) (at_:Nat) (note:Bool) (t:Int):bH→List jK
 | .mk _ cs=>yH f at_ note t cs
def yH (f:Int) (at_:Nat) (note:Bool) (t:Int):List bD→List jK
 | []=>[]
 | x :: l=>FX f at_ note t x++yH f at_ note t l
def FX (f:Int) (at_:Nat) (note:Bool) (t:Int):bD→List jK
 | .mk i _ fl=>⟨i,fl,f,at_,note,t⟩ :: tu i note t 0 fl
end
theorem Na (f:Int) (at_:Nat) (note:Bool) (t:Int) (x:ay):FY f at_ note t x=if x.kind=6 then ⟨x.id,x.flow,f,at_,true,t⟩ :: tu x.id true t 0 x.flow else if x.kind=7 then uJ f at_ note (t+1) x.rows else []:=by cases x;rw [FY];rfl
theorem adS (f:Int) (at_:Nat) (note:Bool) (t:Int) (x:bH):FZ f at_ note t x=yH f at_ note t x.cells:=by cases x;rw [FZ];rfl
theorem adO (f:Int) (at_:Nat) (note:Bool) (t:Int) (x:bD):FX f at_ note t x=⟨x.id,x.flow,f,at_,note,t⟩ :: tu x.id note t 0 x.flow:=by cases x;rw [FX];rfl
mutual
theorem adQ (f:Int) (at_:Nat) (note:Bool) (t:Int):∀ x:ay,(FY f at_ note t x).length < cO x.dat
 | .mk k c i tx h fl r=>by
  have h4:=oW (.mk k c i tx h fl r);have hf:=Iu i true t 0 fl;have hr:=XL f at_ note (t+1) r;dsimp only [ay.text,ay.head,ay.flow,ay.rows] at h4;rw [FY]
  split
  ·rw [kW];omega
  split <;> first|omega|(simp only [List.length_nil];omega)
theorem Iu (f:Int) (note:Bool) (t:Int):∀ (at_:Nat) (l:List ay),(tu f note t at_ l).length≤bq l
 | _,[]=>by simp [tu]
 | at_,x :: l=>by
  have h1:=adQ f at_ note t x;have h2:=Iu f note t (at_+n1 x) l;rw [tu,jP]
  simp only [bq,dV,dZ] at *;omega
theorem adT (f:Int) (at_:Nat) (note:Bool) (t:Int):∀ x:bH,(FZ f at_ note t x).length≤cO x.dat
 | .mk h cs=>by
  have h4:=uD (.mk h cs);have hc:=XK f at_ note t cs;dsimp only [bH.head,bH.cells] at h4;rw [FZ];omega
theorem XL (f:Int) (at_:Nat) (note:Bool) (t:Int):∀ l:List bH,(uJ f at_ note t l).length≤eD l
 | []=>by simp [uJ]
 | x :: l=>by
  have h1:=adT f at_ note t x;have h2:=XL f at_ note t l;rw [uJ,jP]
  simp only [eD,dV,dZ] at *;omega
theorem adP (f:Int) (at_:Nat) (note:Bool) (t:Int):∀ x:bD,(FX f at_ note t x).length≤cO x.dat
 | .mk i h fl=>by
  have h4:=uz (.mk i h fl);have hf:=Iu i note t 0 fl;dsimp only [bD.head,bD.flow] at h4;rw [FX,kW];omega
theorem XK (f:Int) (at_:Nat) (note:Bool) (t:Int):∀ l:List bD,(yH f at_ note t l).length≤iw l
 | []=>by simp [yH]
 | x :: l=>by
  have h1:=adP f at_ note t x;have h2:=XK f at_ note t l;rw [yH,jP]
  simp only [iw,dV,dZ] at *;omega
end
def yI (p:jK):List jK:=p :: tu p.id p.note p.depth 0 p.items
def P5 (m:Nat):Prop:=∀ (G:GH) (w0:World),Hold G w0→∀ (p:jK) (v:aj),aC G (.sl 11 (p.items.map ay.dat)) v→bq p.items < m→0≤p.depth→p.depth+bq p.items≤4294967296 →
 Calls prog 48 #[.agg (p.cells v).toArray] w0 (bY w0 G fun u G'=>aC G' (.sl 6 ((yI p).map jK.dat)) u)
structure Ei (g:GH) (v:aj) (R:List jK) (xs:List aj) (Lo:OL):Prop where
 row:gQ 50 6 v R.length xs Lo
 cat:ig g 6 (R.map jK.dat) xs
theorem Ei.mono {g g':GH} {v:aj} {R:List jK} {xs:List aj} {Lo:OL} (h:Ei g v R xs Lo) (hm:∀ b o,g b=some o→g' b=some o):Ei g' v R xs Lo:=⟨h.row,h.cat.mono hm⟩
theorem row_one {e b:Nat} {xs:List aj} (h:xs.length=6):gQ e 6 (.slice (some ⟨b,0,none⟩) 1 1) 1 xs [(b,.cells xs.toArray e (0,0))]:=⟨by rw [h],.inr ⟨b,1,xs.toArray,rfl,rfl,dw _,(by decide),by simp [h],by simp [← h]⟩⟩
theorem alk (x:ay):n1 x+bq x.flow+eD x.rows < cO x.dat:=by
 have h1:=oW x;have h2:=Es x.text
 unfold n1 gD;split <;> (try split) <;> omega
set_option maxHeartbeats 4000000 in
theorem adW {m:Nat} (ih:P5 m) (hm:m≤4294967296):P5 (m+1):=by
 intro G w0 hG p v hu hz hd0 hdz;obtain ⟨pid,l,pf,pa,nY,pd⟩:=p;dsimp only at hu hz hd0 hdz;obtain ⟨A,c,rfl,hc1,hc2,hg⟩:=hu.slice;rw [bQ] at *;have hll:=Fu l;have hml:maxLen=9223372036854775807:=rfl;obtain ⟨p,hp⟩:∃ p:jK,p=⟨pid,l,pf,pa,nY,pd⟩:=⟨_,rfl⟩;have hbn:=Iu pid nY pd 0 l;refine eN [(0,_)] func48 rfl ntmps48 rfl rfl hG ?_;intro a H;refine dh (fun _ K1=>?_);refine fB (cs:=[_,_,_,_,_,_]) H wn rfl rfl rfl ?_;clear H;intro b1 a w hb1 H;refine kH H (ak K1 rfl (SQ fun _ K2=>?_));clear H K1;intro a H;obtain ⟨Ga,hma,hb1',H⟩:=H.dW
 have q0:aG Ga b1 0=some (vi pid):=by unfold aG;rw [hb1'];rfl
 have q1:aG Ga b1 1=some (.slice A l.length c):=by unfold aG;rw [hb1'];rfl
 have q3:aG Ga b1 4=some (.bool nY):=by unfold aG;rw [hb1'];rfl
 have q4:aG Ga b1 5=some (vi pd):=by unfold aG;rw [hb1'];rfl
 have kX:∀ (j:Nat) (v:aj),[vi pid,.slice A l.length c,vi pf,vi pa,.bool nY,vi pd][j]?=some v→aG Ga b1 (0+j)=some v:=fun j v hj=>by
  unfold aG;rw [hb1',nT];simpa using hj
 replace hu:=hu.mono hma;refine qG ?_;refine bP DW (cs:=[vi pid,.slice A l.length c,vi pf,vi pa,.bool nY,vi pd]) H wn rfl rfl (fun j v hj=>H.hp.aG (kX j v hj)) rfl ?_;clear H;intro a H;refine jy BD DW [_,_,_,_,_,_] [_,_,_,_,_,_] H wn rfl rfl rfl rfl rfl (by intro i q h;match i,h with|0,h=>exact h|n+1,h=>simp at h) rfl rfl ?_;clear H;intro b14 a w Tq H;refine kH H (aM K2 rfl (SQ fun _ K3=>?_));clear H K2;intro a H;have hr0:Ei Ga (.slice (some ⟨b14,0,none⟩) 1 1) [p] [vi pid,.slice A l.length c,vi pf,vi pa,.bool nY,vi pd] [(b14,.cells [vi pid,.slice A l.length c,vi pf,vi pa,.bool nY,vi pd].toArray 50 (0,0))]:=⟨row_one rfl,by simpa using (ig.nil (G:=Ga) (sz:=6)).snoc (by rw [hp];exact jK.rep (p:=⟨pid,l,pf,pa,nY,pd⟩) hu) rfl⟩;refine kP H (SC (aM K3 rfl (SQ fun _ K4=>SR fun _ K5=>ak K5 rfl (SB ?_))));clear H K3 K5;intro a H;skip;refine eT (ι:=Nat × Nat × List jK × aj × List aj × OL × GH) (Tc:=[(1,_)]) (Lc:=[]) (fun gh=>[(3,gh.2.2.2.1),(4,vi gh.2.1),(5,vi gh.1)]) (fun gh=>[]++gh.2.2.2.2.2.1) (fun gh=>gh.2.2.2.2.2.2) (fun gh=>gh.1≤l.length∧Ei gh.2.2.2.2.2.2 gh.2.2.2.1 gh.2.2.1 gh.2.2.2.2.1 gh.2.2.2.2.2.1∧gh.2.2.1++tu pid nY pd gh.2.1 (l.drop gh.1)=p :: tu pid nY pd 0 l∧(∀ b o,Ga b=some o→gh.2.2.2.2.2.2 b=some o)∧gh.2.1+bq (l.drop gh.1)≤4294967296) (fun gh=>l.length - gh.1) ((0,0,[p],.slice (some ⟨b14,0,none⟩) 1 1,[vi pid,.slice A l.length c,vi pf,vi pa,.bool nY,vi pd],[(b14,.cells [vi pid,.slice A l.length c,vi pf,vi pa,.bool nY,vi pd].toArray 50 (0,0))],Ga)) (by exact (H).sub ⟨rfl,rfl,rfl,rfl,aB⟩) ?_ ?_
 ·exact ⟨gX _,hr0,rfl,fun _ _ h=>h,by dsimp only;rw [jW];omega⟩
 clear H;rintro ⟨k,at_,R,v3,xs,Lo,g⟩ a w hI H;dsimp only at hI H;obtain ⟨hk,hr1,hX,hgm,hat⟩:=hI;obtain ⟨v3A,v3c,rfl,-,-⟩:=hr1.row.shape
 have hRl:R.length≤bq l+1:=by
  have:=av List.length hX;rw [jP,kW] at this;omega
 have Pj:=aH hgm q1;dsimp only [lca,aO] at H;refine kP H (SQ fun _ K6=>SR fun _ K7=>Rm rfl (Rf KM rfl (Rg jJ rfl Pj (Rl kr rfl (Rc rfl (Kz K7 (Cd rfl ?_ ?_))))))) <;> clear H K7
 ·intro h19 a H
  try have wL:=dT h19
  have hk2:k < l.length:=by omega
  obtain ⟨b,o,pA,pn,pc,dA,dn,dc,yA,yn,yc,fA,fn,fc,rA,rn,rc,rfl,hrow,hhd,hfl,hrw⟩:=Dl hk2 hg;replace hrow:=fun j u hj=>aH hgm (aH hma (hrow j u hj));replace hfl:=(hfl.mono hma).mono hgm;replace hrw:=(hrw.mono hma).mono hgm;have hrn:=hrw.len;rw [bQ] at hrn;subst hrn;have hzs:=Wv hk2;have hzi:=oW l[k];have He:=MJ (jv hk2);have hna:=alk l[k];have hpart:=hu.part k (k+1) (by omega) (by rw [bQ];omega);rw [jV hk2,tu] at hX
  have he1:((l.map ay.dat).drop k).take 1=[l[k]].map ay.dat:=by rw [jV (by simpa using hk2)];simp
  obtain ⟨x,hx⟩:∃ x,x=l[k]:=⟨_,rfl⟩;rw [← hx] at hX hrow hhd hfl hrw hzs hzi He hna he1;have q0g:=aH hgm q0;have q4g:=aH hgm q4;have hrl:=Fv x.rows;have hb6:=Iu x.id true pd 0 x.flow
  have hc3:¬ c=k:=by omega
  refine kP H (Kc K6 (SQ fun _ K8=>SB (SR fun _ K9=>Rf KM rfl (Rg jJ rfl Pj (Rm rfl (Ri kr fC rfl rfl ?_))))));clear H K6;intro a H;refine bP fC (cs:=[vi x.kind,vi x.code,vi x.id,.string x.text,.slice pA pn pc,vi x.head.marks.ins,vi x.head.marks.move,.slice dA dn dc,.slice yA yn yc,.slice fA fn fc,.slice rA x.rows.length rc]) H wn rfl rfl (fun j v hj=>H.hp.aG (hrow j v hj)) rfl ?_;clear H;intro a H;refine eH fC H wn rfl ?_;clear H;intro b6 a w hb6 H;refine bT fC 0 (vs:=[_,_,_,_,_,_,_,_,_,_,_]) _ H wn rfl rfl rfl rfl rfl rfl rfl rfl ?_;clear H;intro w H;dsimp only [List.set,setRow] at H;refine K9 _ _ ?_;clear K9;refine kP H (SR fun _ aV=>Rf RF rfl (Rg aD rfl (by assumption) ?_));clear H;intro a H;refine kH H (Rm rfl ?_);clear H;intro a H;refine lJ JJ [_,_] H wn rfl rfl rfl rfl ?_;clear H;intro a H;refine eH ko H wn rfl ?_;clear H;intro b7 a w zT H;refine bT ko 0 (vs:=[_,_]) _ H wn rfl rfl rfl rfl rfl rfl rfl rfl ?_;clear H;intro w H;dsimp only [List.set,setRow] at H;refine aV _ _ ?_;clear aV;refine oF (ι:=List jK × aj × List aj × OL × GH) (Tc:=[(1,_),(4,_),(5,_),(6,_),(7,_)]) (Lc:=[(_,_),(_,_)]) (fun gh=>[(3,gh.2.1)]) (fun gh=>[]++gh.2.2.2.1) (fun gh=>gh.2.2.2.2) (fun gh=>Ei gh.2.2.2.2 gh.2.1 gh.1 gh.2.2.1 gh.2.2.2.1∧gh.1=R++(if x.kind=6 then yI ⟨x.id,x.flow,pid,at_,true,pd⟩ else [])∧gh.1.length≤R.length+bq x.flow+1∧(∀ b o,g b=some o→gh.2.2.2.2 b=some o)) (by exact (H).sub ⟨rfl,rfl,rfl,rfl,rfl,aB⟩) ?_ ?_
  ·skip;refine kP H (SR fun _ bF=>aT gJ aD 1 rfl rfl (Rc rfl (Kz bF (Cd rfl ?_ ?_)))) <;> clear H bF
   ·intro oL a H
    try have p33:=dT oL
    refine kP H (SC (Rm rfl (aT uN aD 1 rfl rfl (aT Ca jJ 1 rfl rfl ?_))));clear H;intro a H;refine bP ko (cs:=[_,_]) H wn rfl rfl (H.hp.gB 0 rfl rfl) rfl ?_;clear H;intro a H;refine kH H (Rf RG rfl (Rg aD rfl (by assumption) ?_));clear H;intro a H;refine lJ VP [_,_,_,_,_,_] H wn rfl rfl rfl rfl ?_;clear H;intro a H;refine s_call Rj H wn rfl (ih _ _ H.ro ⟨x.id,x.flow,pid,at_,true,pd⟩ _ hfl (by dsimp only;omega) hd0 (by dsimp only;omega)) rfl ?_;clear H;rintro v43 Ap a w Uv nu H;obtain ⟨ML,n43,Nc,rfl⟩:=Uv.form
    obtain rfl:n43=(yI ⟨x.id,x.flow,pid,at_,true,pd⟩).length:=by simpa using Uv.len
    have hbl:(yI ⟨x.id,x.flow,pid,at_,true,pd⟩).length≤bq x.flow+1:=by unfold yI;rw [kW];dsimp only;omega
    refine Cz (Li:=[_,_]) (Lo:=Lo) BD DW rfl rfl H wn rfl rfl hr1.row Uv (by omega) (by omega) rfl ?_;clear H;intro v44 adC news a w ajF aiG H;refine kH H (Ra rfl ?_);clear H;intro a H;refine aJ ?_;refine ⟨(R++yI ⟨x.id,x.flow,pid,at_,true,pd⟩,v44,xs++news,adC,Ap),by exact (H).sub ⟨rfl,rfl,rfl,rfl,rfl,rfl,aB⟩,?_⟩;(try dsimp only);exact ⟨⟨by rw [jP];exact ajF,by rw [mW];exact (hr1.cat.mono nu).append aiG⟩,by rw [au p33],by rw [jP];omega,nu⟩
   intro oL a H
   try have p33:=dF oL
   refine fF ?_;refine ⟨(R,_,xs,Lo,g),by exact (H).sub ⟨rfl,rfl,rfl,rfl,rfl,rfl,aB⟩,?_⟩;(try dsimp only);exact ⟨hr1,by rw [ah p33,nH],by omega,fun _ _ h=>h⟩
  clear H;rintro ⟨R2,v5,xs2,Lo2,g2⟩ a w hI H;dsimp only at hI H;obtain ⟨hr2,hR2,ahW,hg2⟩:=hI;obtain ⟨v5A,v5c,rfl,-,-⟩:=hr2.row.shape;dsimp only [lca,aO] at H;refine kP H (SQ fun _ bG=>SR fun _ bM=>ak bM rfl (SB ?_));clear H bM;intro a H;skip;refine eT (ι:=Nat × List jK × aj × List aj × OL × GH) (Tc:=[(1,_),(4,_),(5,_),(6,_),(7,_)]) (Lc:=[(_,_),(_,_)]) (fun gh=>[(3,gh.2.2.1),(8,vi gh.1)]) (fun gh=>[]++gh.2.2.2.2.1) (fun gh=>gh.2.2.2.2.2) (fun gh=>gh.1≤x.rows.length∧Ei gh.2.2.2.2.2 gh.2.2.1 gh.2.1 gh.2.2.2.1 gh.2.2.2.2.1∧(x.kind=7→gh.2.1++uJ pid at_ nY (pd+1) (x.rows.drop gh.1)=R2++uJ pid at_ nY (pd+1) x.rows)∧(x.kind≠7→gh.2.1=R2)∧(∀ b o,g2 b=some o→gh.2.2.2.2.2 b=some o)∧gh.2.1.length+eD (x.rows.drop gh.1)≤R2.length+eD x.rows) (fun gh=>x.rows.length - gh.1) ((0,R2,_,xs2,Lo2,g2)) (by exact (H).sub ⟨rfl,rfl,rfl,rfl,rfl,rfl,rfl,aB⟩) ?_ ?_
  ·exact ⟨gX _,hr2,fun _=>rfl,fun _=>rfl,fun _ _ h=>h,by dsimp only;rw [jW];omega⟩
  clear H;rintro ⟨rk,R3,v6,MH,Qr,g3⟩ a w hI H;dsimp only at hI H;obtain ⟨Oz,hr3,Tj,Ob,hg3,ahX⟩:=hI;obtain ⟨v6A,v6c,rfl,-,-⟩:=hr3.row.shape;dsimp only [lca,aO] at H;refine kP H (SQ fun _ bN=>SR fun _ bW=>aT gJ aD 1 rfl rfl (Rc rfl (Rm rfl (Sp 48 rfl ?_ ?_)))) <;> clear H
  ·intro h48 a H
   try have p48:=dT h48
   refine kH H (YM h48 rfl (YF uP h48 rfl (YO vD 1 h48 rfl (YL ku h48 rfl (YC h48 rfl (Pt h48 rfl (Kz bW (Cd rfl ?_ ?_)))))))) <;> clear H bW
   ·intro iG a H
    try have p54:=dT iG
    have hk3:rk < x.rows.length:=by omega
    have TV:x.kind=7:=by first|assumption|omega
    obtain ⟨b2,o2,qA,qn,qc,eA,en,ec,zA,zn,zc,cA,cn,cc,rfl,hrow2,Ck,hcl⟩:=E5 hk3 ((hrw.mono hg2).mono hg3).at_;have hcn:=hcl.len;rw [bQ] at hcn;subst hcn;have hcs:=Fq x.rows[rk].cells;have Hf:=Wx hk3;have UO:=uD x.rows[rk];have hsz2:=MK hk3;obtain ⟨y,hy⟩:∃ y,y=x.rows[rk]:=⟨_,rfl⟩;rw [← hy] at hrow2 Ck hcl hcs Hf UO hsz2;refine kP H (Kc bN (SQ fun _ cK=>SB (SR fun _ bS=>ak bS rfl (SB ?_))));clear H bN bS;intro a H;skip;refine eT (ι:=Nat × List jK × aj × List aj × OL × GH) (Tc:=[(1,_),(4,_),(5,_),(6,_),(7,_),(8,_)]) (Lc:=[(_,_),(_,_)]) (fun gh=>[(3,gh.2.2.1),(9,vi gh.1)]) (fun gh=>[]++gh.2.2.2.2.1) (fun gh=>gh.2.2.2.2.2) (fun gh=>gh.1≤y.cells.length∧Ei gh.2.2.2.2.2 gh.2.2.1 gh.2.1 gh.2.2.2.1 gh.2.2.2.2.1∧gh.2.1++(yH pid at_ nY (pd+1) (y.cells.drop gh.1)++uJ pid at_ nY (pd+1) (x.rows.drop (rk+1)))=R3++(yH pid at_ nY (pd+1) y.cells++uJ pid at_ nY (pd+1) (x.rows.drop (rk+1)))∧(∀ b o,g3 b=some o→gh.2.2.2.2.2 b=some o)∧gh.2.1.length+iw (y.cells.drop gh.1)+eD (x.rows.drop (rk+1))≤R2.length+eD x.rows) (fun gh=>y.cells.length - gh.1) ((0,R3,_,MH,Qr,g3)) (by exact (H).sub ⟨rfl,rfl,rfl,rfl,rfl,rfl,rfl,rfl,aB⟩) ?_ ?_
    ·exact ⟨gX _,hr3,rfl,fun _ _ h=>h,by dsimp only;rw [jW];omega⟩
    clear H;rintro ⟨ck,R4,v7,JY,Xw,g4⟩ a w hI H;dsimp only at hI H;obtain ⟨hck,hr4,hx4,hg4,Tm⟩:=hI;obtain ⟨v7A,v7c,rfl,-,-⟩:=hr4.row.shape;have r5:aG g4 b2 (o2+rk*6+5)=some (.slice cA y.cells.length cc):=aH hg4 (hrow2 5 _ rfl);have q3h:=aH hg4 (aH hg3 (aH hg2 (aH hgm q3)));have q4h:=aH hg4 (aH hg3 (aH hg2 q4g));dsimp only [lca,aO] at H;refine kP H (SQ fun _ dD=>SR fun _ dO=>Rm rfl (aT uP vD 1 rfl rfl (Rm rfl (Ri ku kQ rfl rfl (Rf ru rfl (Rg rY rfl (by assumption) ?_))))));clear H;intro a H;refine kH H (Rl mE rfl (Rc rfl (Kz dO (Cd rfl ?_ ?_)))) <;> clear H dO
    ·intro jY a H
     try have p65:=dT jY
     have hk4:ck < y.cells.length:=by omega
     obtain ⟨b3,o3,sA,sn,sc,tA,tn,tc,uA,un,uc,gA,gn,gc,rfl,hrow3,hch,hcf⟩:=C8 hk4 (hcl.mono hg4).at_;have hzc:=Wu hk4;have hzz:=uz y.cells[ck];have GY:=MI hk4;rw [jV hk4,yH,adO,jQ] at hx4;obtain ⟨z,hzy⟩:∃ z,z=y.cells[ck]:=⟨_,rfl⟩;rw [← hzy] at hx4 hrow3 hch hcf hzc hzz GY;have zT:=Iu z.id nY (pd+1) 0 z.flow;refine kP H (Kc dD (SQ fun _ dK=>SB (SR fun _ dS=>aT uP vD 1 rfl rfl (Rm rfl (Ri ku kQ rfl rfl (Rf ru rfl (Rg rY rfl (by assumption) ?_)))))));clear H dD;intro a H;refine kH H (Rm rfl (Ri mE kg rfl rfl ?_));clear H;intro a H;refine bP kg (cs:=[vi z.id,.slice sA sn sc,vi z.head.marks.ins,vi z.head.marks.move,.slice tA tn tc,.slice uA un uc,.slice gA gn gc]) H wn rfl rfl (fun j v hj=>H.hp.aG (hrow3 j v hj)) rfl ?_;clear H;intro a H;refine eH kg H wn rfl ?_;clear H;intro b10 a w I9 H;refine bT kg 0 (vs:=[_,_,_,_,_,_,_]) _ H wn rfl rfl rfl rfl rfl rfl rfl rfl ?_;clear H;intro w H;dsimp only [List.set,setRow] at H;refine dS _ _ ?_;clear dS;refine kP H (SC (Rm rfl (aT Dc aD 0 rfl rfl (aT Df jJ 0 rfl rfl ?_))));clear H;intro a H;refine bP ko (cs:=[_,_]) H wn rfl rfl (H.hp.gB 1 rfl rfl) rfl ?_;clear H;intro a H;refine kH H (Rf Y7 rfl (Rg qQ rfl (by assumption) ?_));clear H;intro a H;refine kH H (Rf RG rfl (Rg aD rfl (by assumption) ?_));clear H;intro a H;refine kH H (Rd rfl ?_);clear H;intro a H;refine lJ VP [_,_,_,_,_,_] H wn rfl rfl rfl rfl ?_;clear H;intro a H;refine s_call Rj H wn rfl (ih _ _ H.ro ⟨z.id,z.flow,pid,at_,nY,pd+1⟩ _ hcf (by dsimp only;omega) (by dsimp only;omega) (by dsimp only;omega)) rfl ?_;clear H;rintro v89 WT a w Ux ZU H;obtain ⟨A89,n89,c89,rfl⟩:=Ux.form
     obtain rfl:n89=(yI ⟨z.id,z.flow,pid,at_,nY,pd+1⟩).length:=by simpa using Ux.len
     have hbl:(yI ⟨z.id,z.flow,pid,at_,nY,pd+1⟩).length≤bq z.flow+1:=by unfold yI;rw [kW];dsimp only;omega
     refine Cz (Li:=[_,_,_]) (Lo:=Xw) BD DW rfl rfl H wn rfl rfl hr4.row Ux (by omega) (by omega) rfl ?_;clear H;intro v90 adF news a w ajI aiJ H;refine kH H (aM dK rfl (SC (Rm rfl (Rd rfl (Ra rfl ?_)))));clear H dK;intro a H;refine aJ ?_;refine dH ((ck+1,R4++yI ⟨z.id,z.flow,pid,at_,nY,pd+1⟩,v90,JY++news,adF,WT)) (by exact (H.dB (Pl:=[_,_,_]) (cB:=[_,_]) [1,2] (by decide) rfl).sub ⟨rfl,rfl,rfl,rfl,rfl,rfl,rfl,rfl,aB⟩) ?_ ?_
     ·(try dsimp only);exact ⟨by omega,⟨by rw [jP];exact ajI,by rw [mW];exact (hr4.cat.mono ZU).append aiJ⟩,by rw [← hx4,jQ];rfl,fun b o h=>ZU b o (hg4 b o h),by rw [jP];omega⟩
     first|omega|(dsimp only;omega)
    intro jY a H
    try have p65:=dF jY
    have Ll:y.cells.drop ck=[]:=fI (by omega);refine dR ?_;refine cK _ _ ?_;clear cK;refine kP H (SC (Rm rfl (Rd rfl (Ra rfl ?_))));clear H;intro a H;refine aJ ?_;refine dH ((rk+1,R4,_,JY,Xw,g4)) (by exact (H).sub ⟨rfl,rfl,rfl,rfl,rfl,rfl,rfl,aB⟩) ?_ ?_
    ·(try dsimp only);exact ⟨by omega,hr4,fun h7=>by rw [← Tj h7,jV hk3,uJ,adS,← hy,← hx4,Ll,yH,kD],fun h7=>absurd TV h7,fun b o h=>hg4 b o (hg3 b o h),by rw [Ll] at Tm;simp only [iw,uI,dZ] at Tm;omega⟩
    first|omega|(dsimp only;omega)
   intro iG a H
   try have p54:=dF iG
   refine dR ?_;refine bG _ _ ?_;clear bG;refine aN (fun _ eP=>?_);have VB:=aH hg3 (aH hg2 Pj);refine kP H (SC (Rf KM rfl (Rg jJ rfl VB (Rm rfl (Rm rfl (Rd rfl ?_))))));clear H;intro a H;refine Py kr fC k (k+1) H wn rfl rfl rfl rfl (by omega) (by omega) (by omega) rfl ?_;clear H;intro a H;rw [ah hc3,yE,add_lit,CZ] at H;refine s_call IL H wn rfl (Jt _ _ H.ro [x] _ (by have h:=hpart;rw [ah hc3,yE,add_lit,CZ,he1] at h;exact ((h.mono hgm).mono hg2).mono hg3) (by show 1+cO x.dat+0≤_;omega)) rfl ?_;clear H;rintro v98 WU a w ⟨rfl,ahD⟩ Ji H;rw [OQ] at H;refine kH H (Rm rfl ?_);clear H;intro a H;(iterate 2 refine nA H wn rfl rfl rfl ?_;clear H;intro a H);refine kH H (Ra rfl (aM eP rfl (SC (Rm rfl (Rm rfl (Rd rfl (aM K8 rfl (SC (Rm rfl (Rd rfl (Ra rfl ?_)))))))))));clear H eP K8;intro a H;refine aJ ?_;refine dH ((k+1,at_+n1 x,R3,_,MH,Qr,_)) (by exact (H.dB (Pl:=[_,_]) (cB:=[]) [] (by decide) rfl).sub ⟨rfl,rfl,rfl,rfl,aB⟩) ?_ ?_
   ·try dsimp only
    exact ⟨by omega,hr3.mono Ji,by
    rw [← hX]
    by_cases h6:x.kind=6
    ·rw [Ob (by omega),hR2,au h6,Na,au h6,jQ];rfl
    rw [ah h6,nH] at hR2;rw [Na,ah h6]
    by_cases h7:x.kind=7
    ·have e:=Tj h7;rw [fI (by first|omega|(exfalso;simp_all;done)),uJ,nH] at e;rw [au h7,e,hR2,jQ]
    rw [ah h7,kD,Ob h7,hR2],fun b o h=>Ji b o (hg3 b o (hg2 b o (hgm b o h))),by push_cast;omega⟩
   first|omega|(dsimp only;omega)
  intro h48 a H
  try have p48:=dF h48
  refine kH H (aZ h48 rfl (aS h48 rfl (Pf h48 rfl (Kz bW (Cf rfl rfl ?_)))));clear H bW;intro a H;refine dR ?_;refine bG _ _ ?_;clear bG;refine aN (fun _ gG=>?_);have VB:=aH hg3 (aH hg2 Pj);refine kP H (SC (Rf KM rfl (Rg jJ rfl VB (Rm rfl (Rm rfl (Rd rfl ?_))))));clear H;intro a H;refine Py kr fC k (k+1) H wn rfl rfl rfl rfl (by omega) (by omega) (by omega) rfl ?_;clear H;intro a H;rw [ah hc3,yE,add_lit,CZ] at H;refine s_call IL H wn rfl (Jt _ _ H.ro [x] _ (by have h:=hpart;rw [ah hc3,yE,add_lit,CZ,he1] at h;exact ((h.mono hgm).mono hg2).mono hg3) (by show 1+cO x.dat+0≤_;omega)) rfl ?_;clear H;rintro v98 WU a w ⟨rfl,ahD⟩ Ji H;rw [OQ] at H;refine kH H (Rm rfl ?_);clear H;intro a H;(iterate 2 refine nA H wn rfl rfl rfl ?_;clear H;intro a H);refine kH H (Ra rfl (aM gG rfl (SC (Rm rfl (Rm rfl (Rd rfl (aM K8 rfl (SC (Rm rfl (Rd rfl (Ra rfl ?_)))))))))));clear H gG K8;intro a H;refine aJ ?_;refine dH ((k+1,at_+n1 x,R3,_,MH,Qr,_)) (by exact (H.dB (Pl:=[_,_]) (cB:=[]) [] (by decide) rfl).sub ⟨rfl,rfl,rfl,rfl,aB⟩) ?_ ?_
  ·try dsimp only
   exact ⟨by omega,hr3.mono Ji,by
   rw [← hX]
   by_cases h6:x.kind=6
   ·rw [Ob (by omega),hR2,au h6,Na,au h6,jQ];rfl
   rw [ah h6,nH] at hR2;rw [Na,ah h6]
   by_cases h7:x.kind=7
   ·have e:=Tj h7;rw [fI (by first|omega|(exfalso;simp_all;done)),uJ,nH] at e;rw [au h7,e,hR2,jQ]
   rw [ah h7,kD,Ob h7,hR2],fun b o h=>Ji b o (hg3 b o (hg2 b o (hgm b o h))),by push_cast;omega⟩
  first|omega|(dsimp only;omega)
 intro h19 a H
 try have wL:=dF h19
 refine dR ?_;refine K4 _ _ ?_;clear K4;refine kP H (SR fun _ gT=>Rm rfl (ak gT rfl ?_));clear H gT;intro a H;refine lr H results48 rfl ?_;rw [fI (by omega),tu,nH] at hX;obtain ⟨Gr,hmr,hrep,H⟩:=St.Gf (Li:=[]) H hr1.row (rows:=R.map jK.dat) (by simp) hr1.cat;exact H.rt (by show aC Gr (.sl 6 ((⟨pid,l,pf,pa,nY,pd⟩ :: tu pid nY pd 0 l).map jK.dat)) _;rw [← hp,← hX];exact hrep)
theorem XO:∀ m:Nat,m≤4294967297→P5 m
 | 0,_=>fun _ _ _ _ _ _ h=>absurd h (by omega)
 | m+1,hm=>adW (XO m (by omega)) (by omega)
theorem RX (G:GH) (w0:World) (hG:Hold G w0) (D:jT) (l:List ay) (hv:aC G (.sl 11 (l.map ay.dat)) (bU D.f)) (hz:bq l≤4294967295) :
  Calls prog 13 #[D.val] w0 (bY w0 G fun u G'=>aC G' (.sl 6 ((yI ⟨0,l,-1,0,false,0⟩).map jK.dat)) u):=by
 refine eN [(0,_)] func13 rfl ntmps13 rfl rfl hG ?_;intro a H;refine dh (fun _ K1=>?_);refine fB (cs:=[_,_,_,_,_,_,_,_,_,_,_]) H wn rfl rfl rfl ?_;clear H;intro b1 a w hb1 H;refine kH H (ak K1 rfl (SR fun _ K2=>aT BZ jJ 0 rfl rfl ?_));clear H K1;intro a H;refine lJ JJ [_,_] H wn rfl rfl rfl rfl ?_;clear H;intro a H;refine lJ VP [_,_,_,_,_,_] H wn rfl rfl rfl rfl ?_;clear H;intro a H;refine s_call Rj H wn rfl (XO 4294967297 (by omega) _ _ H.ro ⟨0,l,-1,0,false,0⟩ _ hv (by dsimp only;omega) (Int.le_refl _) (by dsimp only;omega)) rfl ?_;clear H;rintro v7 G7 a w Uw xI H;exact kH H (ak K2 rfl (LR results13 rfl fun H=>H.rt Uw))
end
section
open Go.RowKit
def OM (a:(Int × Int) × ay):Bool:=decide (a.2.kind=7)
def Ae (l:List ay):List ((Int × Int) × ay):=(fM 0 0 l).filter OM
mutual
theorem alN (f t:Int):∀ x:ay,(EX f t x).length≤cO x.dat
 | .mk k c i tx h fl r=>by
  have h4:=oW (.mk k c i tx h fl r);have hf:=O9 i 0 fl;have hr:=abr r;dsimp only [ay.text,ay.head,ay.flow,ay.rows] at h4;rw [EX]
  split
  ·rw [kW];omega
  split
  ·rw [kW];omega
  simp
theorem O9 (f:Int):∀ (t:Int) (l:List ay),(fM f t l).length≤bq l
 | _,[]=>by simp [fM]
 | t,x :: l=>by
  have h1:=alN f t x;have h2:=O9 f (t+rZ x) l;rw [fM,jP]
  simp only [bq,dV,dZ] at *;omega
theorem alO:∀ x:bH,(HZ x).length≤cO x.dat
 | .mk h cs=>by
  have h4:=uD (.mk h cs);have hc:=abo cs;dsimp only [bH.head,bH.cells] at h4;rw [HZ];omega
theorem abr:∀ l:List bH,(rU l).length≤eD l
 | []=>by simp [rU]
 | x :: l=>by
  have h1:=alO x;have h2:=abr l;rw [rU,jP]
  simp only [eD,dV,dZ] at *;omega
theorem alM:∀ x:bD,(EW x).length≤cO x.dat
 | .mk i h f=>by
  have h4:=uz (.mk i h f);have hf:=O9 i 0 f;dsimp only [bD.head,bD.flow] at h4;rw [EW];omega
theorem abo:∀ l:List bD,(jN l).length≤iw l
 | []=>by simp [jN]
 | x :: l=>by
  have h1:=alM x;have h2:=abo l;rw [jN,jP]
  simp only [iw,dV,dZ] at *;omega
end
end
section
open Go.RowKit
theorem mI {r:CR} {f:CS→CR} {s':CS} (h:fG r f=(0,s')):r.1=0∧f r.2=(0,s'):=by
 unfold fG at h
 split at h
 ·rename_i h1;rw [h] at h1;exact absurd rfl h1
 rename_i h1;exact ⟨gu.1 h1,h⟩
theorem IG {r:CR} (h:r.1=0):r=(0,r.2):=Prod.ext h rfl
structure mG (a b c:List Int):Prop where
 eq:c=a++b
 nd:a.Nodup→c.Nodup
 pos:∀ i∈b,1≤i∧i≤1073741824
theorem mG.nil (a:List Int):mG a [] a:=⟨by simp,fun h=>h,fun i h=>by cases h⟩
theorem mG.trans {a b c d e:List Int} (h:mG a b c) (g:mG c d e):mG a (b++d) e:=⟨by rw [g.eq,h.eq,jQ],fun h1=>g.nd (h.nd h1),fun i hi=>(vO.1 hi).elim (h.pos i) (g.pos i)⟩
theorem mG.id {us a:List Int} {x:Int} (h:mh us a x=0):mG a [x] (jm us a x):=by
 unfold jm
 rw [au h]
 unfold mh at h
 by_cases h0:¬ (1≤x∧x≤1073741824)∨x∈us
 ·rw [au h0] at h;cases h
 rw [ah h0] at h;have h1:1≤x∧x≤1073741824:=gu.1 fun h'=>h0 (.inl h')
 by_cases h2:x∈a
 ·rw [au h2] at h;cases h
 exact ⟨rfl,fun h3=>List.nodup_append.2 ⟨h3,by simp,fun u hu v hv=>by rw [vQ.1 hv];exact fun e=>h2 (e ▸ hu)⟩,fun i hi=>by rw [vQ.1 hi];exact h1⟩
theorem mG.iK {C:dL} {s s':CS} {x:Int} (h:iK C s x=(0,s')):mG s.aU [x] s'.aU:=by
 unfold Go.Proofs.YthmanofbmnfemaaGreat.iK at h
 injection h with h1 h2
 rw [← h2];exact mG.id h1
theorem amc {C:dL} {body note:Bool} {t k i:Int} {s s':CS} (h:jo C body note t k i s=(0,s')):mG s.aU (if k=6∨k=7 then [i] else []) s'.aU:=by
 unfold jo at h
 by_cases h3:k=3
 ·rw [au h3] at h;injection h with _ h2;rw [ah (by omega),← h2];exact mG.nil _
 rw [ah h3] at h
 by_cases h6:k=6
 ·rw [au h6] at h;rw [au (.inl h6)];exact mG.iK (mI h).2
 rw [ah h6] at h
 by_cases h7:k=7
 ·rw [au h7] at h;rw [au (.inr h7)];exact mG.iK (mI h).2
 rw [ah h7] at h;rw [ah (by omega)]
 by_cases h8:k=8
 ·rw [au h8] at h;injection h with _ h2;rw [← h2];exact mG.nil _
 rw [ah h8] at h;injection h with _ h2;rw [← h2];exact mG.nil _
theorem VE {n:Nat} {f:CS→CR} {s s':CS} (h:jS n f s=(0,s')):n≠0∧f s=(0,s'):=by
 unfold jS at h
 split at h
 ·cases h
 rename_i h1
 split at h
 ·cases h
 exact ⟨h1,h⟩
mutual
theorem aha (C:dL) (body note:Bool) (t:Int):∀ (x:ay) (s s':CS),dY C body note t x s=(0,s')→mG s.aU (DC x) s'.aU
 | .mk k c i tx h f r,s,s',e=>by
  have hf:=NH C false true t f;have hr:=Y0 C note (t+1) r;rw [dY] at e;obtain ⟨-,e⟩:=mI e;obtain ⟨e1,e⟩:=mI e;obtain ⟨-,e⟩:=mI e;have h1:=amc (IG e1);rw [DC];refine h1.trans ?_
  by_cases h6:k=6
  ·rw [au h6] at e ⊢;rw [ah (show ¬ k=7 by omega),nH];exact hf _ _ e
  rw [ah h6] at e ⊢;rw [kD]
  by_cases h7:k=7
  ·rw [au h7] at e ⊢;exact hr _ _ (VE e).2
  rw [ah h7] at e ⊢
  injection e with _ e
  rw [← e];exact mG.nil _
theorem ahb (C:dL) (note:Bool) (t:Int):∀ (x:bH) (s s':CS),uY C note t x s=(0,s')→mG s.aU (DF x) s'.aU
 | .mk h cs,s,s',e=>by
  have hc:=YZ C note t cs;rw [H8] at e;rw [DF];exact hc _ _ (mI e).2
theorem agZ (C:dL) (note:Bool) (t:Int):∀ (x:bD) (s s':CS),cellC C note t x s=(0,s')→mG s.aU (Dz x) s'.aU
 | .mk i h f,s,s',e=>by
  have hf:=NH C false note t f;rw [zL] at e;dsimp only [bD.id,bD.head,bD.flow] at e;obtain ⟨e1,e⟩:=mI e;have h1:=mG.iK (s':=(iK C s i).2) (Prod.ext e1 rfl);rw [Dz];exact h1.trans (hf _ _ (mI e).2)
theorem NH (C:dL) (body note:Bool) (t:Int):∀ (l:List ay) (s s':CS),fq C body note t l s=(0,s')→mG s.aU (gF l) s'.aU
 | [],s,s',e=>by rw [fq] at e;injection e with _ e;rw [← e];exact mG.nil _
 | x :: r,s,s',e=>by
  rw [fq] at e;obtain ⟨e1,e⟩:=mI e;rw [gF];exact (aha C body note t x s _ (Prod.ext e1 rfl)).trans (NH C body note t r _ _ e)
theorem Y0 (C:dL) (note:Bool) (t:Int):∀ (l:List bH) (s s':CS),fH C note t l s=(0,s')→mG s.aU (wH l) s'.aU
 | [],s,s',e=>by rw [fH] at e;injection e with _ e;rw [← e];exact mG.nil _
 | x :: r,s,s',e=>by
  rw [fH] at e;obtain ⟨e1,e⟩:=mI e;rw [wH];exact (ahb C note t x s _ (Prod.ext e1 rfl)).trans (Y0 C note t r _ _ e)
theorem YZ (C:dL) (note:Bool) (t:Int):∀ (l:List bD) (s s':CS),kE C note t l s=(0,s')→mG s.aU (xK l) s'.aU
 | [],s,s',e=>by rw [kE] at e;injection e with _ e;rw [← e];exact mG.nil _
 | x :: r,s,s',e=>by
  rw [kE] at e;obtain ⟨e1,e⟩:=mI e;rw [xK];exact (agZ C note t x s _ (Prod.ext e1 rfl)).trans (YZ C note t r _ _ e)
end
def ou (l:List ay):Prop:=∃ (C:dL) (body note:Bool) (t:Int) (s s':CS),fq C body note t l s=(0,s')
structure FQ (x:ay):Prop where
 txt:qB x.text=true
 kd:1≤x.kind∧x.kind≤8
 rw0:x.kind≠7→x.rows=[]
 fl0:x.kind≠6→x.flow=[]
 fl:ou x.flow
 rw:∀ r∈x.rows,∀ c∈r.cells,ou c.flow
theorem aly:ou []:=⟨⟨[],[],[],[]⟩,false,false,0,⟨0,[]⟩,⟨0,[]⟩,by rw [fq]⟩
theorem ahw {x:ay} (h:jw x=0):qB x.text=true∧(1≤x.kind∧x.kind≤8)∧(x.kind≠7→x.rows=[])∧(x.kind≠6→x.flow=[]):=by
 unfold jw at h
 split at h
 ·cases h
 rename_i h1
 split at h
 ·cases h
 rename_i h2
 split at h
 ·cases h
 rename_i h3
 have hk:decide (1≤x.kind∧x.kind≤8)=true:=by
  cases hd:decide (1≤x.kind∧x.kind≤8)
  ·rw [hd] at h1;exact absurd rfl h1
  rfl
 refine ⟨by simpa using h3,oD hk,fun h7=>?_,fun h6=>?_⟩
 ·rw [Bool.not_eq_true] at h2
  unfold vZ at h2
  simp only [Bool.or_eq_false_iff] at h2
  have h4:=h2.2;rw [dQ h7,uG,vS] at h4;exact List.length_eq_zero_iff.1 (by omega)
 rw [Bool.not_eq_true] at h2
 unfold vZ at h2
 simp only [Bool.or_eq_false_iff] at h2
 have h4:=h2.1.2;rw [dQ h6,uG,vS] at h4;exact List.length_eq_zero_iff.1 (by omega)
theorem cells_ok {C:dL} {note:Bool} {t:Int}:∀ {l:List bD} {s s':CS},kE C note t l s=(0,s')→∀ c∈l,ou c.flow
 | [],_,_,_,_,h=>by cases h
 | x :: r,s,s',e,c,h=>by
  rw [kE] at e;obtain ⟨e1,e⟩:=mI e
  rcases ow.1 h with rfl|h
  ·have e2:cellC C note t c s=(0,(cellC C note t c s).2):=Prod.ext e1 rfl
   generalize (cellC C note t c s).2=s2 at e2
   rw [zL] at e2;exact ⟨C,false,note,t,_,_,(mI (mI e2).2).2⟩
  exact cells_ok e c h
theorem abz {C:dL} {note:Bool} {t:Int}:∀ {l:List bH} {s s':CS},fH C note t l s=(0,s')→∀ r∈l,∀ c∈r.cells,ou c.flow
 | [],_,_,_,_,h=>by cases h
 | x :: r,s,s',e,q,h=>by
  rw [fH] at e;obtain ⟨e1,e⟩:=mI e
  rcases ow.1 h with rfl|h
  ·have e2:uY C note t q s=(0,(uY C note t q s).2):=Prod.ext e1 rfl
   generalize (uY C note t q s).2=s2 at e2
   rw [H8] at e2;exact cells_ok (mI e2).2
  exact abz e q h
theorem ou.head {x:ay} {l:List ay} (h:ou (x :: l)):FQ x∧ou l:=by
 obtain ⟨C,body,note,t,s,s',e⟩:=h;rw [fq] at e;obtain ⟨e1,e⟩:=mI e;have e2:dY C body note t x s=(0,(dY C body note t x s).2):=Prod.ext e1 rfl
 generalize (dY C body note t x s).2=s2 at e2
 refine ⟨?_,⟨C,body,note,t,_,_,e⟩⟩;rw [LV] at e2;obtain ⟨f1,e2⟩:=mI e2;(iterate 2 obtain ⟨-,e2⟩:=mI e2);obtain ⟨h1,h2,h3,h4⟩:=ahw f1;refine ⟨h1,h2,h3,h4,?_,?_⟩
 ·by_cases h6:x.kind=6
  ·rw [au h6] at e2;exact ⟨_,_,_,_,_,_,e2⟩
  rw [h4 h6];exact aly
 by_cases h7:x.kind=7
 ·rw [ah (by omega),au h7] at e2;exact abz (VE e2).2
 rw [h3 h7];exact fun _ h=>by cases h
theorem ou.tail {x:ay} {l:List ay} (h:ou (x :: l)):ou l:=h.head.2
theorem ou.mem:∀ {l:List ay} {x:ay},ou l→x∈l→FQ x
 | y :: l,x,h,hx=>by
  rcases ow.1 hx with rfl|hx
  ·exact h.head.1
  exact ou.mem h.head.2 hx
theorem FQ.e {x:ay} (h:FQ x):Al x=0:=by unfold Al JW;rw [au h.txt];split <;> rfl
theorem FQ.n1 {x:ay} (h:FQ x):n1 x=gD x:=by unfold Go.Proofs.YthmanofbmnfemaaGreat.n1;rw [au h.e]
theorem ou.div {l:List ay} (h:ou l):xA l=true:=by
 unfold xA
 rw [lU];exact fun x hx=>dQ (h.mem hx).e
theorem ou.len {l:List ay} (h:ou l):oQ l=uh l:=by unfold oQ;rw [au h.div]
mutual
theorem aoS (note:Bool) (t:Int):∀ x:ay,((uw note t x).map jh.id).Sublist (DC x)
 | .mk k c i tx h f r=>by
  have hf:=MG true t f;have hr:=acY note t r;rw [uw,DC]
  by_cases h6:k=6
  ·rw [au h6,au (.inl h6),au h6,ah (by omega),nH];exact List.Sublist.cons_cons _ hf
  rw [ah h6,ah h6,kD]
  by_cases h7:k=7
  ·rw [au h7,au h7,au (.inr h7)];exact List.Sublist.cons _ hr
  rw [ah h7];exact List.nil_sublist _
theorem MG (note:Bool) (t:Int):∀ l:List ay,((iT note t l).map jh.id).Sublist (gF l)
 | []=>by rw [iT];exact List.nil_sublist _
 | x :: l=>by
  rw [iT,gF,mW];exact (aoS note t x).append (MG note t l)
theorem aoT (note:Bool) (t:Int):∀ x:bH,((uy note t x).map jh.id).Sublist (DF x)
 | .mk h cs=>by rw [uy,DF];exact acW note t cs
theorem acY (note:Bool) (t:Int):∀ l:List bH,((mF note t l).map jh.id).Sublist (wH l)
 | []=>by rw [mF];exact List.nil_sublist _
 | x :: l=>by
  rw [mF,wH,mW];exact (aoT note t x).append (acY note t l)
theorem aoR (note:Bool) (t:Int):∀ x:bD,((uq note t x).map jh.id).Sublist (Dz x)
 | .mk i h f=>by rw [uq,Dz];exact List.Sublist.cons_cons _ (MG note (t+1) f)
theorem acW (note:Bool) (t:Int):∀ l:List bD,((mR note t l).map jh.id).Sublist (xK l)
 | []=>by rw [mR];exact List.nil_sublist _
 | x :: l=>by
  rw [mR,xK,mW];exact (aoR note t x).append (acW note t l)
end
structure Im (l:List ay):Prop where
 ok:ou l
 nd:(gF l).Nodup
 pos:∀ i∈gF l,1≤i∧i≤1073741824
theorem Im.of {C:dL} {body note:Bool} {t n:Int} {l:List ay} {s':CS} (h:fq C body note t l ⟨n,[]⟩=(0,s')):Im l:=by
 have he:=NH C body note t l _ _ h;have hn:=he.nd List.nodup_nil;rw [he.eq] at hn;exact ⟨⟨C,body,note,t,_,_,h⟩,by simpa using hn,he.pos⟩
theorem Im.ids {l:List ay} (h:Im l):((dx l).map jh.id).Nodup:=by
 have hs:=MG false 0 l;rw [dx,dV,List.nodup_cons];exact ⟨fun hm=>by have:=h.pos _ (hs.subset hm);dsimp only at this;omega,hs.nodup h.nd⟩
end
section
open Go.ChangeShapes Go.RowKit Go.Deep
abbrev qK (W:World):GH:=fun k=>W.heap[k]?
theorem ahA {W:World} {b o:Nat} {v:aj} (h:W.cell? ⟨b,o,none⟩=some v):aG (qK W) b o=some v:=by
 unfold World.cell? at h
 unfold aG qK
 split at h
 ·rename_i c e f hh
  simp only at hh
  rw [hh];simpa using h
 cases h
theorem aaQ {α:Type} {p:Nat→α→Prop}:∀ n:Nat,(∀ i,i < n→∃ x,p i x)→∃ l:List α,l.length=n∧∀ i x,l[i]?=some x→p i x
 | 0,_=>⟨[],rfl,fun i x h=>by simp at h⟩
 | n+1,h=>by
  obtain ⟨l,hl,hp⟩:=aaQ n (fun i hi=>h i (by omega));obtain ⟨x,hx⟩:=h n (by omega);refine ⟨l++[x],by simp [hl],fun i y hy=>?_⟩
  by_cases hi:i < l.length
  ·exact hp i y (by rwa [CY hi] at hy)
  rw [BL (by omega)] at hy
  have hin:i - l.length=0:=by
   have:=(lG.1 hy).1
   simp at this;omega
  rw [hin] at hy
  simp only [En,oz] at hy
  subst hy;rw [show i=n by omega];exact hx
theorem adZ {H:Type} (d:DataW H):1≤Rows.uptoBulk d:=by
 cases d <;> (try simp only [Rows.uptoBulk]) <;> (try omega)
 rename_i x;cases x <;> simp only [Rows.uptoBulk] <;> omega
theorem XQ {H ρ:Type} {dat:ρ→List Dat}:∀ (rs:List ρ) (D:Nat→DataW H),(∀ i r,rs[i]?=some r→cO (dat r)+1≤8*Rows.uptoBulk (D i))→dZ (rs.map dat)≤8*Rows.uptoBulkAll ((List.range rs.length).map D)
 | [],D,_=>gX _
 | r :: rs,D,h=>by
  have h0:=h 0 r rfl;have hp:=adZ (D 0);have ih:=XQ rs (fun i=>D (i+1)) (fun i r hr=>h (i+1) r (by simpa using hr));rw [kW,List.range_succ_eq_map]
  simp only [dV,List.map_map,dZ,Rows.uptoBulkAll]
  have e:(List.map (D ∘ Nat.succ) (List.range rs.length))=(List.map (fun i=>D (i+1)) (List.range rs.length)):=rfl;rw [e];omega
theorem XP {H:Type} {D:Nat→DataW H}:∀ {n i:Nat},i < n→Rows.uptoBulk (D i)≤Rows.uptoBulkAll ((List.range n).map D)
 | 0,i,h=>absurd h (by omega)
 | n+1,i,h=>by
  have key:∀ (l m:List (DataW H)),Rows.uptoBulkAll (l++m)=Rows.uptoBulkAll l+Rows.uptoBulkAll m:=by
   intro l m
   induction l with
   | nil=>simp [Rows.uptoBulkAll]
   | cons x l ih=>simp only [nS,Rows.uptoBulkAll,ih];omega
  rw [List.range_succ,mW,key]
  by_cases hi:i < n
  ·have:=XP (D:=D) hi;omega
  have:i=n:=by omega
  subst this
  simp only [dV,uI,Rows.uptoBulkAll];omega
section
variable {H:Type} {enc:TypeId × aj→H} {P:Program} {W:World} {base:Nat} {spare:Nat→Bool} {held:Bool}
theorem wN {ρ:Type} {dat:ρ→List Dat} {t e:TypeId} {sz:Nat} (hsz:0 < sz) {fuel:Nat} {cs:List aj} {x:DataW H × List MemPlace} (ht:P.underlying t=some (.slice e)) (hc:P.cellsOf e=sz) (h:DataW.trod enc P W base spare held fuel t cs=some x)
  (row:∀ n cs' D Pl,DataW.trod enc P W base spare held n e cs'=some (D,Pl)→Rows.uptoBulk D < Rows.uptoBulk x.1→∃ r:ρ,bJ (qK W) (dat r) cs'∧cO (dat r)+1≤8*Rows.uptoBulk D) :
  ∃ (rs:List ρ) (v:aj),cs=[v]∧aC (qK W) (.sl sz (rs.map dat)) v∧dZ (rs.map dat)+8≤8*Rows.uptoBulk x.1:=by
 rcases open_slice ht h with ⟨rfl,rfl⟩|⟨a,len,cap,m,n,D,Pl,rfl,hb,hl,hm,hmm,rfl,hx⟩
 ·exact ⟨[],_,rfl,aC.lD rfl (by decide),by simp [dZ,Rows.uptoBulk]⟩
 obtain ⟨rs,hrl,hrs⟩:=aaQ (p:=fun i (r:ρ)=>∃ cs',W.cells? base (a.add (i*sz)) sz=some cs'∧bJ (qK W) (dat r) cs'∧cO (dat r)+1≤8*Rows.uptoBulk (D i)) len (fun i hi=>by
  have him:i < m:=by rw [hmm];split <;> omega
  obtain ⟨cs',h1,h2⟩:=hx i him;rw [hc] at h1;have hb1:=XP (D:=D) hi;obtain ⟨r,hr1,hr2⟩:=row n cs' (D i) (Pl i) h2 (by simp only [Rows.uptoBulk];omega)
  exact ⟨r,cs',h1,hr1,hr2⟩)
 refine ⟨rs,_,rfl,?_,?_⟩
 ·simp only [aC,bQ]
  refine ⟨some a,cap,by rw [hrl],by omega,hm,fun hne=>?_⟩;obtain ⟨b,off,spot⟩:=a
  have hlen:0 < rs.length:=by cases rs with|nil=>simp at hne|cons _ _=>simp
  obtain ⟨cs0,h1,-,-⟩:=hrs 0 rs[0] (fP hlen);obtain ⟨-,hl0,hg0⟩:=World.cells?_some h1
  have hspot:spot=none:=by
   have h3:=hg0 0 hsz;rw [fP (by omega)] at h3
   simpa [Addr.add] using World.cell?_spot h3
  subst hspot;refine ⟨b,off,rfl,mU.mk fun k r hk=>?_⟩;rw [qE] at hk;obtain ⟨y,hy,rfl⟩:=oC.1 hk;obtain ⟨cs',h2,h3,-⟩:=hrs k y hy;obtain ⟨-,hl1,hg1⟩:=World.cells?_some h2;refine ⟨cs',hl1,fun j u hj=>ahA ?_,h3⟩
  have hj2:j < sz:=by rw [← hl1];exact (lG.1 hj).1
  have:=hg1 j hj2;rw [add_add,Go.WideShapes.add_plain] at this;rw [show off+k*sz+j=off+(k*sz+j) by omega,this];exact hj
 have:=XQ rs D (fun i r hr=>(hrs i r hr).choose_spec.2.2);rw [hrl] at this
 simp only [Rows.uptoBulk];omega
end
structure sV (P:Program) (t:TypeId) (sz:Nat) (fs:List (TypeId × Nat × Nat)):Prop where
 und:P.underlying t=some (.struct (P.fieldsOf t))
 cells:P.cellsOf t=sz
 KS:(P.fieldsOf t).toList.map (fun f=>(f.type,f.offset,P.cellsOf f.type))=fs
theorem uW {P:Program} {H:Type} {enc:TypeId × aj→H} {W:World} {base:Nat} {spare:Nat→Bool} {held:Bool} {t:TypeId} {sz fuel:Nat} {fs:List (TypeId × Nat × Nat)} {cs:List aj} {x:DataW H × List MemPlace} (hs:sV P t sz fs) (h:DataW.trod enc P W base spare held fuel t cs=some x) :
  ∃ (xs:List (DataW H × List MemPlace)) (n:Nat),x.1=.agg (xs.map (·.1))∧cs.length=sz∧xs.length=fs.length∧∀ (i:Nat) (ti:TypeId) (off k:Nat),fs[i]?=some (ti,off,k)→DataW.trod enc P W base spare held n ti ((cs.drop off).take k)=xs[i]?:=by
 obtain ⟨xs,n,-,rfl,hl,hxl,hf⟩:=DataW.trod_struct hs.und h;refine ⟨xs,n,rfl,by rw [hl,hs.cells],by rw [hxl,← hs.KS];simp,fun i ti off k hi=>?_⟩;rw [← hs.KS,qE] at hi;obtain ⟨f,hf1,hf2⟩:=oC.1 hi
 simp only [iU] at hf2
 obtain ⟨rfl,rfl,rfl⟩:=hf2;exact hf i f (by simpa using hf1)
section
variable {H:Type} {enc:TypeId × aj→H} {W:World} {base:Nat} {spare:Nat→Bool} {held:Bool}
theorem anq:sV prog 171 2 [(3,0,1),(3,1,1)]:=⟨by kernel_rfl,by kernel_rfl,by kernel_rfl⟩
theorem abx {n:Nat} {cs:List aj} {D:DataW H} {Pl:List MemPlace} (h:DataW.trod enc prog W base spare held n 171 cs=some (D,Pl)):∃ r:jL,bJ (qK W) r.dat cs∧cO r.dat+1≤8*Rows.uptoBulk D:=by
 obtain ⟨xs,m,hx,hl,hxl,hf⟩:=uW anq h
 match cs,hl,xs,hxl with
 | [c0,c1],_,[y0,y1],_ =>
  have h0:=hf 0 _ _ _ rfl;have h1:=hf 1 _ _ _ rfl;obtain ⟨k0,e0,d0,-⟩:=DataW.trod_int underlying3 h0;obtain ⟨k1,e1,d1,-⟩:=DataW.trod_int underlying3 h1
  simp at e0 e1
  subst e0 e1
  simp only at hx
  refine ⟨⟨k0,k1⟩,?_,?_⟩
  ·simp [bJ,jL.dat,aC,Value.oneCell']
  rw [hx];simp [d0,d1,jL.dat,cO,pW,Rows.uptoBulk,Rows.uptoBulkAll]
theorem ani:sV prog 115 2 [(3,0,1),(3,1,1)]:=⟨by kernel_rfl,by kernel_rfl,by kernel_rfl⟩
theorem amk {n:Nat} {cs:List aj} {D:DataW H} {Pl:List MemPlace} (h:DataW.trod enc prog W base spare held n 115 cs=some (D,Pl)):∃ r:nG,bJ (qK W) r.dat cs∧cO r.dat+1≤8*Rows.uptoBulk D:=by
 obtain ⟨xs,m,hx,hl,hxl,hf⟩:=uW ani h
 match cs,hl,xs,hxl with
 | [c0,c1],_,[y0,y1],_ =>
  have h0:=hf 0 _ _ _ rfl;have h1:=hf 1 _ _ _ rfl;obtain ⟨k0,e0,d0,-⟩:=DataW.trod_int underlying3 h0;obtain ⟨k1,e1,d1,-⟩:=DataW.trod_int underlying3 h1
  simp at e0 e1
  subst e0 e1
  simp only at hx
  refine ⟨⟨k0,k1⟩,?_,?_⟩
  ·simp [bJ,nG.dat,aC,Value.oneCell']
  rw [hx];simp [d0,d1,nG.dat,cO,pW,Rows.uptoBulk,Rows.uptoBulkAll]
theorem anl:sV prog 117 4 [(3,0,1),(3,1,1),(3,2,1),(4,3,1)]:=⟨by kernel_rfl,by kernel_rfl,by kernel_rfl⟩
theorem amm {n:Nat} {cs:List aj} {D:DataW H} {Pl:List MemPlace} (h:DataW.trod enc prog W base spare held n 117 cs=some (D,Pl)):∃ r:mH,bJ (qK W) r.dat cs∧cO r.dat+1≤8*Rows.uptoBulk D:=by
 obtain ⟨xs,m,hx,hl,hxl,hf⟩:=uW anl h
 match cs,hl,xs,hxl with
 | [c0,c1,c2,c3],_,[y0,y1,y2,y3],_ =>
  have h0:=hf 0 _ _ _ rfl;have h1:=hf 1 _ _ _ rfl;have h2:=hf 2 _ _ _ rfl;have h3:=hf 3 _ _ _ rfl;obtain ⟨k0,e0,d0,-⟩:=DataW.trod_int underlying3 h0;obtain ⟨k1,e1,d1,-⟩:=DataW.trod_int underlying3 h1;obtain ⟨k2,e2,d2,-⟩:=DataW.trod_int underlying3 h2;obtain ⟨k3,e3,d3⟩:=DataW.trod_bool underlying4 h3
  simp at e0 e1 e2 e3
  subst e0 e1 e2 e3
  simp only at hx
  refine ⟨⟨k0,k1,k2,k3⟩,?_,?_⟩
  ·simp [bJ,mH.dat,aC,Value.oneCell']
  rw [hx];simp [d0,d1,d2,d3,mH.dat,cO,pW,Rows.uptoBulk,Rows.uptoBulkAll]
theorem anp:sV prog 27 4 [(3,0,1),(3,1,1),(24,2,1),(25,3,1)]:=⟨by kernel_rfl,by kernel_rfl,by kernel_rfl⟩
theorem anj:sV prog 29 5 [(23,0,1),(27,1,4)]:=⟨by kernel_rfl,by kernel_rfl,by kernel_rfl⟩
theorem X6:prog.cellsOf 171=2:=by kernel_rfl
theorem aep:prog.cellsOf 115=2:=by kernel_rfl
theorem aer:prog.cellsOf 117=4:=by kernel_rfl
theorem Pm {n:Nat} {cs:List aj} {x:DataW H × List MemPlace} (h:DataW.trod enc prog W base spare held n 29 cs=some x):∃ (r:jl) (p d l:aj),cs=[p,vi r.marks.ins,vi r.marks.move,d,l]∧qC (qK W) r p d l∧oV r+15≤8*Rows.uptoBulk x.1:=by
 obtain ⟨xs,m,hx,hl,hxl,hf⟩:=uW anj h
 match cs,hl,xs,hxl with
 | [c0,c1,c2,c3,c4],_,[y0,y1],_ =>
  have h0:=hf 0 _ _ _ rfl;have h1:=hf 1 _ _ _ rfl;obtain ⟨ps,pv,e0,rp,sp⟩:=wN (dat:=jL.dat) (sz:=2) (by omega) underlying23 X6 h0 (fun n cs' D Pl hh _=>abx hh);obtain ⟨zs,m2,hz,hzl,hzx,zX⟩:=uW anp h1
  match zs,hzx with
  | [z0,z1,z2,z3],_ =>
   have g0:=zX 0 _ _ _ rfl;have g1:=zX 1 _ _ _ rfl;have g2:=zX 2 _ _ _ rfl;have g3:=zX 3 _ _ _ rfl;obtain ⟨k0,e1,d0,-⟩:=DataW.trod_int underlying3 g0;obtain ⟨k1,e2,d1,-⟩:=DataW.trod_int underlying3 g1;obtain ⟨ds,dv,e3,rd,sd⟩:=wN (dat:=nG.dat) (sz:=2) (by omega) underlying24 aep g2 (fun n cs' D Pl hh _=>amk hh);obtain ⟨ls,lv,e4,rl,sl⟩:=wN (dat:=mH.dat) (sz:=4) (by omega) underlying25 aer g3 (fun n cs' D Pl hh _=>amm hh)
   simp at e0 e1 e2 e3 e4
   subst e0 e1 e2 e3 e4;refine ⟨⟨ps,⟨k0,k1,ds,ls⟩⟩,_,_,_,rfl,⟨rp,rd,rl⟩,?_⟩;have UN:=CK ⟨ps,⟨k0,k1,ds,ls⟩⟩
   simp only at UN
   rw [hx]
   simp only [dV,uI,Rows.uptoBulk,Rows.uptoBulkAll,hz,d0,d1]
   omega
theorem ank:sV prog 68 11 [(3,0,1),(3,1,1),(3,2,1),(9,3,1),(29,4,5),(22,9,1),(66,10,1)]:=⟨by kernel_rfl,by kernel_rfl,by kernel_rfl⟩
theorem anr:sV prog 144 6 [(29,0,5),(142,5,1)]:=⟨by kernel_rfl,by kernel_rfl,by kernel_rfl⟩
theorem ang:sV prog 147 7 [(3,0,1),(29,1,5),(22,6,1)]:=⟨by kernel_rfl,by kernel_rfl,by kernel_rfl⟩
theorem QI:prog.cellsOf 68=11:=by kernel_rfl
theorem aev:prog.cellsOf 144=6:=by kernel_rfl
theorem aen:prog.cellsOf 147=7:=by kernel_rfl
theorem abv:∀ (N:Nat) (n:Nat) (cs:List aj) (D:DataW H) (Pl:List MemPlace),DataW.trod enc prog W base spare held n 68 cs=some (D,Pl)→Rows.uptoBulk D < N→∃ r:ay,bJ (qK W) r.dat cs∧cO r.dat+1≤8*Rows.uptoBulk D
 | 0,_,_,_,_,_,hN=>absurd hN (by omega)
 | N+1,n,cs,D,Pl,h,hN=>by
  have ih:=abv N;obtain ⟨xs,m,hx,hl,hxl,hf⟩:=uW ank h
  match cs,hl,xs,hxl with
  | [c0,c1,c2,c3,c4,c5,c6,c7,c8,c9,c10],_,[y0,y1,y2,y3,y4,y5,y6],_ =>
   have h0:=hf 0 _ _ _ rfl;have h1:=hf 1 _ _ _ rfl;have h2:=hf 2 _ _ _ rfl;have h3:=hf 3 _ _ _ rfl;have h4:=hf 4 _ _ _ rfl;have h5:=hf 5 _ _ _ rfl;have h6:=hf 6 _ _ _ rfl
   simp only at hx
   have hD:Rows.uptoBulk D=Rows.uptoBulk y0.1+(Rows.uptoBulk y1.1+(Rows.uptoBulk y2.1+(Rows.uptoBulk y3.1+(Rows.uptoBulk y4.1+(Rows.uptoBulk y5.1+(Rows.uptoBulk y6.1+0))))))+1:=by
    rw [hx];simp only [dV,uI,Rows.uptoBulk,Rows.uptoBulkAll]
   obtain ⟨k0,e0,d0,-⟩:=DataW.trod_int underlying3 h0;obtain ⟨k1,e1,d1,-⟩:=DataW.trod_int underlying3 h1;obtain ⟨k2,e2,d2,-⟩:=DataW.trod_int underlying3 h2;obtain ⟨s,e3,d3,-⟩:=DataW.trod_string underlying9 h3;obtain ⟨hd,p,d,l,e4,rh,sh⟩:=Pm h4;obtain ⟨fl,fv,e5,rf,sf⟩:=wN (dat:=ay.dat) (sz:=11) (by omega) underlying22 QI h5 (fun n cs' D' cB hh hlt=>ih n cs' D' cB hh (by omega))
   obtain ⟨rs,rv,e6,rr,sr⟩:=wN (dat:=bH.dat) (sz:=6) (by omega) underlying66 aev h6 (fun n cs' D' cB hh hlt=>by
    obtain ⟨xs,m,hx,hl,hxl,hf⟩:=uW anr hh
    match cs',hl,xs,hxl with
    | [a0,a1,a2,a3,a4,a5],_,[w0,w1],_ =>
     have g0:=hf 0 _ _ _ rfl;have g1:=hf 1 _ _ _ rfl
     simp only at hx
     have hD':Rows.uptoBulk D'=Rows.uptoBulk w0.1+(Rows.uptoBulk w1.1+0)+1:=by
      rw [hx];simp only [dV,uI,Rows.uptoBulk,Rows.uptoBulkAll]
     obtain ⟨hd2,p2,d2',l2,q0,rh2,sh2⟩:=Pm g0
     obtain ⟨cl,cv,q1,rc,sc⟩:=wN (dat:=bD.dat) (sz:=7) (by omega) underlying142 aen g1 (fun n cs'' D'' apl hh2 hlt2=>by
      obtain ⟨xs,m,hx2,hl2,akh,hf2⟩:=uW ang hh2
      match cs'',hl2,xs,akh with
      | [b0,b1,b2,b3,b4,b5,b6],_,[v0,v1,v2],_ =>
       have u0:=hf2 0 _ _ _ rfl;have u1:=hf2 1 _ _ _ rfl;have u2:=hf2 2 _ _ _ rfl
       simp only at hx2
       have apt:Rows.uptoBulk D''=Rows.uptoBulk v0.1+(Rows.uptoBulk v1.1+(Rows.uptoBulk v2.1+0))+1:=by
        rw [hx2];simp only [dV,uI,Rows.uptoBulk,Rows.uptoBulkAll]
       obtain ⟨j0,t0,z0,-⟩:=DataW.trod_int underlying3 u0;obtain ⟨hd3,p3,d3',l3,t1,rh3,sh3⟩:=Pm u1;obtain ⟨RS,fv3,t2,rf3,sf3⟩:=wN (dat:=ay.dat) (sz:=11) (by omega) underlying22 QI u2 (fun n cs3 D3 Pl3 hh3 hlt3=>ih n cs3 D3 Pl3 hh3 (by omega))
       simp at t0 t1 t2
       obtain ⟨rfl,rfl,rfl,rfl,rfl⟩:=t1;subst t0 t2;have hz:=uz (bD.mk j0 hd3 RS)
       simp only [bD.head,bD.flow] at hz
       have bz:Rows.uptoBulk v0.1=1:=by rw [z0];rfl
       exact ⟨bD.mk j0 hd3 RS,bJ.O1 (x:=bD.mk j0 hd3 RS) rh3 rf3,by simp only [bq] at hz;omega⟩)
     simp at q0 q1
     obtain ⟨rfl,rfl,rfl,rfl,rfl⟩:=q0;subst q1;have hz:=uD (bH.mk hd2 cl)
     simp only [bH.head,bH.cells] at hz
     exact ⟨bH.mk hd2 cl,bJ.aaY (x:=bH.mk hd2 cl) rh2 rc,by simp only [iw] at hz;omega⟩)
   simp at e0 e1 e2 e3 e4 e5 e6
   obtain ⟨rfl,rfl,rfl,rfl,rfl⟩:=e4;subst e0 e1 e2 e3 e5 e6;have hz:=oW (ay.mk k0 k1 k2 s hd fl rs)
   simp only [ay.text,ay.head,ay.flow,ay.rows] at hz
   have b0:Rows.uptoBulk y0.1=1:=by rw [d0];rfl
   have b1:Rows.uptoBulk y1.1=1:=by rw [d1];rfl
   have b2:Rows.uptoBulk y2.1=1:=by rw [d2];rfl
   have b3:Rows.uptoBulk y3.1=s.size+1:=by rw [d3];show s.data.toList.length+1=s.data.size+1;rw [yD]
   exact ⟨ay.mk k0 k1 k2 s hd fl rs,bJ.mkItem (x:=ay.mk k0 k1 k2 s hd fl rs) rh rf rr,by simp only [bq,eD] at hz;omega⟩
theorem abw {n:Nat} {cs:List aj} {x:DataW H × List MemPlace} (h:DataW.trod enc prog W base spare held n 22 cs=some x):∃ (l:List ay) (v:aj),cs=[v]∧aC (qK W) (.sl 11 (l.map ay.dat)) v∧bq l+8≤8*Rows.uptoBulk x.1 :=
 wN (dat:=ay.dat) (sz:=11) (by omega) underlying22 QI h (fun n cs' D' cB hh _=>abv _ n cs' D' cB hh (Nat.lt_succ_self _))
end
end
section
open Go.RowKit
theorem PV:prog.underlying 103=some (.slice 48):=by kernel_rfl
theorem QS:∀ args w,(callFunc 104 args).run prog w=.ok (.enter 104 args) w:=enters func104 rfl (by kernel_rfl)
section
variable {N:Nat} {D:List Deferred} {w0:World} {F:Nat→Prop} {G0 G:GH} {A B C:OL} {T:List (Nat × aj)} {a:Act} {w:World}
theorem St.VX (h:St N D w0 F G0 G (A++(B++C)) T a w):St N D w0 F G0 G ((A++C)++B) T a w:=h.perm (by rw [jQ];exact List.Perm.append_left A og)
theorem St.VW (h:St N D w0 F G0 G ((A++C)++B) T a w):St N D w0 F G0 G (A++(B++C)) T a w:=h.perm (by rw [jQ];exact List.Perm.append_left A og)
end
theorem alz {x:ay} (h:FQ x):rZ x=n1 x:=by rw [h.n1];rfl
abbrev tF (l:List ((Int × Int) × ay)):List ((Int × Int) × ay):=l.filter OM
theorem acg {f:Int} {at_:Int} {x:ay}:tF (EX f at_ x)=(if x.kind=7 then [((f,at_),x)] else [])++((if x.kind=6 then tF (fM x.id 0 x.flow) else [])++(if x.kind=7 then tF (rU x.rows) else [])):=by
 obtain ⟨k,c,i,t,h,fl,r⟩:=x
 simp only [EX,ay.kind,ay.id,ay.flow,ay.rows]
 by_cases h6:k=6
 ·subst h6;simp [tF,OM,ay.kind]
 by_cases h7:k=7
 ·subst h7;simp [tF,OM,ay.kind]
 simp [h6,h7,tF]
def H6 (p:Int × Int):List Dat:=[li p.1,li p.2]
theorem amg {G:GH} (a b:Int):bJ G (H6 (a,b)) [vi a,vi b]:=⟨_,_,rfl,⟨rfl,rfl⟩,_,_,rfl,⟨rfl,rfl⟩,rfl⟩
structure El (g:GH) (v u:aj) (R:List ((Int × Int) × ay)) (xs ys:List aj) (La Lb:OL):Prop where
 it:gQ 68 11 v R.length xs La
 ic:ig g 11 (R.map fun q=>q.2.dat) xs
 ps:gQ 48 2 u R.length ys Lb
 pc:ig g 2 (R.map fun q=>H6 q.1) ys
theorem El.mono {g g':GH} {v u:aj} {R:List ((Int × Int) × ay)} {xs ys:List aj} {La Lb:OL} (h:El g v u R xs ys La Lb) (hm:∀ b o,g b=some o→g' b=some o):El g' v u R xs ys La Lb:=⟨h.it,h.ic.mono hm,h.ps,h.pc.mono hm⟩
def yB (T:List ((Int × Int) × ay)) (u:aj) (G':GH):Prop:=∃ a b,u=.tuple #[a,b]∧aC G' (.sl 11 (T.map fun q=>q.2.dat)) a∧aC G' (.sl 2 (T.map fun q=>H6 q.1)) b
theorem yB.mono {T:List ((Int × Int) × ay)} {u:aj} {G G':GH} (hm:∀ b o,G b=some o→G' b=some o) (h:yB T u G):yB T u G':=let ⟨a,b,h1,h2,h3⟩:=h;⟨a,b,h1,h2.mono hm,h3.mono hm⟩
def Qj (m:Nat):Prop:=∀ (G:GH) (w0:World),Hold G w0→∀ (f:Int) (l:List ay) (v:aj),aC G (.sl 11 (l.map ay.dat)) v→ou l→bq l < m →
 Calls prog 104 #[vi f,v] w0 (bY w0 G (yB (tF (fM f 0 l))))
theorem PK (a b:List ((Int × Int) × ay)):tF (a++b)=tF a++tF b:=List.filter_append ..
theorem Mr (f t:Int) (l:List ay):(tF (fM f t l)).length≤bq l:=Nat.le_trans (List.length_filter_le _ _) (O9 f t l)
theorem alm (x:ay):n1 x+bq x.flow+eD x.rows < cO x.dat:=by
 have h1:=oW x;have h2:=Es x.text
 unfold n1 gD;split <;> (try split) <;> omega
set_option maxHeartbeats 4000000 in
theorem akv {m:Nat} (ih:Qj m) (hm:m≤4294967296):Qj (m+1):=by
 intro G w0 hG f l v hu hok hz;obtain ⟨A,c,rfl,hc1,hc2,hg⟩:=hu.slice;rw [bQ] at *;have hll:=Fu l;have hml:maxLen=9223372036854775807:=rfl;have hbn:=Mr f 0 l;refine eN [(0,_),(1,_)] func104 rfl ntmps104 rfl rfl hG ?_;intro a H;refine kP H (SR fun _ K1=>Ra rfl (ak K1 rfl (SR fun _ K2=>ak K2 rfl (SQ fun _ K3=>SR fun _ K4=>ak K4 rfl (SB ?_)))));clear H K1 K2 K4;intro a H;skip;refine eT (ι:=Nat × Nat × List ((Int × Int) × ay) × aj × aj × List aj × List aj × OL × OL × GH) (Tc:=[(0,_),(1,_)]) (Lc:=[]) (fun (gh:Nat × Nat × List ((Int × Int) × ay) × aj × aj × List aj × List aj × OL × OL × GH)=>[(4,gh.2.2.2.1),(5,gh.2.2.2.2.1),(6,vi gh.2.1),(7,vi gh.1)]) (fun (gh:Nat × Nat × List ((Int × Int) × ay) × aj × aj × List aj × List aj × OL × OL × GH)=>[]++(gh.2.2.2.2.2.2.2.1++gh.2.2.2.2.2.2.2.2.1)) (fun (gh:Nat × Nat × List ((Int × Int) × ay) × aj × aj × List aj × List aj × OL × OL × GH)=>gh.2.2.2.2.2.2.2.2.2) (fun (gh:Nat × Nat × List ((Int × Int) × ay) × aj × aj × List aj × List aj × OL × OL × GH)=>gh.1≤l.length∧El gh.2.2.2.2.2.2.2.2.2 gh.2.2.2.1 gh.2.2.2.2.1 gh.2.2.1 gh.2.2.2.2.2.1 gh.2.2.2.2.2.2.1 gh.2.2.2.2.2.2.2.1 gh.2.2.2.2.2.2.2.2.1∧gh.2.2.1++tF (fM f gh.2.1 (l.drop gh.1))=tF (fM f 0 l)∧(∀ b o,G b=some o→gh.2.2.2.2.2.2.2.2.2 b=some o)∧gh.2.1+bq (l.drop gh.1)≤4294967296∧ou (l.drop gh.1)) (fun (gh:Nat × Nat × List ((Int × Int) × ay) × aj × aj × List aj × List aj × OL × OL × GH)=>l.length - gh.1) ((0,0,[],.slice none 0 0,.slice none 0 0,[],[],[],[],G)) (by exact (H).sub ⟨rfl,rfl,rfl,rfl,rfl,rfl,aB⟩) ?_ ?_
 ·exact ⟨gX _,⟨gQ.nil,ig.nil,gQ.nil,ig.nil⟩,rfl,fun _ _ h=>h,by dsimp only;rw [jW];omega,hok⟩
 clear H;rintro ⟨k,at_,R,v4,v5,xs,ys,La,Lb,g⟩ a w hI H;dsimp only at hI H;obtain ⟨hk,hr1,hX,hgm,hat,hok1⟩:=hI;obtain ⟨v4A,v4c,rfl,-,-⟩:=hr1.it.shape;obtain ⟨v5A,v5c,rfl,-,-⟩:=hr1.ps.shape
 have hRl:R.length≤bq l:=by
  have:=av List.length hX;rw [jP] at this;omega
 dsimp only [lca,aO] at H;refine kP H (SQ fun _ K5=>SR fun _ K6=>Rm rfl (Rm rfl (Rl kr rfl (Rc rfl (Kz K6 (Cd rfl ?_ ?_)))))) <;> clear H K6
 ·intro h20 a H
  try have qw:=dT h20
  have hk2:k < l.length:=by omega
  obtain ⟨b,o,pA,pn,pc,dA,dn,dc,yA,yn,yc,fA,fn,fc,rA,rn,rc,rfl,hrow,hhd,hfl,hrw⟩:=Dl hk2 hg;have ZK:bJ g l[k].dat _:=bJ.mkItem (hhd.mono hgm) (hfl.mono hgm) (hrw.mono hgm);replace hrow:=fun j u hj=>aH hgm (hrow j u hj);replace hfl:=hfl.mono hgm;replace hrw:=hrw.mono hgm;have hrn:=hrw.len;rw [bQ] at hrn;subst hrn;have hzs:=Wv hk2;have hzi:=oW l[k];have He:=MJ (jv hk2);have hna:=alm l[k];have hpart:=hu.part k (k+1) (by omega) (by rw [bQ];omega);rw [jV hk2] at hok1;obtain ⟨hox,hok2⟩:=hok1.head;rw [jV hk2,fM,alz hox,PK,acg,show (at_:Int)+(n1 l[k]:Int)=((at_+n1 l[k]:Nat):Int) by push_cast;rfl] at hX
  have he1:((l.map ay.dat).drop k).take 1=[l[k]].map ay.dat:=by rw [jV (by simpa using hk2)];simp
  obtain ⟨x,hx⟩:∃ x,x=l[k]:=⟨_,rfl⟩;rw [← hx] at hX hrow hhd hfl hrw hzs hzi He hna he1 hox ZK;have hrl:=Fv x.rows;have hb6:=Mr x.id 0 x.flow
  have hc3:¬ c=k:=by omega
  refine kP H (Kc K5 (SQ fun _ K7=>SB (SR fun _ K8=>Rm rfl (Rm rfl (Ri kr fC rfl rfl ?_)))));clear H K5;intro a H;refine bP fC (cs:=[vi x.kind,vi x.code,vi x.id,.string x.text,.slice pA pn pc,vi x.head.marks.ins,vi x.head.marks.move,.slice dA dn dc,.slice yA yn yc,.slice fA fn fc,.slice rA x.rows.length rc]) H wn rfl rfl (fun j v hj=>H.hp.aG (hrow j v hj)) rfl ?_;clear H;intro a H;refine eH fC H wn rfl ?_;clear H;intro b8 a w yT H;refine bT fC 0 (vs:=[_,_,_,_,_,_,_,_,_,_,_]) _ H wn rfl rfl rfl rfl rfl rfl rfl rfl ?_;clear H;intro w H;dsimp only [List.set,setRow] at H;refine K8 _ _ ?_;clear K8;refine oF (ι:=List ((Int × Int) × ay) × aj × aj × List aj × List aj × OL × OL) (Tc:=[(0,_),(1,_),(6,_),(7,_),(8,_)]) (Lc:=[(_,_)]) (fun (gh:List ((Int × Int) × ay) × aj × aj × List aj × List aj × OL × OL)=>[(4,gh.2.1),(5,gh.2.2.1)]) (fun (gh:List ((Int × Int) × ay) × aj × aj × List aj × List aj × OL × OL)=>[]++(gh.2.2.2.2.2.1++gh.2.2.2.2.2.2)) (fun (gh:List ((Int × Int) × ay) × aj × aj × List aj × List aj × OL × OL)=>g) (fun (gh:List ((Int × Int) × ay) × aj × aj × List aj × List aj × OL × OL)=>El g gh.2.1 gh.2.2.1 gh.1 gh.2.2.2.1 gh.2.2.2.2.1 gh.2.2.2.2.2.1 gh.2.2.2.2.2.2∧gh.1=R++(if x.kind=7 then [((f,(at_:Int)),x)] else [])∧gh.1.length≤R.length+1) (by exact (H).sub ⟨rfl,rfl,rfl,rfl,rfl,aB⟩) ?_ ?_
  ·skip;refine kP H (SR fun _ K9=>aT gJ aD 0 rfl rfl (Rc rfl (Kz K9 (Cd rfl ?_ ?_)))) <;> clear H K9
   ·intro Sv a H
    try have p29:=dT Sv
    refine kP H (SC (Rm rfl ?_));clear H;intro a H;refine bP fC (cs:=[_,_,_,_,_,_,_,_,_,_,_]) H wn rfl rfl (H.hp.gB 0 rfl rfl) rfl ?_;clear H;intro a H;refine jy kr fC [_,_,_,_,_,_,_,_,_,_,_] [_,_,_,_,_,_,_,_,_,_,_] H wn rfl rfl rfl rfl rfl (by intro i q h;match i,h with|0,h=>exact h|n+1,h=>simp at h) rfl rfl ?_;clear H;intro b32 a w apD H;refine E8 (Li:=[_,_]++Lb) (Lo:=La) (news:=[vi x.kind,vi x.code,vi x.id,.string x.text,.slice pA pn pc,vi x.head.marks.ins,vi x.head.marks.move,.slice dA dn dc,.slice yA yn yc,.slice fA fn fc,.slice rA x.rows.length rc]) kr fC rfl rfl (St.VX (A:=[_,_]) H) wn rfl rfl hr1.it rfl (H.hp.gB 0 rfl rfl) rfl (by omega) (by omega) rfl ?_;clear H;intro v33 Xr a w ajD H;replace H:=St.VW (A:=[_,_]) H;dsimp only [lca,aO] at H;refine kH H (Rm rfl (Rm rfl (Rm rfl ?_)));clear H;intro a H;refine lJ JJ [_,_] H wn rfl rfl rfl rfl ?_;clear H;intro a H;refine jy PV ko [_,_] [_,_] H wn rfl rfl rfl rfl rfl (by intro i q h;match i,h with|0,h=>exact h|n+1,h=>simp at h) rfl rfl ?_;clear H;intro b38 a w apF H;refine E8 (Li:=[_,_,_]++Xr) (Lo:=Lb) (news:=[vi f,vi at_]) PV ko rfl rfl (St.un (A:=[_,_,_]) H) wn rfl rfl hr1.ps rfl (H.hp.gB 0 rfl rfl) rfl (by omega) (by omega) rfl ?_;clear H;intro v39 adw a w ajE H;replace H:=H.assoc;dsimp only [lca,aO] at H;refine kH H (Ra rfl (Ra rfl ?_));clear H;intro a H;refine aJ ?_;refine ⟨(R++[((f,(at_:Int)),x)],v33,v39,xs++[vi x.kind,vi x.code,vi x.id,.string x.text,.slice pA pn pc,vi x.head.marks.ins,vi x.head.marks.move,.slice dA dn dc,.slice yA yn yc,.slice fA fn fc,.slice rA x.rows.length rc],ys++[vi f,vi at_],Xr,adw),by exact (H.dB (Pl:=[_,_,_]) (cB:=[_]) [2] (by decide) rfl).sub ⟨rfl,rfl,rfl,rfl,rfl,rfl,rfl,aB⟩,?_⟩;(try dsimp only);exact ⟨⟨by rw [jP];exact ajD,by rw [mW];exact hr1.ic.snoc ZK rfl,by rw [jP];exact ajE,by rw [mW];exact hr1.pc.snoc (amg _ _) rfl⟩,by rw [au p29],by simp⟩
   intro Sv a H
   try have p29:=dF Sv
   refine fF ?_;refine ⟨(R,_,_,xs,ys,La,Lb),by exact (H).sub ⟨rfl,rfl,rfl,rfl,rfl,rfl,rfl,aB⟩,?_⟩;(try dsimp only);exact ⟨hr1,by rw [ah p29,nH],by omega⟩
  clear H;rintro ⟨R2,v7,v8,xs2,ys2,Xq,Qo⟩ a w hI H;dsimp only at hI H;obtain ⟨hr2,hR2,ahW⟩:=hI;obtain ⟨v7A,v7c,rfl,-,-⟩:=hr2.it.shape;obtain ⟨v8A,v8c,rfl,-,-⟩:=hr2.ps.shape;dsimp only [lca,aO] at H;refine oF (ι:=List ((Int × Int) × ay) × aj × aj × List aj × List aj × OL × OL × GH) (Tc:=[(0,_),(1,_),(6,_),(7,_),(8,_)]) (Lc:=[(_,_)]) (fun (gh:List ((Int × Int) × ay) × aj × aj × List aj × List aj × OL × OL × GH)=>[(4,gh.2.1),(5,gh.2.2.1)]) (fun (gh:List ((Int × Int) × ay) × aj × aj × List aj × List aj × OL × OL × GH)=>[]++(gh.2.2.2.2.2.1++gh.2.2.2.2.2.2.1)) (fun (gh:List ((Int × Int) × ay) × aj × aj × List aj × List aj × OL × OL × GH)=>gh.2.2.2.2.2.2.2) (fun (gh:List ((Int × Int) × ay) × aj × aj × List aj × List aj × OL × OL × GH)=>El gh.2.2.2.2.2.2.2 gh.2.1 gh.2.2.1 gh.1 gh.2.2.2.1 gh.2.2.2.2.1 gh.2.2.2.2.2.1 gh.2.2.2.2.2.2.1∧gh.1=R2++(if x.kind=6 then tF (fM x.id 0 x.flow) else [])∧gh.1.length≤R.length+1+bq x.flow∧(∀ b o,g b=some o→gh.2.2.2.2.2.2.2 b=some o)) (by exact (H).sub ⟨rfl,rfl,rfl,rfl,rfl,aB⟩) ?_ ?_
  ·skip;refine kP H (SR fun _ aV=>aT gJ aD 0 rfl rfl (Rc rfl (Kz aV (Cd rfl ?_ ?_)))) <;> clear H aV
   ·intro A9 a H
    try have p42:=dT A9
    refine kP H (SR fun _ bF=>aT uN aD 0 rfl rfl (aT Ca jJ 0 rfl rfl ?_));clear H;intro a H;refine s_call QS H wn rfl (ih _ _ H.ro x.id x.flow _ hfl hox.fl (by omega)) rfl ?_;clear H;rintro v48 Qe a w ⟨a48,c48,rfl,hpa,hpb⟩ Ol H;obtain ⟨A48,n48,q48,rfl⟩:=hpa.form;obtain ⟨B48,k48,r48,rfl⟩:=hpb.form
    obtain rfl:n48=(tF (fM x.id 0 x.flow)).length:=by simpa using hpa.len
    obtain rfl:k48=(tF (fM x.id 0 x.flow)).length:=by simpa using hpb.len
    refine kH H (Rm rfl ?_);clear H;intro a H;(iterate 2 refine nA H wn rfl rfl rfl ?_;clear H;intro a H);refine kH H (Ra rfl (ak bF rfl (SC (Rm rfl (Rm rfl ?_)))));clear H bF;intro a H;refine Cz (Li:=[_]++Qo) (Lo:=Xq) kr fC rfl rfl (St.VX (A:=[_]) H) wn rfl rfl hr2.it hpa (by omega) (by omega) rfl ?_;clear H;intro v53 Xu alq a w ajG aiH H;replace H:=St.VW (A:=[_]) H;dsimp only [lca,aO] at H;refine kH H (Rm rfl (Rm rfl ?_));clear H;intro a H;refine Cz (Li:=[_]++Xu) (Lo:=Qo) PV ko rfl rfl (St.un (A:=[_]) H) wn rfl rfl hr2.ps hpb (by omega) (by omega) rfl ?_;clear H;intro v56 adx alr a w ajH aiI H;replace H:=H.assoc;dsimp only [lca,aO] at H;refine kH H (Ra rfl (Ra rfl ?_));clear H;intro a H;refine aJ ?_;refine ⟨(R2++tF (fM x.id 0 x.flow),v53,v56,xs2++alq,ys2++alr,Xu,adx,Qe),by exact (H).sub ⟨rfl,rfl,rfl,rfl,rfl,rfl,rfl,aB⟩,?_⟩;(try dsimp only);exact ⟨⟨by rw [jP];exact ajG,by rw [mW];exact (hr2.ic.mono Ol).append aiH,by rw [jP];exact ajH,by rw [mW];exact (hr2.pc.mono Ol).append aiI⟩,by rw [au p42],by rw [jP];omega,Ol⟩
   intro A9 a H
   try have p42:=dF A9
   refine fF ?_;refine ⟨(R2,_,_,xs2,ys2,Xq,Qo,g),by exact (H).sub ⟨rfl,rfl,rfl,rfl,rfl,rfl,rfl,aB⟩,?_⟩;(try dsimp only);exact ⟨hr2,by rw [ah p42,nH],by omega,fun _ _ h=>h⟩
  clear H;rintro ⟨R3,v9,v10,MH,ys3,La3,Lb3,g3⟩ a w hI H;dsimp only at hI H;obtain ⟨hr3,EF,ahX,hg3⟩:=hI;obtain ⟨v9A,v9c,rfl,-,-⟩:=hr3.it.shape;obtain ⟨aqt,aqu,rfl,-,-⟩:=hr3.ps.shape;dsimp only [lca,aO] at H;refine kP H (SQ fun _ bG=>SR fun _ bM=>ak bM rfl (SB ?_));clear H bM;intro a H;skip;refine eT (ι:=Nat × List ((Int × Int) × ay) × aj × aj × List aj × List aj × OL × OL × GH) (Tc:=[(0,_),(1,_),(6,_),(7,_),(8,_)]) (Lc:=[(_,_)]) (fun (gh:Nat × List ((Int × Int) × ay) × aj × aj × List aj × List aj × OL × OL × GH)=>[(4,gh.2.2.1),(5,gh.2.2.2.1),(11,vi gh.1)]) (fun (gh:Nat × List ((Int × Int) × ay) × aj × aj × List aj × List aj × OL × OL × GH)=>[]++(gh.2.2.2.2.2.2.1++gh.2.2.2.2.2.2.2.1)) (fun (gh:Nat × List ((Int × Int) × ay) × aj × aj × List aj × List aj × OL × OL × GH)=>gh.2.2.2.2.2.2.2.2) (fun (gh:Nat × List ((Int × Int) × ay) × aj × aj × List aj × List aj × OL × OL × GH)=>gh.1≤x.rows.length∧El gh.2.2.2.2.2.2.2.2 gh.2.2.1 gh.2.2.2.1 gh.2.1 gh.2.2.2.2.1 gh.2.2.2.2.2.1 gh.2.2.2.2.2.2.1 gh.2.2.2.2.2.2.2.1∧(x.kind=7→gh.2.1++tF (rU (x.rows.drop gh.1))=R3++tF (rU x.rows))∧(x.kind≠7→gh.2.1=R3)∧(∀ b o,g3 b=some o→gh.2.2.2.2.2.2.2.2 b=some o)∧gh.2.1.length+eD (x.rows.drop gh.1)≤R3.length+eD x.rows) (fun (gh:Nat × List ((Int × Int) × ay) × aj × aj × List aj × List aj × OL × OL × GH)=>x.rows.length - gh.1) ((0,R3,_,_,MH,ys3,La3,Lb3,g3)) (by exact (H).sub ⟨rfl,rfl,rfl,rfl,rfl,rfl,rfl,rfl,aB⟩) ?_ ?_
  ·exact ⟨gX _,hr3,fun _=>rfl,fun _=>rfl,fun _ _ h=>h,by dsimp only;rw [jW];omega⟩
  clear H;rintro ⟨rk,R4,v11,v12,JY,ys4,Qn,Qp,g4⟩ a w hI H;dsimp only at hI H;obtain ⟨Oz,hr4,Tk,xG,hg4,Tm⟩:=hI;obtain ⟨aqy,aqz,rfl,-,-⟩:=hr4.it.shape;obtain ⟨aqD,aqE,rfl,-,-⟩:=hr4.ps.shape;dsimp only [lca,aO] at H;refine kP H (SQ fun _ bN=>SR fun _ bW=>aT gJ aD 0 rfl rfl (Rc rfl (Rm rfl (Sp 60 rfl ?_ ?_)))) <;> clear H
  ·intro eY a H
   try have p60:=dT eY
   refine kH H (YM eY rfl (YF uP eY rfl (YO vD 0 eY rfl (YL ku eY rfl (YC eY rfl (Pt eY rfl (Kz bW (Cd rfl ?_ ?_)))))))) <;> clear H bW
   ·intro oN a H
    try have p66:=dT oN
    have hk3:rk < x.rows.length:=by omega
    have TV:x.kind=7:=by first|assumption|omega
    obtain ⟨b2,o2,qA,qn,qc,eA,en,ec,zA,zn,zc,cA,cn,cc,rfl,hrow2,Ck,hcl⟩:=E5 hk3 ((hrw.mono hg3).mono hg4).at_;have hcn:=hcl.len;rw [bQ] at hcn;subst hcn;have hcs:=Fq x.rows[rk].cells;have Hf:=Wx hk3;have UO:=uD x.rows[rk];have hsz2:=MK hk3;have hoc:=hox.rw _ (jv hk3);obtain ⟨y,hy⟩:∃ y,y=x.rows[rk]:=⟨_,rfl⟩;rw [← hy] at hrow2 Ck hcl hcs Hf UO hsz2 hoc;refine kP H (Kc bN (SQ fun _ cK=>SB (SR fun _ bS=>ak bS rfl (SB ?_))));clear H bN bS;intro a H;skip;refine eT (ι:=Nat × List ((Int × Int) × ay) × aj × aj × List aj × List aj × OL × OL × GH) (Tc:=[(0,_),(1,_),(6,_),(7,_),(8,_),(11,_)]) (Lc:=[(_,_)]) (fun (gh:Nat × List ((Int × Int) × ay) × aj × aj × List aj × List aj × OL × OL × GH)=>[(4,gh.2.2.1),(5,gh.2.2.2.1),(12,vi gh.1)]) (fun (gh:Nat × List ((Int × Int) × ay) × aj × aj × List aj × List aj × OL × OL × GH)=>[]++(gh.2.2.2.2.2.2.1++gh.2.2.2.2.2.2.2.1)) (fun (gh:Nat × List ((Int × Int) × ay) × aj × aj × List aj × List aj × OL × OL × GH)=>gh.2.2.2.2.2.2.2.2) (fun (gh:Nat × List ((Int × Int) × ay) × aj × aj × List aj × List aj × OL × OL × GH)=>gh.1≤y.cells.length∧El gh.2.2.2.2.2.2.2.2 gh.2.2.1 gh.2.2.2.1 gh.2.1 gh.2.2.2.2.1 gh.2.2.2.2.2.1 gh.2.2.2.2.2.2.1 gh.2.2.2.2.2.2.2.1∧gh.2.1++(tF (jN (y.cells.drop gh.1))++tF (rU (x.rows.drop (rk+1))))=R4++(tF (jN y.cells)++tF (rU (x.rows.drop (rk+1))))∧(∀ b o,g4 b=some o→gh.2.2.2.2.2.2.2.2 b=some o)∧gh.2.1.length+iw (y.cells.drop gh.1)+eD (x.rows.drop (rk+1))≤R3.length+eD x.rows) (fun (gh:Nat × List ((Int × Int) × ay) × aj × aj × List aj × List aj × OL × OL × GH)=>y.cells.length - gh.1) ((0,R4,_,_,JY,ys4,Qn,Qp,g4)) (by exact (H).sub ⟨rfl,rfl,rfl,rfl,rfl,rfl,rfl,rfl,rfl,aB⟩) ?_ ?_
    ·exact ⟨gX _,hr4,rfl,fun _ _ h=>h,by dsimp only;rw [jW];omega⟩
    clear H;rintro ⟨ck,R5,v13,v14,xs5,ys5,Xt,Qq,g5⟩ a w hI H;dsimp only at hI H;obtain ⟨hck,GX,hx5,hg5,Zw⟩:=hI;obtain ⟨aqH,aqI,rfl,-,-⟩:=GX.it.shape;obtain ⟨aqK,aqL,rfl,-,-⟩:=GX.ps.shape;have r5:aG g5 b2 (o2+rk*6+5)=some (.slice cA y.cells.length cc):=aH hg5 (hrow2 5 _ rfl);dsimp only [lca,aO] at H;refine kP H (SQ fun _ dD=>SR fun _ dO=>Rm rfl (aT uP vD 0 rfl rfl (Rm rfl (Ri ku kQ rfl rfl (Rf ru rfl (Rg rY rfl (by assumption) ?_))))));clear H;intro a H;refine kH H (Rl mE rfl (Rc rfl (Kz dO (Cd rfl ?_ ?_)))) <;> clear H dO
    ·intro tO a H
     try have Cu:=dT tO
     have hk4:ck < y.cells.length:=by omega
     obtain ⟨b3,o3,sA,sn,sc,tA,tn,tc,uA,un,uc,gA,gn,gc,rfl,hrow3,hch,hcf⟩:=C8 hk4 (hcl.mono hg5).at_;have hzc:=Wu hk4;have hzz:=uz y.cells[ck];have GY:=MI hk4;have ZY:=hoc _ (jv hk4);rw [jV hk4,Vw,PK,jQ] at hx5;obtain ⟨z,hzy⟩:∃ z,z=y.cells[ck]:=⟨_,rfl⟩;rw [← hzy] at hx5 hrow3 hch hcf hzc hzz GY ZY;have zT:=Mr z.id 0 z.flow;refine kP H (Kc dD (SQ fun _ dK=>SB (SQ fun _ dS=>?_)));clear H dD;intro a H
     have nM:∀ (iy:Nat) (v:aj) (G G':GH),(∀ k o,G k=some o→G' k=some o)→(fun (iy:Nat) (v:aj) (G:GH)=>match iy with|0=>v=(aQ b8 10)|1=>v=.slice (some ⟨b2,o2,none⟩) x.rows.length rc|2=>v=vi rk|3=>v=(aQ b2 (o2+rk*6))|4=>v=(aQ b2 (o2+rk*6+5))|5=>v=.slice (some ⟨b3,o3,none⟩) y.cells.length cc|6=>v=vi ck|7=>v=(aQ b3 (o3+ck*7))|8=>v=(aQ b3 (o3+ck*7+0))|9=>v=vi z.id|10=>v=(aQ b8 10)|11=>v=.slice (some ⟨b2,o2,none⟩) x.rows.length rc|12=>v=vi rk|13=>v=(aQ b2 (o2+rk*6))|14=>v=(aQ b2 (o2+rk*6+5))|15=>v=.slice (some ⟨b3,o3,none⟩) y.cells.length cc|16=>v=vi ck|17=>v=(aQ b3 (o3+ck*7))|18=>v=(aQ b3 (o3+ck*7+6))|19=>v=.slice gA gn gc|20=>yB (tF (fM z.id 0 z.flow)) v G|21=>yB (tF (fM z.id 0 z.flow)) v G|22=>aC G (.sl 11 ((tF (fM z.id 0 z.flow)).map fun q=>q.2.dat)) v|23=>aC G (.sl 2 ((tF (fM z.id 0 z.flow)).map fun q=>H6 q.1)) v|24=>aC G (.sl 11 ((tF (fM z.id 0 z.flow)).map fun q=>q.2.dat)) v|_=>True) iy v G→(fun (iy:Nat) (v:aj) (G:GH)=>match iy with|0=>v=(aQ b8 10)|1=>v=.slice (some ⟨b2,o2,none⟩) x.rows.length rc|2=>v=vi rk|3=>v=(aQ b2 (o2+rk*6))|4=>v=(aQ b2 (o2+rk*6+5))|5=>v=.slice (some ⟨b3,o3,none⟩) y.cells.length cc|6=>v=vi ck|7=>v=(aQ b3 (o3+ck*7))|8=>v=(aQ b3 (o3+ck*7+0))|9=>v=vi z.id|10=>v=(aQ b8 10)|11=>v=.slice (some ⟨b2,o2,none⟩) x.rows.length rc|12=>v=vi rk|13=>v=(aQ b2 (o2+rk*6))|14=>v=(aQ b2 (o2+rk*6+5))|15=>v=.slice (some ⟨b3,o3,none⟩) y.cells.length cc|16=>v=vi ck|17=>v=(aQ b3 (o3+ck*7))|18=>v=(aQ b3 (o3+ck*7+6))|19=>v=.slice gA gn gc|20=>yB (tF (fM z.id 0 z.flow)) v G|21=>yB (tF (fM z.id 0 z.flow)) v G|22=>aC G (.sl 11 ((tF (fM z.id 0 z.flow)).map fun q=>q.2.dat)) v|23=>aC G (.sl 2 ((tF (fM z.id 0 z.flow)).map fun q=>H6 q.1)) v|24=>aC G (.sl 11 ((tF (fM z.id 0 z.flow)).map fun q=>q.2.dat)) v|_=>True) iy v G':=by
      intro iy v G G' hm h
      match iy,h with
      | 0,h=>exact h
      | 1,h=>exact h
      | 2,h=>exact h
      | 3,h=>exact h
      | 4,h=>exact h
      | 5,h=>exact h
      | 6,h=>exact h
      | 7,h=>exact h
      | 8,h=>exact h
      | 9,h=>exact h
      | 10,h=>exact h
      | 11,h=>exact h
      | 12,h=>exact h
      | 13,h=>exact h
      | 14,h=>exact h
      | 15,h=>exact h
      | 16,h=>exact h
      | 17,h=>exact h
      | 18,h=>exact h
      | 19,h=>exact h
      | 20,h=>exact yB.mono hm h
      | 21,h=>exact yB.mono hm h
      | 22,h=>exact aC.mono hm h
      | 23,h=>exact aC.mono hm h
      | 24,h=>exact aC.mono hm h
      | 25,h=>exact trivial
      | _+26,h=>exact trivial
     refine Nf (hmx) [[],[0],[],[0,1,2],(ra 0 4),(ra 0 5),[],(ra 0 7),(ra 0 8),(ra 0 9),[],[10],[],[10,11,12],(ra 10 4),(ra 10 5),[],(ra 10 7),(ra 10 8),(ra 10 9),(ra 0 20),(ra 0 21),(ra 0 22),(ra 0 22),(ra 0 23),(ra 0 25)] [25] (by kernel_rfl) (by kernel_rfl) (fun (iy:Nat) (v:aj) (G:GH)=>match iy with|0=>v=(aQ b8 10)|1=>v=.slice (some ⟨b2,o2,none⟩) x.rows.length rc|2=>v=vi rk|3=>v=(aQ b2 (o2+rk*6))|4=>v=(aQ b2 (o2+rk*6+5))|5=>v=.slice (some ⟨b3,o3,none⟩) y.cells.length cc|6=>v=vi ck|7=>v=(aQ b3 (o3+ck*7))|8=>v=(aQ b3 (o3+ck*7+0))|9=>v=vi z.id|10=>v=(aQ b8 10)|11=>v=.slice (some ⟨b2,o2,none⟩) x.rows.length rc|12=>v=vi rk|13=>v=(aQ b2 (o2+rk*6))|14=>v=(aQ b2 (o2+rk*6+5))|15=>v=.slice (some ⟨b3,o3,none⟩) y.cells.length cc|16=>v=vi ck|17=>v=(aQ b3 (o3+ck*7))|18=>v=(aQ b3 (o3+ck*7+6))|19=>v=.slice gA gn gc|20=>yB (tF (fM z.id 0 z.flow)) v G|21=>yB (tF (fM z.id 0 z.flow)) v G|22=>aC G (.sl 11 ((tF (fM z.id 0 z.flow)).map fun q=>q.2.dat)) v|23=>aC G (.sl 2 ((tF (fM z.id 0 z.flow)).map fun q=>H6 q.1)) v|24=>aC G (.sl 11 ((tF (fM z.id 0 z.flow)).map fun q=>q.2.dat)) v|_=>True) nM H ?_ ?_
     ·clear H;refine aI ?_ ?_ ?_ ?_ (aI ?_ ?_ ?_ ?_ (aI ?_ ?_ ?_ ?_ (aI ?_ ?_ ?_ ?_ (aI ?_ ?_ ?_ ?_ (aI ?_ ?_ ?_ ?_ (bC ?_ (bC (cu rfl) dN)))))))
      ·refine jZ [] rfl trivial (by kernel_rfl) nM rfl rfl ?_;intro fV a w G1 hG HT H fin;exact kH H (Rf uP rfl fun _ H=>fin H iJ rfl)
      ·refine jZ [(0,81,_)] rfl ⟨fun _ _ h=>h,aB⟩ (by kernel_rfl) nM rfl rfl ?_;intro fV a w G1 hG HT H fin;exact kH H (Ro vD 0 rfl fun _ H=>fin H iJ rfl)
      ·refine jZ [] rfl trivial (by kernel_rfl) nM rfl rfl ?_;intro fV a w G1 hG HT H fin;exact kH H (Rm rfl fun _ H=>fin H iJ rfl)
      ·refine jZ [(1,82,_),(2,83,_)] rfl ⟨fun _ _ h=>h,fun _ _ h=>h,aB⟩ (by kernel_rfl) nM rfl rfl ?_;intro fV a w G1 hG HT H fin;exact kH H (Ri ku kQ rfl rfl fun _ H=>fin H iJ rfl)
      ·refine jZ [(3,84,_)] rfl ⟨fun _ _ h=>h,aB⟩ (by kernel_rfl) nM rfl rfl ?_;intro fV a w G1 hG HT H fin;exact kH H (Rf ru rfl fun _ H=>fin H iJ rfl)
      ·refine jZ [(4,85,_)] rfl ⟨fun _ _ h=>h,aB⟩ (by kernel_rfl) nM rfl rfl ?_;intro fV a w G1 hG HT H fin;exact kH H (Rg rY rfl (aH hG r5) fun _ H=>fin H iJ rfl)
      ·refine jZ [] rfl trivial (by kernel_rfl) nM rfl rfl ?_;intro fV a w G1 hG HT H fin;exact kH H (Rm rfl fun _ H=>fin H iJ rfl)
      ·refine jZ [(5,86,_),(6,87,_)] rfl ⟨fun _ _ h=>h,fun _ _ h=>h,aB⟩ (by kernel_rfl) nM rfl rfl ?_;intro fV a w G1 hG HT H fin;exact kH H (Ri mE kg rfl rfl fun _ H=>fin H iJ rfl)
      ·refine jZ [(7,88,_)] rfl ⟨fun _ _ h=>h,aB⟩ (by kernel_rfl) nM rfl rfl ?_;intro fV a w G1 hG HT H fin;exact kH H (Rf Dc rfl fun _ H=>fin H iJ rfl)
      ·refine jZ [(8,89,_)] rfl ⟨fun _ _ h=>h,aB⟩ (by kernel_rfl) nM rfl rfl ?_;intro fV a w G1 hG HT H fin;exact kH H (Rg aD rfl (aH hG (hrow3 0 _ rfl)) fun _ H=>fin H iJ rfl)
      ·refine jZ [] rfl trivial (by kernel_rfl) nM rfl rfl ?_;intro fV a w G1 hG HT H fin;exact kH H (Rf uP rfl fun _ H=>fin H iJ rfl)
      ·refine jZ [(10,91,_)] rfl ⟨fun _ _ h=>h,aB⟩ (by kernel_rfl) nM rfl rfl ?_;intro fV a w G1 hG HT H fin;exact kH H (Ro vD 0 rfl fun _ H=>fin H iJ rfl)
      ·refine jZ [] rfl trivial (by kernel_rfl) nM rfl rfl ?_;intro fV a w G1 hG HT H fin;exact kH H (Rm rfl fun _ H=>fin H iJ rfl)
      ·refine jZ [(11,92,_),(12,93,_)] rfl ⟨fun _ _ h=>h,fun _ _ h=>h,aB⟩ (by kernel_rfl) nM rfl rfl ?_;intro fV a w G1 hG HT H fin;exact kH H (Ri ku kQ rfl rfl fun _ H=>fin H iJ rfl)
      ·refine jZ [(13,94,_)] rfl ⟨fun _ _ h=>h,aB⟩ (by kernel_rfl) nM rfl rfl ?_;intro fV a w G1 hG HT H fin;exact kH H (Rf ru rfl fun _ H=>fin H iJ rfl)
      ·refine jZ [(14,95,_)] rfl ⟨fun _ _ h=>h,aB⟩ (by kernel_rfl) nM rfl rfl ?_;intro fV a w G1 hG HT H fin;exact kH H (Rg rY rfl (aH hG r5) fun _ H=>fin H iJ rfl)
      ·refine jZ [] rfl trivial (by kernel_rfl) nM rfl rfl ?_;intro fV a w G1 hG HT H fin;exact kH H (Rm rfl fun _ H=>fin H iJ rfl)
      ·refine jZ [(15,96,_),(16,97,_)] rfl ⟨fun _ _ h=>h,fun _ _ h=>h,aB⟩ (by kernel_rfl) nM rfl rfl ?_;intro fV a w G1 hG HT H fin;exact kH H (Ri mE kg rfl rfl fun _ H=>fin H iJ rfl)
      ·refine jZ [(17,98,_)] rfl ⟨fun _ _ h=>h,aB⟩ (by kernel_rfl) nM rfl rfl ?_;intro fV a w G1 hG HT H fin;exact kH H (Rf Df rfl fun _ H=>fin H iJ rfl)
      ·refine jZ [(18,99,_)] rfl ⟨fun _ _ h=>h,aB⟩ (by kernel_rfl) nM rfl rfl ?_;intro fV a w G1 hG HT H fin;exact kH H (Rg jJ rfl (aH hG (hrow3 6 _ rfl)) fun _ H=>fin H iJ rfl)
      ·refine jZ [(9,90,_),(19,100,_)] rfl ⟨fun _ _ h=>h,fun _ _ h=>h,aB⟩ (by kernel_rfl) nM rfl rfl ?_;intro fV a w G1 hG HT H fin;refine s_call QS H wn rfl (ih _ _ H.ro z.id z.flow _ (hcf.mono hG) ZY (by omega)) rfl ?_;clear H;rintro aqp aph a w Ot ahE H;exact fin H ahE (Ot)
      ·intro fV a w G1 _ dP hc hG HT hv;have H:=HT;clear dP;obtain ⟨aqm,ajM,Ot⟩:=hv 20 101 (hc 20 (by decide)) rfl;(try dsimp only at Ot);obtain ⟨apm,apo,rfl,hpa,hpb⟩:=Ot;have H:=H.qV ajM;have Hb:=H.full;have H:=Hb;clear hc;refine kH H (Rm rfl ?_);clear H;intro a H;refine aJ ⟨rfl,?_⟩;exact nU (by kernel_rfl) nM rfl rfl HT Hb hG hv (fun _ _ h=>h) (⟨_,_,rfl,hpa,hpb⟩) H
      ·intro fV a w G1 _ dP hc hG HT hv;have H:=HT;clear dP;obtain ⟨u80,UH,LK⟩:=hv 21 80 (hc 21 (by decide)) rfl;(try dsimp only at LK);obtain ⟨a80,c80,rfl,kX,hqb⟩:=LK;have H:=H.qV UH;have Hb:=H.full;have H:=Hb;clear hc;refine nA H wn rfl rfl rfl ?_;clear H;intro a H;refine aJ ⟨rfl,?_⟩;exact nU (by kernel_rfl) nM rfl rfl HT Hb hG hv (fun _ _ h=>h) (kX) H
      ·intro fV a w G1 _ dP hc hG HT hv;have H:=HT;clear dP;obtain ⟨u80,UH,LK⟩:=hv 21 80 (hc 21 (by decide)) rfl;(try dsimp only at LK);obtain ⟨a80,c80,rfl,kX,hqb⟩:=LK;have H:=H.qV UH;have Hb:=H.full;have H:=Hb;clear hc;refine nA H wn rfl rfl rfl ?_;clear H;intro a H;refine aJ ⟨rfl,?_⟩;exact nU (by kernel_rfl) nM rfl rfl HT Hb hG hv (fun _ _ h=>h) (hqb) H
      intro fV a w G1 _ dP hc hG HT hv;have H:=HT;clear dP;obtain ⟨aqn,ajN,Z4⟩:=hv 22 102 (hc 22 (by decide)) rfl;(try dsimp only at Z4);have H:=H.qV ajN;have Hb:=H.full;have H:=Hb;clear hc;refine kH H (Ra rfl ?_);clear H;intro a H;refine aJ ⟨rfl,?_⟩;exact nU (by kernel_rfl) nM rfl rfl HT Hb hG hv (fun _ _ h=>h) (Z4) H
     clear H;intro a w G SF H hv;obtain ⟨u13,ajP,Ov⟩:=hv 24 13 (by decide) rfl;(try dsimp only at Ov);have H:=H.qV ajP;obtain ⟨aqo,ajO,Ou⟩:=hv 23 103 (by decide) rfl;(try dsimp only at Ou);have H:=H.qV ajO;clear hv;refine kH H (Ra rfl ?_);clear H;intro a H;refine aJ ⟨rfl,?_⟩;refine dS _ _ ?_;clear dS;obtain ⟨A13,n13,c13,rfl⟩:=Ov.form;obtain ⟨apg,n103,apq,rfl⟩:=Ou.form
     obtain rfl:n13=(tF (fM z.id 0 z.flow)).length:=by simpa using Ov.len
     obtain rfl:n103=(tF (fM z.id 0 z.flow)).length:=by simpa using Ou.len
     refine kP H (SC (Rm rfl (Rm rfl ?_)));clear H;intro a H;refine Cz (Li:=[_]++Qq) (Lo:=Xt) kr fC rfl rfl (St.VX (A:=[_]) H) wn rfl rfl GX.it Ov (by omega) (by omega) rfl ?_;clear H;intro aoE Xp alo a w ajA aiE H;replace H:=St.VW (A:=[_]) H;dsimp only [lca,aO] at H;refine kH H (Rm rfl (Rm rfl ?_));clear H;intro a H;refine Cz (Li:=[_]++Xp) (Lo:=Qq) PV ko rfl rfl (St.un (A:=[_]) H) wn rfl rfl GX.ps Ou (by omega) (by omega) rfl ?_;clear H;intro v109 adu alp a w ajB aiF H;replace H:=H.assoc;dsimp only [lca,aO] at H;refine kH H (Ra rfl (aM dK rfl (SC (Rm rfl (Rd rfl (Ra rfl ?_))))));clear H dK;intro a H;refine aJ ?_;refine dH ((ck+1,R5++tF (fM z.id 0 z.flow),aoE,v109,xs5++alo,ys5++alp,Xp,adu,_)) (by exact (H).sub ⟨rfl,rfl,rfl,rfl,rfl,rfl,rfl,rfl,rfl,aB⟩) ?_ ?_
     ·(try dsimp only);exact ⟨by omega,⟨by rw [jP];exact ajA,by rw [mW];exact (GX.ic.mono SF).append aiE,by rw [jP];exact ajB,by rw [mW];exact (GX.pc.mono SF).append aiF⟩,by rw [← hx5,jQ],fun b o h=>SF b o (hg5 b o h),by rw [jP];omega⟩
     first|omega|(dsimp only;omega)
    intro tO a H
    try have Cu:=dF tO
    have Ll:y.cells.drop ck=[]:=fI (by omega);refine dR ?_;refine cK _ _ ?_;clear cK;refine kP H (SC (Rm rfl (Rd rfl (Ra rfl ?_))));clear H;intro a H;refine aJ ?_;refine dH ((rk+1,R5,_,_,xs5,ys5,Xt,Qq,g5)) (by exact (H).sub ⟨rfl,rfl,rfl,rfl,rfl,rfl,rfl,rfl,aB⟩) ?_ ?_
    ·(try dsimp only);exact ⟨by omega,GX,fun h7=>by rw [← Tk h7,jV hk3,rU,abp,PK,← hy,← hx5,Ll,jN];rfl,fun h7=>absurd TV h7,fun b o h=>hg5 b o (hg4 b o h),by rw [Ll] at Zw;simp only [iw,uI,dZ] at Zw;omega⟩
    first|omega|(dsimp only;omega)
   intro oN a H
   try have p66:=dF oN
   refine dR ?_;refine bG _ _ ?_;clear bG;refine kP H (SR fun _ eP=>Rm rfl (Rm rfl (Rm rfl (Rd rfl ?_))));clear H;intro a H;refine Py kr fC k (k+1) H wn rfl rfl rfl rfl (by omega) (by omega) (by omega) rfl ?_;clear H;intro a H;rw [ah hc3,yE,add_lit,CZ] at H;refine s_call IL H wn rfl (Jt _ _ H.ro [x] _ (by have h:=hpart;rw [ah hc3,yE,add_lit,CZ,he1] at h;exact ((h.mono hgm).mono hg3).mono hg4) (by show 1+cO x.dat+0≤_;omega)) rfl ?_;clear H;rintro acK ads a w ⟨rfl,ahC⟩ LD H;rw [OQ] at H;refine kH H (Rm rfl ?_);clear H;intro a H;(iterate 2 refine nA H wn rfl rfl rfl ?_;clear H;intro a H);refine kH H (Ra rfl (ak eP rfl (SC (Rm rfl (Rm rfl (Rd rfl (aM K7 rfl (SC (Rm rfl (Rd rfl (Ra rfl ?_)))))))))));clear H eP K7;intro a H;refine aJ ?_;refine dH ((k+1,at_+n1 x,R4,_,_,JY,ys4,Qn,Qp,_)) (by exact (H.dB (Pl:=[_]) (cB:=[]) [] (by decide) rfl).sub ⟨rfl,rfl,rfl,rfl,rfl,rfl,aB⟩) ?_ ?_
   ·try dsimp only
    exact ⟨by omega,hr4.mono LD,by
    rw [← hX]
    by_cases h6:x.kind=6
    ·rw [xG (by omega),EF,au h6,hR2,ah (by omega)];simp [h6]
    rw [ah h6,nH] at EF
    by_cases h7:x.kind=7
    ·have e:=Tk h7;rw [fI (by first|omega|(exfalso;simp_all;done)),rU,tF,List.filter_nil,nH] at e;rw [e,EF,hR2,au h7];simp [h7]
    rw [xG h7,EF,hR2,ah h7];simp [h6,h7],fun b o h=>LD b o (hg4 b o (hg3 b o (hgm b o h))),by push_cast;omega,hok2⟩
   first|omega|(dsimp only;omega)
  intro eY a H
  try have p60:=dF eY
  refine kH H (aZ eY rfl (aS eY rfl (Pf eY rfl (Kz bW (Cf rfl rfl ?_)))));clear H bW;intro a H;refine dR ?_;refine bG _ _ ?_;clear bG;refine kP H (SR fun _ gG=>Rm rfl (Rm rfl (Rm rfl (Rd rfl ?_))));clear H;intro a H;refine Py kr fC k (k+1) H wn rfl rfl rfl rfl (by omega) (by omega) (by omega) rfl ?_;clear H;intro a H;rw [ah hc3,yE,add_lit,CZ] at H;refine s_call IL H wn rfl (Jt _ _ H.ro [x] _ (by have h:=hpart;rw [ah hc3,yE,add_lit,CZ,he1] at h;exact ((h.mono hgm).mono hg3).mono hg4) (by show 1+cO x.dat+0≤_;omega)) rfl ?_;clear H;rintro acK ads a w ⟨rfl,ahC⟩ LD H;rw [OQ] at H;refine kH H (Rm rfl ?_);clear H;intro a H;(iterate 2 refine nA H wn rfl rfl rfl ?_;clear H;intro a H);refine kH H (Ra rfl (ak gG rfl (SC (Rm rfl (Rm rfl (Rd rfl (aM K7 rfl (SC (Rm rfl (Rd rfl (Ra rfl ?_)))))))))));clear H gG K7;intro a H;refine aJ ?_;refine dH ((k+1,at_+n1 x,R4,_,_,JY,ys4,Qn,Qp,_)) (by exact (H.dB (Pl:=[_]) (cB:=[]) [] (by decide) rfl).sub ⟨rfl,rfl,rfl,rfl,rfl,rfl,aB⟩) ?_ ?_
  ·try dsimp only
   exact ⟨by omega,hr4.mono LD,by
   rw [← hX]
   by_cases h6:x.kind=6
   ·rw [xG (by omega),EF,au h6,hR2,ah (by omega)];simp [h6]
   rw [ah h6,nH] at EF
   by_cases h7:x.kind=7
   ·have e:=Tk h7;rw [fI (by first|omega|(exfalso;simp_all;done)),rU,tF,List.filter_nil,nH] at e;rw [e,EF,hR2,au h7];simp [h7]
   rw [xG h7,EF,hR2,ah h7];simp [h6,h7],fun b o h=>LD b o (hg4 b o (hg3 b o (hgm b o h))),by push_cast;omega,hok2⟩
  first|omega|(dsimp only;omega)
 intro h20 a H
 try have qw:=dF h20
 refine dR ?_;refine K3 _ _ ?_;clear K3;refine kP H (SR fun _ gT=>Rm rfl (Rm rfl (Ra rfl (ak gT rfl ?_))));clear H gT;intro a H;refine dG ?_;refine (gV H results104 (.cons (bB H rfl) (.cons (bB H rfl) .nil)) ?_).1;rw [fI (by omega),fM,tF,List.filter_nil,nH] at hX;obtain ⟨Gr,hmr,hrep,H⟩:=St.Gf (Li:=La) H hr1.ps (rows:=R.map fun q=>H6 q.1) (by simp) hr1.pc;obtain ⟨Gs,hms,Uy,H⟩:=St.Gf (Li:=[]) H hr1.it (rows:=R.map fun q=>q.2.dat) (by simp) (hr1.ic.mono hmr);exact H.rt ⟨_,_,rfl,by rw [← hX];exact Uy,by rw [← hX];exact hrep.mono hms⟩
theorem aaG:∀ m:Nat,m≤4294967297→Qj m
 | 0,_=>fun _ _ _ _ _ _ _ _ h=>absurd h (by omega)
 | m+1,hm=>akv (aaG m (by omega)) (by omega)
theorem anY (G:GH) (w0:World) (hG:Hold G w0) (D:jT) (l:List ay) (hv:aC G (.sl 11 (l.map ay.dat)) (bU D.f)) (hok:ou l) (hz:bq l≤4294967295) :
  Calls prog 50 #[D.val] w0 (bY w0 G (yB (Ae l))):=by
 refine eN [(0,_)] func50 rfl ntmps50 rfl rfl hG ?_;intro a H;refine dh (fun _ K1=>?_);refine fB (cs:=[_,_,_,_,_,_,_,_,_,_,_]) H wn rfl rfl rfl ?_;clear H;intro b1 a w hb1 H;refine kH H (Ra rfl (ak K1 rfl (SR fun _ K2=>aT BZ jJ 0 rfl rfl ?_)));clear H K1;intro a H;refine s_call QS H wn rfl (aaG 4294967297 (by omega) _ _ H.ro 0 l _ hv hok (by omega)) rfl ?_;clear H;rintro v6 G6 a w ⟨a6,c6,rfl,hpa,hpb⟩ Jg H;(iterate 2 refine nA H wn rfl rfl rfl ?_;clear H;intro a H);refine kH H (Ra rfl (ak K2 rfl ?_));clear H K2;intro a H;refine dG ?_;refine (gV H results50 (.cons (bB H rfl) (.cons (bB H rfl) .nil)) ?_).1;exact H.rt ⟨_,_,rfl,hpa,hpb⟩
end
section
open Go.RowKit
end
section
open Go.RowKit
abbrev EY (p:jK):Int × List ay × Bool × Int:=(p.id,p.items,p.note,p.depth)
abbrev EA (F:jh):Int × List ay × Bool × Int:=(F.id,F.items,F.note,F.tables)
mutual
theorem aec (f:Int) (at_:Nat) (note:Bool) (t:Int):∀ x:ay,(FY f at_ note t x).map EY=(uw note t x).map EA
 | .mk k c i tx h fl r=>by
  have hf:=Nb i true t 0 fl;have hr:=XT f at_ note t r;rw [FY,uw]
  by_cases h6:k=6
  ·rw [au h6,au h6,dV,dV,hf]
  rw [ah h6,ah h6]
  by_cases h7:k=7
  ·rw [au h7,au h7,hr]
  rw [ah h7,ah h7];rfl
theorem Nb (f:Int) (note:Bool) (t:Int):∀ (at_:Nat) (l:List ay),(tu f note t at_ l).map EY=(iT note t l).map EA
 | _,[]=>by rw [tu,iT];rfl
 | at_,x :: l=>by rw [tu,iT,mW,mW,aec f at_ note t x,Nb f note t (at_+n1 x) l]
theorem aed (f:Int) (at_:Nat) (note:Bool) (t:Int):∀ x:bH,(FZ f at_ note (t+1) x).map EY=(uy note t x).map EA
 | .mk h cs=>by rw [FZ,uy];exact XR f at_ note t cs
theorem XT (f:Int) (at_:Nat) (note:Bool) (t:Int):∀ l:List bH,(uJ f at_ note (t+1) l).map EY=(mF note t l).map EA
 | []=>by rw [uJ,mF];rfl
 | x :: l=>by rw [uJ,mF,mW,mW,aed f at_ note t x,XT f at_ note t l]
theorem aeb (f:Int) (at_:Nat) (note:Bool) (t:Int):∀ x:bD,(FX f at_ note (t+1) x).map EY=(uq note t x).map EA
 | .mk i h fl=>by rw [FX,uq,dV,dV,Nb i note (t+1) 0 fl]
theorem XR (f:Int) (at_:Nat) (note:Bool) (t:Int):∀ l:List bD,(yH f at_ note (t+1) l).map EY=(mR note t l).map EA
 | []=>by rw [yH,mR];rfl
 | x :: l=>by rw [yH,mR,mW,mW,aeb f at_ note t x,XR f at_ note t l]
end
abbrev lH (l:List ay):List jK:=yI ⟨0,l,-1,0,false,0⟩
theorem bw (l:List ay):(lH l).map EY=(dx l).map EA:=by
 rw [lH,yI,dx,dV,dV,Nb 0 false 0 0 l]
theorem Aw (l:List ay):(lH l).length=(dx l).length:=by simpa using av List.length (bw l)
theorem QE {l:List ay} {i:Nat} (h:i < (lH l).length):(lH l)[i].id=((dx l)[i]'(by rw [← Aw];exact h)).id∧(lH l)[i].items=((dx l)[i]'(by rw [← Aw];exact h)).items∧(lH l)[i].note=((dx l)[i]'(by rw [← Aw];exact h)).note∧(lH l)[i].depth=((dx l)[i]'(by rw [← Aw];exact h)).tables:=by
 have e:((lH l).map EY)[i]?=((dx l).map EA)[i]?:=by rw [bw]
 rw [qE,qE,fP h,fP (by rw [← Aw];exact h)] at e
 simp only [yE,oz,iU] at e
 exact e
theorem aea {l:List ay} {i:Nat} (h:i < (lH l).length):(lH l)[i].id=((dx l)[i]'(by rw [← Aw];exact h)).id∧(lH l)[i].items=((dx l)[i]'(by rw [← Aw];exact h)).items:=⟨(QE h).1,(QE h).2.1⟩
theorem adV (l:List ay):(lH l).map jK.id=(dx l).map jh.id:=by
 have h:=av (List.map Prod.fst) (bw l)
 simpa [List.map_map,Function.comp_def] using h
end
section
open Go.RowKit
abbrev zI (n:Nat) (L:List ((Int × Int) × ay)):Prop:=∀ a∈L,cO a.2.dat≤n
theorem zI.nil (n:Nat):zI n []:=fun _ h=>by cases h
theorem zI.mono {n m:Nat} {L:List ((Int × Int) × ay)} (h:zI n L) (hn:n≤m):zI m L:=fun a ha=>Nat.le_trans (h a ha) hn
theorem zI.append {n:Nat} {A B:List ((Int × Int) × ay)} (h:zI n A) (g:zI n B):zI n (A++B):=fun a ha=>(vO.1 ha).elim (h a) (g a)
theorem zI.cons {n:Nat} {x:(Int × Int) × ay} {B:List ((Int × Int) × ay)} (h:cO x.2.dat≤n) (g:zI n B):zI n (x :: B):=fun a ha=>by
 rcases ow.1 ha with rfl|ha
 ·exact h
 exact g a ha
theorem Vf {d:qR} (h:jk d=0):Im d.flow:=by
 have h1:=oK h _ (vR _ (vR _ jB));exact Im.of (IG h1)
theorem QD {G:GH} {A:List jK} {B:Option Addr} {n c k:Nat} (hv:aC G (.sl 6 (A.map jK.dat)) (.slice B n c)) (hk:k < A.length):∃ b o v,B=some ⟨b,o,none⟩∧(∀ j u,(A[k].cells v)[j]?=some u→aG G b (o+k*6+j)=some u)∧aC G (.sl 11 (A[k].items.map ay.dat)) v:=by
 obtain ⟨b,o,cs,h1,h2,h3,h4⟩:=hv.at_ k A[k].dat (by simp [hk]);obtain ⟨v,rfl,hr⟩:=jK.of h4;exact ⟨b,o,v,h1,h3,hr⟩
theorem aod {G:GH} {A:List ((Int × Int) × ay)} {B:Option Addr} {n c k:Nat} (hv:aC G (.sl 11 (A.map fun q=>q.2.dat)) (.slice B n c)) (hk:k < A.length):∃ b o cs,B=some ⟨b,o,none⟩∧(∀ j u,cs[j]?=some u→aG G b (o+k*11+j)=some u)∧bJ G A[k].2.dat cs:=by
 obtain ⟨b,o,cs,h1,h2,h3,h4⟩:=hv.at_ k A[k].2.dat (by simp [hk]);exact ⟨b,o,cs,h1,h3,h4⟩
end
section
open Go.RowKit
def pY (L:List jh):Prop:=∀ f∈L,0≤f.tables∧f.tables≤4∧f.body=false
theorem pY.nil:pY []:=fun _ h=>by cases h
theorem pY.cons {f:jh} {L:List jh} (h1:0≤f.tables∧f.tables≤4∧f.body=false) (h2:pY L):pY (f :: L):=fun x hx=>by
 rcases ow.1 hx with rfl|hx
 ·exact h1
 exact h2 x hx
theorem pY.app {A B:List jh} (h1:pY A) (h2:pY B):pY (A++B):=fun x hx=>(vO.1 hx).elim (h1 x) (h2 x)
theorem ame {C:dL} {body note:Bool} {t i:Int} {s s':CS} (h:jo C body note t 7 i s=(0,s')):¬ 4≤t:=fun h4=>by
 unfold jo at h
 rw [ah (by decide),ah (by decide),au rfl] at h;have h1:=(mI h).1;rw [dQ h4] at h1;cases h1
mutual
theorem aob (C:dL) (body note:Bool) (t:Int) (h0:0≤t) (h4:t≤4):∀ (x:ay) (s s':CS),dY C body note t x s=(0,s')→pY (uw note t x)
 | .mk k c i tx h f r,s,s',e=>by
  have hf:=JM C false true t h0 h4 f;rw [dY] at e;obtain ⟨-,e⟩:=mI e;obtain ⟨e1,e⟩:=mI e;obtain ⟨-,e⟩:=mI e;rw [uw]
  by_cases h6:k=6
  ·rw [au h6] at e ⊢;exact pY.cons ⟨h0,h4,rfl⟩ (hf _ _ e)
  rw [ah h6] at e ⊢
  by_cases h7:k=7
  ·rw [au h7] at e ⊢;have h5:=ame (by rw [h7] at e1;exact IG e1);have h8:=aci C note (t+1) (by omega) (by omega) r _ _ (VE e).2
   rwa [Int.add_sub_cancel] at h8
  rw [ah h7];exact pY.nil
theorem JM (C:dL) (body note:Bool) (t:Int) (h0:0≤t) (h4:t≤4):∀ (l:List ay) (s s':CS),fq C body note t l s=(0,s')→pY (iT note t l)
 | [],_,_,_=>by rw [iT];exact pY.nil
 | x :: r,s,s',e=>by
  rw [fq] at e;obtain ⟨e1,e⟩:=mI e;rw [iT];exact (aob C body note t h0 h4 x s _ (Prod.ext e1 rfl)).app (JM C body note t h0 h4 r _ _ e)
theorem aoc (C:dL) (note:Bool) (t:Int) (h0:0≤t) (h4:t≤4):∀ (x:bH) (s s':CS),uY C note t x s=(0,s')→pY (uy note (t - 1) x)
 | .mk h cs,s,s',e=>by
  rw [uY] at e;rw [uy];exact ach C note t h0 h4 cs _ _ (mI e).2
theorem aci (C:dL) (note:Bool) (t:Int) (h0:0≤t) (h4:t≤4):∀ (l:List bH) (s s':CS),fH C note t l s=(0,s')→pY (mF note (t - 1) l)
 | [],_,_,_=>by rw [mF];exact pY.nil
 | x :: r,s,s',e=>by
  rw [fH] at e;obtain ⟨e1,e⟩:=mI e;rw [mF];exact (aoc C note t h0 h4 x s _ (Prod.ext e1 rfl)).app (aci C note t h0 h4 r _ _ e)
theorem aoa (C:dL) (note:Bool) (t:Int) (h0:0≤t) (h4:t≤4):∀ (x:bD) (s s':CS),cellC C note t x s=(0,s')→pY (uq note (t - 1) x)
 | .mk i h f,s,s',e=>by
  have hf:=JM C false note t h0 h4 f;rw [cellC] at e;(iterate 2 obtain ⟨-,e⟩:=mI e);rw [uq,Int.sub_add_cancel];exact pY.cons ⟨h0,h4,rfl⟩ (hf _ _ e)
theorem ach (C:dL) (note:Bool) (t:Int) (h0:0≤t) (h4:t≤4):∀ (l:List bD) (s s':CS),kE C note t l s=(0,s')→pY (mR note (t - 1) l)
 | [],_,_,_=>by rw [mR];exact pY.nil
 | x :: r,s,s',e=>by
  rw [kE] at e;obtain ⟨e1,e⟩:=mI e;rw [mR];exact (aoa C note t h0 h4 x s _ (Prod.ext e1 rfl)).app (ach C note t h0 h4 r _ _ e)
end
def vF (n:Int) (s:CS):CS:=⟨s.n+n,s.aU⟩
def Am (n:Int) (r:CR):CR:=(r.1,vF n r.2)
theorem CJ {n:Int} {r:CR} {f g:CS→CR} (h:∀ s,g (vF n s)=Am n (f s)):fG (Am n r) g=Am n (fG r f):=by
 unfold fG Am
 dsimp only
 split
 ·rfl
 exact h _
theorem aov (n:Int) (C:dL) (body note:Bool) (t k i:Int) (s:CS):jo C body note t k i (vF n s)=Am n (jo C body note t k i s):=by
 unfold jo
 (repeat' split) <;> first|rfl|exact CJ (r:=(_,s)) fun _=>rfl
theorem aos (n m:Int) (s:CS):(⟨(vF n s).n+m,(vF n s).aU⟩:CS)=vF n ⟨s.n+m,s.aU⟩:=by
 unfold vF;dsimp only;congr 1;omega
mutual
theorem aoC (n:Int) (C:dL) (body note:Bool) (t:Int):∀ (x:ay) (s:CS),dY C body note t x (vF n s)=Am n (dY C body note t x s)
 | .mk k c i tx h f r,s=>by
  have hf:=PW n C false true t f;have hr:=acJ n C note (t+1) r;rw [dY,dY];refine CJ (r:=(_,s)) fun s=>?_;rw [aos,aov];refine CJ fun s=>CJ (r:=(_,s)) fun s=>?_
  split
  ·exact hf s
  split
  ·unfold jS
   (repeat' split) <;> first|rfl|exact hr s
  rfl
theorem PW (n:Int) (C:dL) (body note:Bool) (t:Int):∀ (l:List ay) (s:CS),fq C body note t l (vF n s)=Am n (fq C body note t l s)
 | [],s=>by rw [fq,fq];rfl
 | x :: r,s=>by rw [fq,fq,aoC n C body note t x s];exact CJ (PW n C body note t r)
theorem aoD (n:Int) (C:dL) (note:Bool) (t:Int):∀ (x:bH) (s:CS),uY C note t x (vF n s)=Am n (uY C note t x s)
 | .mk h cs,s=>by rw [uY,uY];exact CJ (r:=(_,s)) (acI n C note t cs)
theorem acJ (n:Int) (C:dL) (note:Bool) (t:Int):∀ (l:List bH) (s:CS),fH C note t l (vF n s)=Am n (fH C note t l s)
 | [],s=>by rw [fH,fH];rfl
 | x :: r,s=>by rw [fH,fH,aoD n C note t x s];exact CJ (acJ n C note t r)
theorem aoB (n:Int) (C:dL) (note:Bool) (t:Int):∀ (x:bD) (s:CS),cellC C note t x (vF n s)=Am n (cellC C note t x s)
 | .mk i h f,s=>by
  rw [cellC,cellC,show iK C (vF n s) i=Am n (iK C s i) from rfl];exact CJ fun s=>CJ (r:=(_,s)) (PW n C false note t f)
theorem acI (n:Int) (C:dL) (note:Bool) (t:Int):∀ (l:List bD) (s:CS),kE C note t l (vF n s)=Am n (kE C note t l s)
 | [],s=>by rw [kE,kE];rfl
 | x :: r,s=>by rw [kE,kE,aoB n C note t x s];exact CJ (acI n C note t r)
end
theorem Ze {C:dL} {l:List ay} {s s':CS} (e:fq C true false 0 l s=(0,s')) {f:jh} (h:f∈dx l):0≤f.tables∧f.tables≤4:=by
 rcases ow.1 h with rfl|h
 ·exact ⟨Int.le_refl _,show (0:Int)≤4 by decide⟩
 exact ⟨(JM C true false 0 (Int.le_refl _) (by decide) l _ _ e f h).1,(JM C true false 0 (Int.le_refl _) (by decide) l _ _ e f h).2.1⟩
end
section
open Go.RowKit
theorem Rb:∀ args w,(callFunc 41 args).run prog w=.ok (.enter 41 args) w:=enters func41 rfl (by kernel_rfl)
theorem YH:∀ args w,(callFunc 42 args).run prog w=.ok (.enter 42 args) w:=enters func42 rfl (by kernel_rfl)
theorem YV:∀ args w,(callFunc 92 args).run prog w=.ok (.enter 92 args) w:=enters func92 rfl (by kernel_rfl)
theorem anS {s:vM} (h:gH s.styles≠0):jX s=gH s.styles:=by rw [jX,bK,au h]
theorem VR {s:vM} (h0:gH s.styles=0) (h:vT s.lists≠0):jX s=vT s.lists:=by rw [jX,bK,ah (by rw [h0];decide),bK,au h]
theorem Ic {s:vM} (h0:gH s.styles=0) (h1:vT s.lists=0) (h:tC s.comments≠0):jX s=tC s.comments:=by rw [jX,bK,ah (by rw [h0];decide),bK,ah (by rw [h1];decide),bK,au h]
theorem JK {s:vM} (h0:gH s.styles=0) (h1:vT s.lists=0) (h2:tC s.comments=0):jX s=zN s.vars:=by
 rw [jX,bK,ah (by rw [h0];decide),bK,ah (by rw [h1];decide),bK,ah (by rw [h2];decide),bK,bK]
 split
 ·rfl
 rename_i h;exact (gu.1 h).symm
theorem OU {E:Nat→Int} {n m:Nat} (h:(m:Int) < n):bK [bE (decide ((m:Int) < (n:Int))) 9,iC E (min n m)]=9:=by
 rw [dQ h];rfl
theorem OT {E:Nat→Int} {n m:Nat} (h:¬ (m:Int) < n):bK [bE (decide ((m:Int) < (n:Int))) 9,iC E (min n m)]=iC E n:=by
 rw [gY h,bK,ah (by decide),bK,bK,show min n m=n by omega]
 split
 ·rfl
 rename_i h;exact (gu.1 h).symm
theorem yG {E:Nat→Int} {n k:Nat} (hk:k < n) (he:bK (((List.range n).map E).drop k)=iC E n) (h:E k≠0):iC E n=E k:=by
 rw [← he,qd hk,au h]
theorem M6 {E:Nat→Int} {n k:Nat} (hk:k < n) (he:bK (((List.range n).map E).drop k)=iC E n) (h:E k=0):bK (((List.range n).map E).drop (k+1))=iC E n:=by
 rw [← he,qd hk,ah (by rw [h];decide)]
theorem M5 {E:Nat→Int} {n k:Nat} (hk:n≤k) (he:bK (((List.range n).map E).drop k)=iC E n):iC E n=0:=by
 rw [← he,fI (by simpa using hk)];rfl
theorem vX {l:List Int} {e:Int} (h:e≠0):bK (e :: l)=e:=by rw [bK,au h]
theorem iV {l:List Int} {e:Int} (h:e=0):bK (e :: l)=bK l:=by rw [bK,ah (by rw [h];decide)]
theorem abR {α:Type} {l:List α} {p:α→Bool} {j:Nat} (h:j < l.length):((l.take (j+1)).findIdx? p).isSome=(((l.take j).findIdx? p).isSome || p l[j]):=by
 rw [mV h,List.findIdx?_append]
 cases (l.take j).findIdx? p <;> simp [List.findIdx?_cons] <;> split <;> simp_all
set_option maxHeartbeats 4000000 in
theorem alj (G:GH) (w0:World) (hG:Hold G w0) (s:vM) (a b c d:aj) (hR:CW G s a b c d) (hz:Kl s) :
  Calls prog 40 #[.agg #[a,b,c,d]] w0 (bY w0 G fun u G'=>u=vi (jX s)):=by
 obtain ⟨sA,sc,rfl,-,-,-⟩:=hR.st.slice;obtain ⟨lA,lc,rfl,-,hlc,-⟩:=hR.li.slice;obtain ⟨cA,cc,rfl,-,hcc,-⟩:=hR.cm.slice;obtain ⟨vA,vc,rfl,-,hvc,-⟩:=hR.va.slice;have hml:maxLen=9223372036854775807:=rfl;have hl1:=hz.ln;have hl2:=hz.cn;have hl3:=hz.vn;refine eN [(0,_)] func40 rfl ntmps40 rfl rfl hG ?_;intro a H;refine dh (fun _ K1=>?_);refine fB (cs:=[_,_,_,_]) H wn rfl rfl rfl ?_;clear H;intro b1 a w hb1 H;refine kH H (ak K1 rfl (SQ fun _ K2=>SQ fun _ K3=>?_));clear H K1;intro a H;obtain ⟨Ga,hma,hb1',H⟩:=H.dW
 simp only [bQ] at hb1' hR
 have hc0:aG Ga b1 0=some (.slice sA s.styles.length sc):=by unfold aG;rw [hb1'];rfl
 have hc1:aG Ga b1 1=some (.slice lA s.lists.length lc):=by unfold aG;rw [hb1'];rfl
 have hc2:aG Ga b1 2=some (.slice cA s.comments.length cc):=by unfold aG;rw [hb1'];rfl
 have hc3:aG Ga b1 3=some (.slice vA s.vars.length vc):=by unfold aG;rw [hb1'];rfl
 have wE:=hR.li.mono hma;have hcm:=hR.cm.mono hma;have hva:=hR.va.mono hma;refine kP H (SC (Rf Ew rfl (Rg qy rfl (by assumption) ?_)));clear H;intro a H;refine s_call YT H wn rfl (X8 _ _ H.ro s.styles _ (hR.st.mono hma) hz.sn) rfl ?_;clear H;rintro v19 WI a w rfl GN H;replace hc1:=aH GN hc1;replace hc2:=aH GN hc2;replace hc3:=aH GN hc3;replace wE:=wE.mono GN;replace hcm:=hcm.mono GN;replace hva:=hva.mono GN;refine kH H (aM K3 rfl (SR fun _ K4=>Rm rfl (Rc rfl (Kz K4 (Cd rfl ?_ ?_))))) <;> clear H K3 K4
 ·intro h21 a H
  try have nX:=dT h21
  refine aN (fun _ K5=>?_);have e:jX s=gH s.styles:=anS nX;exact kP H (SC (Rm rfl (aM K5 rfl (LR results40 rfl fun H=>H.rt (av vi e.symm)))))
 intro h21 a H
 try have nX:=dF h21
 have e0:gH s.styles=0:=gu.1 nX;refine kP H (Kc K2 (SQ fun _ K6=>SR fun _ K7=>Rf AO rfl (Rg wP rfl (by assumption) ?_)));clear H K2;intro a H;refine kH H (Rl wS rfl (Rc rfl (Kz K7 (Cd rfl ?_ ?_)))) <;> clear H K7
 ·intro eO a H
  try have p26:=dT eO
  refine aN (fun _ K8=>?_)
  have e:jX s=9:=by
   have h:vT s.lists=9:=OU (m:=64) (by omega);rw [VR e0 (by rw [h];decide),h]
  exact kP H (SC (aM K8 rfl (LR results40 rfl fun H=>H.rt (av vi e.symm))))
 intro eO a H
 try have p26:=dF eO
 have Ch:vT s.lists=iC (xM s.lists) s.lists.length:=OT (m:=64) (by omega);refine kP H (Kc K6 (SQ fun _ K9=>SR fun _ aV=>ak aV rfl (SB ?_)));clear H K6 aV;intro a H;skip;refine eT (ι:=Nat × GH) (Tc:=[(1,_)]) (Lc:=[]) (fun gh=>[(4,vi gh.1)]) (fun gh=>[]) (fun gh=>gh.2) (fun gh=>gh.1≤s.lists.length∧bK (((List.range s.lists.length).map (xM s.lists)).drop gh.1)=iC (xM s.lists) s.lists.length∧(∀ b o,WI b=some o→gh.2 b=some o)) (fun gh=>s.lists.length - gh.1) ((0,WI)) (by exact (H).sub ⟨rfl,rfl,aB⟩) ?_ ?_
 ·exact ⟨gX _,rfl,fun _ _ h=>h⟩
 clear H;rintro ⟨k,g⟩ a w hI H;dsimp only at hI H;obtain ⟨hk,he,hgm⟩:=hI;have aiv:=aH hgm hc1;have ZN:=wE.mono hgm;dsimp only [lca,aO] at H;refine kP H (SQ fun _ bF=>SR fun _ bG=>Rm rfl (Rf AO rfl (Rg wP rfl (by assumption) ?_)));clear H;intro a H;refine kH H (Rl wS rfl (Rc rfl (Kz bG (Cd rfl ?_ ?_)))) <;> clear H bG
 ·intro h31 a H
  try have p31:=dT h31
  have hk2:k < s.lists.length:=by omega
  have hk1:k - 1 < s.lists.length:=by omega
  obtain ⟨lb,lo,B,d,rfl,hrow,hlv⟩:=Ht ZN hk2;obtain ⟨_,_,_,_,GJ,hrow',-⟩:=Ht ZN hk1
  injection GJ with GJ
  injection GJ with e1 e2
  subst e1;subst e2
  have hek:xM s.lists k=bK [kI (fun k=>(s.lists[k]?.map dM.id).getD 0) k,eu s.lists[k].levels]:=by unfold xM;rw [fP hk2];rfl
  have hinc:wJ s.lists[k].id s.lists[k - 1].id (decide ((k:Int)=0))=kI (fun k=>(s.lists[k]?.map dM.id).getD 0) k:=by
   rw [← UR];(try dsimp only);rw [fP hk2,fP hk1];simp
  refine kP H (Kc bF (SQ fun _ bM=>SB (SR fun _ bN=>Rf AO rfl (Rg wP rfl (by assumption) ?_))));clear H bF;intro a H;refine kH H (Rm rfl (Ri wS zw rfl rfl ?_));clear H;intro a H;refine bP zw (cs:=[vi s.lists[k].id,.slice B s.lists[k].levels.length d]) H wn rfl rfl (fun j v hj=>H.hp.aG (hrow j v hj)) rfl ?_;clear H;intro a H;refine eH zw H wn rfl ?_;clear H;intro b5 a w hb5 H;refine bT zw 0 (vs:=[_,_]) _ H wn rfl rfl rfl rfl rfl rfl rfl rfl ?_;clear H;intro w H;dsimp only [List.set,setRow] at H;refine bN _ _ ?_;clear bN;refine aN (fun _ bW=>?_);refine aN (fun _ cK=>?_);refine dI hmx [[],[0],[],[2],[],[4],[4,5],(ra 2 5),(ra 2 6),(ra 2 7),[],[10],(ra 0 12),(ra 0 13)] [13] (by kernel_rfl) [_,vi s.lists[k].id,_,_,_,_,vi ((k - 1:Nat):Int),_,_,_,_,_,vi (kI (fun k=>(s.lists[k]?.map dM.id).getD 0) k)] H (aI (Z0 rfl (Rf KG rfl)) (Z1 0 39 rfl (Ro aD 0 rfl)) (Z0 rfl (Rf AO rfl)) (X1 2 41 rfl fun hG=>Rg wP rfl (aH hG aiv)) (aI (Z0 rfl (Rm rfl)) (Z1 4 43 rfl (Rs rfl)) ?_ (Z2 3 42 6 45 rfl (Ri wS zw rfl rfl)) (aI (Z1 7 46 rfl (Rf KG rfl)) (X1 8 47 rfl fun hG=>Rg aD rfl (aH hG (hrow' 0 _ rfl))) (Z0 rfl (Rm rfl)) (Z1 10 49 rfl (Rc rfl)) (bC ?_ (bC (cu rfl) dN))))) ?_
  ·refine eF 5 44 rfl rfl fun _ a w G1 hG HT H fin=>?_;refine E9 H wn rfl rfl rfl ?_;clear H;intro a H;exact fin H iJ (av vi (by omega))
  ·refine vK 1 40 9 48 11 50 rfl rfl fun _ a w G1 hG HT H fin=>?_;refine s_call Rb H wn rfl (UU _ _ H.ro s.lists[k].id s.lists[k - 1].id (decide ((k:Int)=0))) rfl ?_;clear H;rintro v51 WQ a w ⟨rfl,-⟩ KY H;exact fin H KY (av vi hinc)
  clear H;intro a w G rM H hv;have H:=H.bg (hv 12 51 rfl rfl) rfl;clear hv;refine kH H (Ra rfl ?_);clear H;intro a H;refine aJ ⟨rfl,?_⟩;refine cK _ _ ?_;clear cK;refine kP H (SR fun _ bS=>Rm rfl (Rc rfl (Kz bS (Cd rfl ?_ ?_)))) <;> clear H bS
  ·intro gL a H
   try have p53:=dT gL
   refine aN (fun _ dD=>?_)
   have e:jX s=kI (fun k=>(s.lists[k]?.map dM.id).getD 0) k:=by
    have h1:xM s.lists k=kI (fun k=>(s.lists[k]?.map dM.id).getD 0) k:=by rw [hek,vX p53]
    have h2:vT s.lists=kI (fun k=>(s.lists[k]?.map dM.id).getD 0) k:=by rw [Ch,yG hk2 he (by rw [h1];exact p53),h1]
    rw [VR e0 (by rw [h2];exact p53),h2]
   exact kP H (SC (Rm rfl (aM dD rfl (LR results40 rfl fun H=>H.rt (av vi e.symm)))))
  intro gL a H
  try have p53:=dF gL
  refine kP H (Kc bW (SR fun _ dO=>aT Rz V7 0 rfl rfl ?_));clear H bW;intro a H;refine s_call YU H wn rfl (X7 _ _ H.ro s.lists[k].levels _ (hlv.mono rM) (hz.lt _ (jv hk2))) rfl ?_;clear H;rintro v57 G57 a w rfl ajc H;refine kH H (ak dO rfl (SR fun _ dK=>Rm rfl (Rc rfl (Kz dK (Cd rfl ?_ ?_))))) <;> clear H dO dK
  ·intro jc a H
   try have p59:=dT jc
   refine aN (fun _ dS=>?_)
   have e:jX s=eu s.lists[k].levels:=by
    have h1:xM s.lists k=eu s.lists[k].levels:=by rw [hek,iV (gu.1 p53),vX p59]
    have h2:vT s.lists=eu s.lists[k].levels:=by rw [Ch,yG hk2 he (by rw [h1];exact p59),h1]
    rw [VR e0 (by rw [h2];exact p59),h2]
   exact kP H (SC (Rm rfl (aM dS rfl (LR results40 rfl fun H=>H.rt (av vi e.symm)))))
  intro jc a H
  try have p59:=dF jc
  refine kP H (Kc bM (SC (Rm rfl (Rd rfl (Ra rfl ?_)))));clear H bM;intro a H;refine aJ ?_;refine dH ((k+1,G57)) (by exact (H.dB (Pl:=[_]) (cB:=[]) [] (by decide) rfl).sub ⟨rfl,rfl,aB⟩) ?_ ?_
  ·(try dsimp only);exact ⟨by omega,M6 hk2 he (by rw [hek,iV (gu.1 p53),iV (gu.1 p59)];rfl),fun b o h=>ajc b o (rM b o (hgm b o h))⟩
  first|omega|(dsimp only;omega)
 intro h31 a H
 try have p31:=dF h31
 refine dR ?_;refine K9 _ _ ?_;clear K9;refine aN (fun _ eP=>?_);refine aN (fun _ gG=>?_)
 have yR:vT s.lists=0:=by rw [Ch,M5 (by omega) he]
 have aiw:=aH hgm hc2;have aiy:=aH hgm hc3;replace hcm:=hcm.mono hgm;replace hva:=hva.mono hgm;refine kP H (SC (Rf F7 rfl (Rg Aj rfl (by assumption) ?_)));clear H;intro a H;refine kH H (Rl zB rfl (Rc rfl (Kn gG (Cd rfl ?_ ?_)))) <;> clear H gG
 ·intro h64 a H
  try have p64:=dT h64
  refine aN (fun _ gT=>?_)
  have e:jX s=9:=by
   have h:tC s.comments=9:=OU (m:=1024) (by omega);rw [Ic e0 yR (by rw [h];decide),h]
  exact kP H (SC (aM gT rfl (LR results40 rfl fun H=>H.rt (av vi e.symm))))
 intro h64 a H
 try have p64:=dF h64
 have Gm:tC s.comments=iC (tH s.comments) s.comments.length:=OT (m:=1024) (by omega);refine kP H (Kc eP (SQ fun _ gM=>SR fun _ jf=>ak jf rfl (SB ?_)));clear H eP jf;intro a H;skip;refine eT (ι:=Nat × GH) (Tc:=[(1,_)]) (Lc:=[]) (fun gh=>[(8,vi gh.1)]) (fun gh=>[]) (fun gh=>gh.2) (fun gh=>gh.1≤s.comments.length∧bK (((List.range s.comments.length).map (tH s.comments)).drop gh.1)=iC (tH s.comments) s.comments.length∧(∀ b o,g b=some o→gh.2 b=some o)) (fun gh=>s.comments.length - gh.1) ((0,g)) (by exact (H).sub ⟨rfl,rfl,aB⟩) ?_ ?_
 ·exact ⟨gX _,rfl,fun _ _ h=>h⟩
 clear H;rintro ⟨i,g2⟩ a w hI H;dsimp only at hI H;obtain ⟨hi,hce,kF⟩:=hI;have Zy:=aH kF aiw;have TJ:=hcm.mono kF;dsimp only [lca,aO] at H;refine kP H (SQ fun _ jq=>SR fun _ iQ=>Rm rfl (Rf F7 rfl (Rg Aj rfl (by assumption) ?_)));clear H;intro a H;refine kH H (Rl zB rfl (Rc rfl (Kz iQ (Cd rfl ?_ ?_)))) <;> clear H iQ
 ·intro gU a H
  try have p69:=dT gU
  have hi2:i < s.comments.length:=by omega
  have hi1:i - 1 < s.comments.length:=by omega
  obtain ⟨cb,co,rfl,ZC,-⟩:=IE TJ hi2;obtain ⟨_,_,TK,aiK,-⟩:=IE TJ hi1
  injection TK with TK
  injection TK with e1 e2
  subst e1;subst e2;have hte:=hz.ct _ (jv hi2);obtain ⟨x,hx⟩:∃ x,x=s.comments[i]:=⟨_,rfl⟩
  have GD:tH s.comments i=Az s.comments i x:=by unfold tH;rw [fP hi2,hx]
  have aiT:wJ x.id s.comments[i - 1].id (decide ((i:Int)=0))=kI (fun k=>(s.comments[k]?.map jd.id).getD 0) i:=by
   rw [← UR];(try dsimp only);rw [fP hi2,fP hi1,hx];simp
  rw [← hx] at ZC hte;refine kP H (Kc jq (SQ fun _ kT=>SB (SR fun _ kU=>Rf F7 rfl (Rg Aj rfl (by assumption) ?_))));clear H jq;intro a H;refine kH H (Rm rfl (Ri zB xU rfl rfl ?_));clear H;intro a H;refine bP xU (cs:=x.cells) H wn rfl rfl (fun j v hj=>H.hp.aG (ZC j v hj)) rfl ?_;clear H;intro a H;refine eH xU H wn rfl ?_;clear H;intro b9 a w wD H;refine bT xU 0 (vs:=[_,_,_,_,_,_]) _ H wn rfl rfl rfl rfl rfl rfl rfl rfl ?_;clear H;intro w H;dsimp only [List.set,setRow] at H;refine kU _ _ ?_;clear kU;refine aN (fun _ jG=>?_);refine aN (fun _ kZ=>?_);refine dI hmx [[],[0],[],[2],[],[4],[4,5],(ra 2 5),(ra 2 6),(ra 2 7),[],[10],(ra 0 12),(ra 0 13)] [13] (by kernel_rfl) [_,vi x.id,_,_,_,_,vi ((i - 1:Nat):Int),_,_,_,_,_,vi (kI (fun k=>(s.comments[k]?.map jd.id).getD 0) i)] H (aI (Z0 rfl (Rf KH rfl)) (Z1 0 77 rfl (Ro aD 0 rfl)) (Z0 rfl (Rf F7 rfl)) (X1 2 79 rfl fun hG=>Rg Aj rfl (aH hG Zy)) (aI (Z0 rfl (Rm rfl)) (Z1 4 81 rfl (Rs rfl)) ?_ (Z2 3 80 6 83 rfl (Ri zB xU rfl rfl)) (aI (Z1 7 84 rfl (Rf KH rfl)) (X1 8 85 rfl fun hG=>Rg aD rfl (aH hG (aiK 0 _ rfl))) (Z0 rfl (Rm rfl)) (Z1 10 87 rfl (Rc rfl)) (bC ?_ (bC (cu rfl) dN))))) ?_
  ·refine eF 5 82 rfl rfl fun _ a w G1 hG HT H fin=>?_;refine E9 H wn rfl rfl rfl ?_;clear H;intro a H;exact fin H iJ (av vi (by omega))
  ·refine vK 1 78 9 86 11 88 rfl rfl fun _ a w G1 hG HT H fin=>?_;refine s_call Rb H wn rfl (UU _ _ H.ro x.id s.comments[i - 1].id (decide ((i:Int)=0))) rfl ?_;clear H;rintro v89 WT a w ⟨rfl,-⟩ ahT H;exact fin H ahT (av vi aiT)
  clear H;intro a w G xE H hv;have H:=H.bg (hv 12 89 rfl rfl) rfl;clear hv;refine kH H (Ra rfl ?_);clear H;intro a H;refine aJ ⟨rfl,?_⟩;refine kZ _ _ ?_;clear kZ;refine kP H (SR fun _ lg=>Rm rfl (Rc rfl (Kz lg (Cd rfl ?_ ?_)))) <;> clear H lg
  ·intro zQ a H
   try have zl:=dT zQ
   refine aN (fun _ lK=>?_)
   have e:jX s=kI (fun k=>(s.comments[k]?.map jd.id).getD 0) i:=by
    have h1:tH s.comments i=kI (fun k=>(s.comments[k]?.map jd.id).getD 0) i:=by rw [GD,Az,vX zl]
    have h2:tC s.comments=kI (fun k=>(s.comments[k]?.map jd.id).getD 0) i:=by rw [Gm,yG hi2 hce (by rw [h1];exact zl),h1]
    rw [Ic e0 yR (by rw [h2];exact zl),h2]
   exact kP H (SC (Rm rfl (aM lK rfl (LR results40 rfl fun H=>H.rt (av vi e.symm)))))
  intro zQ a H
  try have zl:=dF zQ
  refine kP H (Kc jG (SR fun _ lM=>aT NJ aD 0 rfl rfl (Rc rfl (ak lM rfl (SQ fun _ lN=>SR fun _ lY=>ak lY rfl (SB ?_))))));clear H jG lM lY;intro a H;skip;refine eT (ι:=Nat × Bool × GH) (Tc:=[(1,_),(8,_),(9,_)]) (Lc:=[(_,_)]) (fun gh=>[(11,.bool gh.2.1),(12,vi gh.1)]) (fun gh=>[]) (fun gh=>gh.2.2) (fun gh=>gh.1≤i∧gh.2.1=(decide (x.parent=0) || ((s.comments.take gh.1).findIdx? fun y=>decide (y.id=x.parent)).isSome)∧(∀ b o,g2 b=some o→gh.2.2 b=some o)) (fun gh=>i - gh.1) ((0,decide (x.parent=0),_)) (by exact (H).sub ⟨rfl,rfl,rfl,rfl,rfl,aB⟩) ?_ ?_
  ·exact ⟨gX _,by simp,xE⟩
  clear H;rintro ⟨j,fb,g3⟩ a w hI H;dsimp only at hI H;obtain ⟨hj,TN,qL⟩:=hI;have aix:=aH qL Zy;dsimp only [lca,aO] at H;refine kP H (SQ fun _ qD=>SR fun _ vH=>Rm rfl (Rm rfl (Rc rfl (Kz vH (Cd rfl ?_ ?_))))) <;> clear H vH
  ·intro nW a H
   try have Mh:=dT nW
   have hj2:j < i:=by omega
   have hj1:j < s.comments.length:=by omega
   obtain ⟨_,_,TL,aiL,-⟩:=IE (TJ.mono qL) hj1
   injection TL with TL
   injection TL with e1 e2
   subst e1;subst e2;refine kP H (Kc qD (SQ fun _ kV=>SB ?_));clear H qD;intro a H
   by_cases f0:fb=true
   ·skip;refine dI hmx [[],[0],[0,1],[0,1,2],[0,1],(ra 0 5),(ra 0 6),(ra 0 7),[0,1],[0,1,8],(ra 0 10),(ra 0 11),(ra 0 12)] [12] (by kernel_rfl) [_,.bool (decide (fb=true)),undef,undef,undef,undef,undef,undef,undef,undef,undef,.bool (fb || decide (s.comments[j].id=x.parent))] H (aI (Z0 rfl (Rm rfl)) ?_ (aW (j:=1) (by kernel_rfl) (fun _ _ _ _ _ h=>h) rfl rfl rfl rfl rfl (fun _ _ h=>aY h (aL (aF f0))) rfl (fun _=>rfl)) (aW (j:=1) (by kernel_rfl) (fun _ _ _ _ _ h=>h) rfl rfl rfl rfl rfl (fun _ _ h=>aY h (aL (aF f0))) rfl (fun _=>rfl)) (aI (aW (j:=1) (by kernel_rfl) (fun _ _ _ _ _ h=>h) rfl rfl rfl rfl rfl (fun _ _ h=>aY h (aL (aF f0))) rfl (fun _=>rfl)) (aW (j:=1) (by kernel_rfl) (fun _ _ _ _ _ h=>h) rfl rfl rfl rfl rfl (fun _ _ h=>aY h (aL (aF f0))) rfl (fun _=>rfl)) (aW (j:=1) (by kernel_rfl) (fun _ _ _ _ _ h=>h) rfl rfl rfl rfl rfl (fun _ _ h=>aY h (aL (aF f0))) rfl (fun _=>rfl)) (aW (j:=1) (by kernel_rfl) (fun _ _ _ _ _ h=>h) rfl rfl rfl rfl rfl (fun _ _ h=>aY h (aL (aF f0))) rfl (fun _=>rfl)) (aI (aW (j:=1) (by kernel_rfl) (fun _ _ _ _ _ h=>h) rfl rfl rfl rfl rfl (fun _ _ h=>aY h (aL (aF f0))) rfl (fun _=>rfl)) (aW (j:=1) (by kernel_rfl) (fun _ _ _ _ _ h=>h) rfl rfl rfl rfl rfl (fun _ _ h=>aY h (aL (aF f0))) rfl (fun _=>rfl)) (aW (j:=1) (by kernel_rfl) (fun _ _ _ _ _ h=>h) rfl rfl rfl rfl rfl (fun _ _ h=>aY h (aL (aF f0))) rfl (fun _=>rfl)) ?_ (bC (cu rfl) dN)))) ?_
    ·refine eF 0 101 rfl rfl fun _ a w G1 hG HT H fin=>?_;refine kH H (Rm rfl ?_);clear H;intro a H;exact fin H iJ (by show _=_;simp)
    ·refine eU 1 102 10 111 rfl rfl fun _ a w G1 hG HT H fin=>?_;refine kH H (Pt (aF f0) rfl ?_);clear H;intro a H;exact fin H iJ (aL (by first|(rw [f0];rfl)|(rw [Bool.eq_false_iff.2 f0];rfl)))
    clear H;intro a w G Gq H hv;have H:=H.bg (hv 11 112 rfl rfl) rfl;clear hv;refine kH H (Ra rfl ?_);clear H;intro a H;refine aJ ⟨rfl,?_⟩;refine kV _ _ ?_;clear kV;refine kP H (SC (Rm rfl (Rd rfl (Ra rfl ?_))));clear H;intro a H;refine aJ ?_;refine dH ((j+1,_,_)) (by exact (H).sub ⟨rfl,rfl,rfl,rfl,rfl,aB⟩) ?_ ?_
    ·try dsimp only
     exact ⟨by omega,by rw [abR hj1,← Bool.or_assoc,← TN];cases fb <;> rfl,fun b o h=>Gq b o (qL b o h)⟩
    first|omega|(dsimp only;omega)
   skip;refine dI hmx [[],[0],[0,1],[0,1,2],[0,1],(ra 0 5),(ra 0 6),(ra 0 7),[0,1],[0,1,8],(ra 0 10),(ra 0 11),(ra 0 12)] [12] (by kernel_rfl) [_,.bool (decide (fb=true)),_,_,_,_,_,_,_,vi x.parent,_,.bool (fb || decide (s.comments[j].id=x.parent))] H (aI (Z0 rfl (Rm rfl)) ?_ (Z1 1 102 rfl (YF F7 (aP f0) rfl)) (X2 2 103 1 102 rfl fun hG=>YR Aj (aP f0) rfl (aH hG aix)) (aI (Z1 1 102 rfl (YM (aP f0) rfl)) (Z3 3 104 4 105 1 102 rfl (YI zB xU (aP f0) rfl rfl)) (Z2 5 106 1 102 rfl (YF KH (aP f0) rfl)) (X2 6 107 1 102 rfl fun hG=>YR aD (aP f0) rfl (aH hG (aiL 0 _ rfl))) (aI (Z1 1 102 rfl (YF NJ (aP f0) rfl)) (Z2 8 109 1 102 rfl (YO aD 0 (aP f0) rfl)) (Z3 7 108 9 110 1 102 rfl (YC (aP f0) rfl)) ?_ (bC (cu rfl) dN)))) ?_
   ·refine eF 0 101 rfl rfl fun _ a w G1 hG HT H fin=>?_;refine kH H (Rm rfl ?_);clear H;intro a H;exact fin H iJ (by show _=_;simp)
   ·refine eU 1 102 10 111 rfl rfl fun _ a w G1 hG HT H fin=>?_;refine kH H (Pf (aP f0) rfl ?_);clear H;intro a H;exact fin H iJ (aL (by first|(rw [f0];rfl)|(rw [Bool.eq_false_iff.2 f0];rfl)))
   clear H;intro a w G Gq H hv;have H:=H.bg (hv 11 112 rfl rfl) rfl;clear hv;refine kH H (Ra rfl ?_);clear H;intro a H;refine aJ ⟨rfl,?_⟩;refine kV _ _ ?_;clear kV;refine kP H (SC (Rm rfl (Rd rfl (Ra rfl ?_))));clear H;intro a H;refine aJ ?_;refine dH ((j+1,_,_)) (by exact (H).sub ⟨rfl,rfl,rfl,rfl,rfl,aB⟩) ?_ ?_
   ·try dsimp only
    exact ⟨by omega,by rw [abR hj1,← Bool.or_assoc,← TN];cases fb <;> rfl,fun b o h=>Gq b o (qL b o h)⟩
   first|omega|(dsimp only;omega)
  intro nW a H
  try have Mh:=dF nW
  refine dR ?_;refine lN _ _ ?_;clear lN;refine kP H (SQ fun _ yC=>SB (SQ fun _ vI=>?_));clear H;intro a H
  have hbef:fb=Er s.comments i x:=by rw [TN,show j=i by omega];rfl
  refine kP H (SC (Rm rfl (Rn rfl (aM vI rfl (Cd rfl ?_ ?_))))) <;> clear H vI
  ·intro qI a H
   refine aN (fun _ D7=>?_)
   have e:jX s=8:=by
    have h1:tH s.comments i=8:=by rw [GD,Az,iV (gu.1 zl),← hbef,show (!fb)=true from qI];rfl
    have h2:tC s.comments=8:=by rw [Gm,yG hi2 hce (by rw [h1];decide),h1]
    rw [Ic e0 yR (by rw [h2];decide),h2]
   exact kP H (SC (aM D7 rfl (LR results40 rfl fun H=>H.rt (av vi e.symm))))
  intro qI a H
  try have ET:=dF qI
  have w8:bE (!Er s.comments i x) 8=0:=by rw [← hbef,show (!fb)=false from qI];rfl
  refine kP H (SR fun _ BG=>aT Y2 gW 0 rfl rfl ?_);clear H;intro a H;refine s_call YH H wn rfl (XH _ _ H.ro x.author hte.1) rfl ?_;clear H;rintro aqx _ a w ⟨rfl,rfl⟩ - H;refine kH H (Rn rfl (ak BG rfl (Cd rfl ?_ ?_))) <;> clear H BG
  ·intro h116 a H
   refine aN (fun _ Aq=>?_)
   have e:jX s=39:=by
    have h1:tH s.comments i=39:=by rw [GD,Az,iV (gu.1 zl),iV w8,show (!pz x.author)=true from h116];rfl
    have h2:tC s.comments=39:=by rw [Gm,yG hi2 hce (by rw [h1];decide),h1]
    rw [Ic e0 yR (by rw [h2];decide),h2]
   exact kP H (SC (aM Aq rfl (LR results40 rfl fun H=>H.rt (av vi e.symm))))
  intro h116 a H
  try have O5:=dF h116
  have Fp:bE (!pz x.author) 39=0:=by rw [show (!pz x.author)=false from h116];rfl
  refine kP H (SR fun _ zH=>aT RA aD 0 rfl rfl (Rc rfl (Rm rfl (Sp 125 rfl ?_ ?_)))) <;> clear H
  ·intro xC a H
   try have abk:=dT xC
   refine kH H (aZ xC rfl (Pt xC rfl (ak zH rfl (Ct rfl rfl (SQ fun _ CP=>?_)))));clear H zH;intro a H
   have e:jX s=40:=by
    have h1:tH s.comments i=40:=by rw [GD,Az,iV (gu.1 zl),iV w8,iV Fp,gY (by omega)];rfl
    have h2:tC s.comments=40:=by rw [Gm,yG hi2 hce (by rw [h1];decide),h1]
    rw [Ic e0 yR (by rw [h2];decide),h2]
   exact kP H (SC (aM CP rfl (LR results40 rfl fun H=>H.rt (av vi e.symm))))
  intro xC a H
  try have abk:=dF xC
  refine kH H (YF RA xC rfl (YO aD 0 xC rfl (YC xC rfl (Pf xC rfl (ak zH rfl (Cd rfl ?_ ?_)))))) <;> clear H zH
  ·intro Sd a H
   try have alF:=dT Sd
   refine aN (fun _ CQ=>?_)
   have e:jX s=40:=by
    have h1:tH s.comments i=40:=by rw [GD,Az,iV (gu.1 zl),iV w8,iV Fp,gY (by omega)];rfl
    have h2:tC s.comments=40:=by rw [Gm,yG hi2 hce (by rw [h1];decide),h1]
    rw [Ic e0 yR (by rw [h2];decide),h2]
   exact kP H (SC (aM CQ rfl (LR results40 rfl fun H=>H.rt (av vi e.symm))))
  intro Sd a H
  try have alF:=dF Sd
  refine fF ?_;refine yC _ _ ?_;clear yC;refine aN (fun _ BH=>?_)
  have PY:bE (!decide (0≤x.time∧x.time≤1099511627776)) 40=0:=by rw [dQ (by omega)];rfl
  refine kP H (SC (aT Y3 gW 0 rfl rfl ?_));clear H;intro a H;refine s_call YV H wn rfl (acj _ _ H.ro x.text hte.2) rfl ?_;clear H;rintro aqF _ a w ⟨rfl,rfl⟩ - H;refine kH H (aM BH rfl (SR fun _ FB=>Rm rfl (Rc rfl (Kz FB (Cd rfl ?_ ?_))))) <;> clear H BH FB
  ·intro Si a H
   try have Md:=dT Si
   refine aN (fun _ FC=>?_)
   have e:jX s=rX x.text:=by
    have h1:tH s.comments i=rX x.text:=by rw [GD,Az,iV (gu.1 zl),iV w8,iV Fp,iV PY,vX Md]
    have h2:tC s.comments=rX x.text:=by rw [Gm,yG hi2 hce (by rw [h1];exact Md),h1]
    rw [Ic e0 yR (by rw [h2];exact Md),h2]
   exact kP H (SC (Rm rfl (aM FC rfl (LR results40 rfl fun H=>H.rt (av vi e.symm)))))
  intro Si a H
  try have Md:=dF Si
  refine kP H (Kc kT (SC (Rm rfl (Rd rfl (Ra rfl ?_)))));clear H kT;intro a H;refine aJ ?_;refine dH ((i+1,g3)) (by exact (H.dB (Pl:=[_]) (cB:=[]) [] (by decide) rfl).sub ⟨rfl,rfl,aB⟩) ?_ ?_
  ·(try dsimp only);exact ⟨by omega,M6 hi2 hce (by rw [GD,Az,iV (gu.1 zl),iV w8,iV Fp,iV PY,iV (gu.1 Md)];rfl),fun b o h=>qL b o (kF b o h)⟩
  first|omega|(dsimp only;omega)
 intro gU a H
 try have p69:=dF gU
 refine dR ?_;refine gM _ _ ?_;clear gM;refine aN (fun _ uF=>?_);refine aN (fun _ D8=>?_)
 have I5:tC s.comments=0:=by rw [Gm,M5 (by omega) hce]
 have aiz:=aH kF aiy;replace hva:=hva.mono kF;refine kP H (SC (Rf F8 rfl (Rg uj rfl (by assumption) ?_)));clear H;intro a H;refine kH H (Rl vE rfl (Rc rfl (Kn D8 (Cd rfl ?_ ?_)))) <;> clear H D8
 ·intro Sk a H
  try have alH:=dT Sk
  refine aN (fun _ FD=>?_)
  have e:jX s=9:=by
   have h:zN s.vars=9:=OU (m:=128) (by omega);rw [JK e0 yR I5,h]
  exact kP H (SC (aM FD rfl (LR results40 rfl fun H=>H.rt (av vi e.symm))))
 intro Sk a H
 try have alH:=dF Sk
 have Lg:zN s.vars=iC (wT s.vars) s.vars.length:=OT (m:=128) (by omega);refine kP H (Kc uF (SQ fun _ oZ=>SR fun _ D9=>ak D9 rfl (SB ?_)));clear H uF D9;intro a H;skip;refine eT (ι:=Nat × GH) (Tc:=[(1,_)]) (Lc:=[]) (fun gh=>[(14,vi gh.1)]) (fun gh=>[]) (fun gh=>gh.2) (fun gh=>gh.1≤s.vars.length∧bK (((List.range s.vars.length).map (wT s.vars)).drop gh.1)=iC (wT s.vars) s.vars.length∧(∀ b o,g2 b=some o→gh.2 b=some o)) (fun gh=>s.vars.length - gh.1) ((0,g2)) (by exact (H).sub ⟨rfl,rfl,aB⟩) ?_ ?_
 ·exact ⟨gX _,rfl,fun _ _ h=>h⟩
 clear H;rintro ⟨n,g4⟩ a w hI H;dsimp only at hI H;obtain ⟨hn,hne,uS⟩:=hI;have Zz:=aH uS aiz;have aao:=hva.mono uS;dsimp only [lca,aO] at H;refine kP H (SQ fun _ wX=>SR fun _ Ea=>Rm rfl (Rf F8 rfl (Rg uj rfl (by assumption) ?_)));clear H;intro a H;refine kH H (Rl vE rfl (Rc rfl (Kz Ea (Cd rfl ?_ ?_)))) <;> clear H Ea
 ·intro wo a H
  try have Vo:=dT wo
  have hn2:n < s.vars.length:=by omega
  have hn1:n - 1 < s.vars.length:=by omega
  obtain ⟨vb,vo,rfl,aar⟩:=PX aao hn2;obtain ⟨_,_,TM,UL⟩:=PX aao hn1
  injection TM with TM
  injection TM with e1 e2
  subst e1;subst e2;have hte:=hz.vt _ (jv hn2);obtain ⟨x,hx⟩:∃ x,x=s.vars[n]:=⟨_,rfl⟩;obtain ⟨y,hy⟩:∃ y,y=s.vars[n - 1]:=⟨_,rfl⟩
  have LQ:wT s.vars n=Fg n x y.name:=by unfold wT;rw [fP hn2,fP hn1,hx,hy];rfl
  rw [← hx] at aar hte;rw [← hy] at UL;refine kP H (Kc wX (SQ fun _ FE=>SB (SR fun _ Eb=>Rf F8 rfl (Rg uj rfl (by assumption) ?_))));clear H wX;intro a H;refine kH H (Rm rfl (Ri vE xV rfl rfl ?_));clear H;intro a H;refine bP xV (cs:=x.cells) H wn rfl rfl (fun j v hj=>H.hp.aG (aar j v hj)) rfl ?_;clear H;intro a H;refine eH xV H wn rfl ?_;clear H;intro b15 a w Tt H;refine bT xV 0 (vs:=[_,_]) _ H wn rfl rfl rfl rfl rfl rfl rfl rfl ?_;clear H;intro w H;dsimp only [List.set,setRow] at H;refine Eb _ _ ?_;clear Eb;refine oF (ι:=GH) (Tc:=[(1,_),(14,_),(15,_)]) (Lc:=[]) (fun gh=>[]) (fun gh=>[(b15,.cells x.cells.toArray 167 (0,0))]) (fun gh=>gh) (fun gh=>bE (!oG x.name) 13=0∧bE (decide (0 < (n:Int)) && (x.name.toList == y.name.toList)) 7=0∧bE (decide (0 < (n:Int)) && Op.bytesLess x.name.toList y.name.toList) 6=0∧(∀ b o,g4 b=some o→gh b=some o)) (by exact (H).sub ⟨rfl,rfl,rfl,aB⟩) ?_ ?_
  ·skip;refine kP H (SB (SR fun _ FH=>aT AL gW 0 rfl rfl ?_));clear H;intro a H;refine s_call KD H wn rfl (Kt _ _ H.ro x.name hte.1) rfl ?_;clear H;rintro aqM _ a w ⟨rfl,rfl⟩ - H;refine kH H (Rn rfl (ak FH rfl (Cd rfl ?_ ?_))) <;> clear H FH
   ·intro NV a H
    refine aN (fun _ Ar=>?_)
    have e:jX s=13:=by
     have h1:wT s.vars n=13:=by rw [LQ,Fg,show (!oG x.name)=true from NV];rfl
     have h2:zN s.vars=13:=by rw [Lg,yG hn2 hne (by rw [h1];decide),h1]
     rw [JK e0 yR I5,h2]
    exact kP H (SC (aM Ar rfl (LR results40 rfl fun H=>H.rt (av vi e.symm))))
   intro NV a H
   try have aqh:=dF NV
   have Ih:bE (!oG x.name) 13=0:=by rw [show (!oG x.name)=false from NV];rfl
   refine aN (fun _ sS=>?_)
   by_cases c0:0 < (n:Int)
   ·skip;refine dI hmx [[],[0],[0,1],[0,1,2],(ra 0 4),[0,1,2],[0,1,2,5],[0,1,2],[0,1,2,7],[0,1,2,5,6,7,8],[0,1,2,5,6,7,8,9],([0,1,2]++ra 5 6),(ra 0 12),(ra 0 13),(ra 0 14)] [] (by kernel_rfl) [_,_,_,_,.string x.name,_,_,_,vi ((n - 1:Nat):Int),_,_,_,.bool ((x.name.toList == y.name.toList)),_,_] H (aI (Z0 rfl (Rm rfl)) (Z1 0 158 rfl (Rc rfl)) (Z1 1 159 rfl (Rm rfl)) (Z1 2 160 rfl (YF AL (aF c0) rfl)) (aI (Z2 3 161 2 160 rfl (YO gW 0 (aF c0) rfl)) (Z1 2 160 rfl (YF F8 (aF c0) rfl)) (X2 5 163 2 160 rfl fun hG=>YR uj (aF c0) rfl (aH hG Zz)) (Z1 2 160 rfl (YM (aF c0) rfl)) (aI ?_ (Z3 6 164 8 166 2 160 rfl (YI vE xV (aF c0) rfl rfl)) (Z2 9 167 2 160 rfl (YF AL (aF c0) rfl)) (X2 10 168 2 160 rfl fun hG=>YR gW (aF c0) rfl (aH hG (UL 0 _ rfl))) (bC ?_ (bC (Z2 2 160 12 170 rfl (Pt (aF c0) rfl)) (bC (Z1 13 171 rfl (Ra rfl)) dN)))))) ?_
    ·refine eU 7 165 2 160 rfl rfl fun _ a w G1 hG HT H fin=>?_;refine mD _ H (wg H rfl rfl (aF c0)) rfl rfl rfl (by omega) (by omega) rfl ?_;clear H;intro a H;exact fin H iJ (by show _=_;first|rfl|exact av vi (by omega))
    ·refine vK 4 162 11 169 2 160 rfl rfl fun _ a w G1 hG HT H fin=>?_;refine Ia H (wg H rfl rfl (aF c0)) rfl rfl rfl ?_;clear H;intro a H;exact fin H iJ rfl
    clear H;intro a w G Dt H hv;have H:=H.bg (hv 14 157 rfl rfl) rfl;clear hv;refine aJ ⟨rfl,?_⟩;refine sS _ _ ?_;clear sS;refine qF H rfl ?_ ?_
    ·intro KT
     refine aN (fun _ CU=>?_)
     have e:jX s=7:=by
      have h1:wT s.vars n=7:=by rw [LQ,Fg,iV Ih,dQ c0,uG,KT];rfl
      have h2:zN s.vars=7:=by rw [Lg,yG hn2 hne (by rw [h1];decide),h1]
      rw [JK e0 yR I5,h2]
     exact kP H (SC (aM CU rfl (LR results40 rfl fun H=>H.rt (av vi e.symm))))
    intro KT
    try have aqj:=dF KT
    refine aN (fun _ FI=>?_)
    have z7:bE (decide (0 < (n:Int)) && (x.name.toList == y.name.toList)) 7=0:=by first|(rw [dQ c0,uG,KT];rfl)|(rw [gY c0,sZ];rfl)
    have c1:0 < (n:Int):=c0;refine dI hmx [[],[0],[0,1],[0,1,2],(ra 0 4),[0,1,2],[0,1,2,5],[0,1,2],[0,1,2,7],[0,1,2,5,6,7,8],[0,1,2,5,6,7,8,9],([0,1,2]++ra 5 6),(ra 0 12),(ra 0 13),(ra 0 14)] [] (by kernel_rfl) [_,_,_,_,.string x.name,_,_,_,vi ((n - 1:Nat):Int),_,_,_,.bool (Op.bytesLess x.name.toList y.name.toList),_,_] H (aI (Z0 rfl (Rm rfl)) (Z1 0 173 rfl (Rc rfl)) (Z1 1 174 rfl (Rm rfl)) (Z1 2 175 rfl (YF AL (aF c1) rfl)) (aI (Z2 3 176 2 175 rfl (YO gW 0 (aF c1) rfl)) (Z1 2 175 rfl (YF F8 (aF c1) rfl)) (X2 5 178 2 175 rfl fun hG=>YR uj (aF c1) rfl (aH hG (aH Dt Zz))) (Z1 2 175 rfl (YM (aF c1) rfl)) (aI ?_ (Z3 6 179 8 181 2 175 rfl (YI vE xV (aF c1) rfl rfl)) (Z2 9 182 2 175 rfl (YF AL (aF c1) rfl)) (X2 10 183 2 175 rfl fun hG=>YR gW (aF c1) rfl (aH hG (aH Dt (UL 0 _ rfl)))) (bC ?_ (bC (Z2 2 175 12 185 rfl (Pt (aF c1) rfl)) (bC (Z1 13 186 rfl (Ra rfl)) dN)))))) ?_
    ·refine eU 7 180 2 175 rfl rfl fun _ a w G1 hG HT H fin=>?_;refine mD _ H (wg H rfl rfl (aF c1)) rfl rfl rfl (by omega) (by omega) rfl ?_;clear H;intro a H;exact fin H iJ (by show _=_;first|rfl|exact av vi (by omega))
    ·refine vK 4 177 11 184 2 175 rfl rfl fun _ a w G1 hG HT H fin=>?_;refine abG H (wg H rfl rfl (aF c1)) rfl rfl rfl ?_;clear H;intro a H;exact fin H iJ rfl
    clear H;intro a w G SH H hv;have H:=H.bg (hv 14 172 rfl rfl) rfl;clear hv;refine aJ ⟨rfl,?_⟩;refine FI _ _ ?_;clear FI;refine qF H rfl ?_ ?_
    ·intro KU
     refine aN (fun _ FJ=>?_)
     have e:jX s=6:=by
      have h1:wT s.vars n=6:=by rw [LQ,Fg,iV Ih,iV z7,dQ c0,uG,KU];rfl
      have h2:zN s.vars=6:=by rw [Lg,yG hn2 hne (by rw [h1];decide),h1]
      rw [JK e0 yR I5,h2]
     exact kP H (SC (aM FJ rfl (LR results40 rfl fun H=>H.rt (av vi e.symm))))
    intro KU
    try have aql:=dF KU
    refine fF ?_;refine ⟨_,by exact (H).sub ⟨rfl,rfl,rfl,aB⟩,?_⟩;exact ⟨Ih,z7,by first|(rw [dQ c0,uG,KU];rfl)|(rw [gY c0,sZ];rfl),fun b o h=>SH b o (Dt b o h)⟩
   skip;refine dI hmx [[],[0],[0,1],[0,1,2],(ra 0 4),[0,1,2],[0,1,2,5],[0,1,2],[0,1,2,7],[0,1,2,5,6,7,8],[0,1,2,5,6,7,8,9],([0,1,2]++ra 5 6),(ra 0 12),(ra 0 13),(ra 0 14)] [] (by kernel_rfl) [_,_,_,undef,undef,undef,undef,undef,undef,undef,undef,undef,undef,_,_] H (aI (Z0 rfl (Rm rfl)) (Z1 0 158 rfl (Rc rfl)) (Z1 1 159 rfl (Rm rfl)) (aW (j:=2) (by kernel_rfl) (fun _ _ _ _ _ h=>h) rfl rfl rfl rfl rfl (fun _ _ h=>aY h (aL (aP c0))) rfl (fun _=>rfl)) (aI (aW (j:=2) (by kernel_rfl) (fun _ _ _ _ _ h=>h) rfl rfl rfl rfl rfl (fun _ _ h=>aY h (aL (aP c0))) rfl (fun _=>rfl)) (aW (j:=2) (by kernel_rfl) (fun _ _ _ _ _ h=>h) rfl rfl rfl rfl rfl (fun _ _ h=>aY h (aL (aP c0))) rfl (fun _=>rfl)) (aW (j:=2) (by kernel_rfl) (fun _ _ _ _ _ h=>h) rfl rfl rfl rfl rfl (fun _ _ h=>aY h (aL (aP c0))) rfl (fun _=>rfl)) (aW (j:=2) (by kernel_rfl) (fun _ _ _ _ _ h=>h) rfl rfl rfl rfl rfl (fun _ _ h=>aY h (aL (aP c0))) rfl (fun _=>rfl)) (aI (aW (j:=2) (by kernel_rfl) (fun _ _ _ _ _ h=>h) rfl rfl rfl rfl rfl (fun _ _ h=>aY h (aL (aP c0))) rfl (fun _=>rfl)) (aW (j:=2) (by kernel_rfl) (fun _ _ _ _ _ h=>h) rfl rfl rfl rfl rfl (fun _ _ h=>aY h (aL (aP c0))) rfl (fun _=>rfl)) (aW (j:=2) (by kernel_rfl) (fun _ _ _ _ _ h=>h) rfl rfl rfl rfl rfl (fun _ _ h=>aY h (aL (aP c0))) rfl (fun _=>rfl)) (aW (j:=2) (by kernel_rfl) (fun _ _ _ _ _ h=>h) rfl rfl rfl rfl rfl (fun _ _ h=>aY h (aL (aP c0))) rfl (fun _=>rfl)) (bC (aW (j:=2) (by kernel_rfl) (fun _ _ _ _ _ h=>h) rfl rfl rfl rfl rfl (fun _ _ h=>aY h (aL (aP c0))) rfl (fun _=>rfl)) (bC (Z2 2 160 12 170 rfl (Pf (aP c0) rfl)) (bC (Z1 13 171 rfl (Ra rfl)) dN)))))) ?_
   clear H;intro a w G Dt H hv;have H:=H.bg (hv 14 157 rfl rfl) rfl;clear hv;refine aJ ⟨rfl,?_⟩;refine sS _ _ ?_;clear sS;refine oh H rfl rfl ?_;refine aN (fun _ Ec=>?_)
   have z7:bE (decide (0 < (n:Int)) && (x.name.toList == y.name.toList)) 7=0:=by first|(rw [dQ c0,uG,KT];rfl)|(rw [gY c0,sZ];rfl)
   have c1:¬ (0 < (n:Int)):=c0;refine dI hmx [[],[0],[0,1],[0,1,2],(ra 0 4),[0,1,2],[0,1,2,5],[0,1,2],[0,1,2,7],[0,1,2,5,6,7,8],[0,1,2,5,6,7,8,9],([0,1,2]++ra 5 6),(ra 0 12),(ra 0 13),(ra 0 14)] [] (by kernel_rfl) [_,_,_,undef,undef,undef,undef,undef,undef,undef,undef,undef,undef,_,_] H (aI (Z0 rfl (Rm rfl)) (Z1 0 173 rfl (Rc rfl)) (Z1 1 174 rfl (Rm rfl)) (aW (j:=2) (by kernel_rfl) (fun _ _ _ _ _ h=>h) rfl rfl rfl rfl rfl (fun _ _ h=>aY h (aL (aP c1))) rfl (fun _=>rfl)) (aI (aW (j:=2) (by kernel_rfl) (fun _ _ _ _ _ h=>h) rfl rfl rfl rfl rfl (fun _ _ h=>aY h (aL (aP c1))) rfl (fun _=>rfl)) (aW (j:=2) (by kernel_rfl) (fun _ _ _ _ _ h=>h) rfl rfl rfl rfl rfl (fun _ _ h=>aY h (aL (aP c1))) rfl (fun _=>rfl)) (aW (j:=2) (by kernel_rfl) (fun _ _ _ _ _ h=>h) rfl rfl rfl rfl rfl (fun _ _ h=>aY h (aL (aP c1))) rfl (fun _=>rfl)) (aW (j:=2) (by kernel_rfl) (fun _ _ _ _ _ h=>h) rfl rfl rfl rfl rfl (fun _ _ h=>aY h (aL (aP c1))) rfl (fun _=>rfl)) (aI (aW (j:=2) (by kernel_rfl) (fun _ _ _ _ _ h=>h) rfl rfl rfl rfl rfl (fun _ _ h=>aY h (aL (aP c1))) rfl (fun _=>rfl)) (aW (j:=2) (by kernel_rfl) (fun _ _ _ _ _ h=>h) rfl rfl rfl rfl rfl (fun _ _ h=>aY h (aL (aP c1))) rfl (fun _=>rfl)) (aW (j:=2) (by kernel_rfl) (fun _ _ _ _ _ h=>h) rfl rfl rfl rfl rfl (fun _ _ h=>aY h (aL (aP c1))) rfl (fun _=>rfl)) (aW (j:=2) (by kernel_rfl) (fun _ _ _ _ _ h=>h) rfl rfl rfl rfl rfl (fun _ _ h=>aY h (aL (aP c1))) rfl (fun _=>rfl)) (bC (aW (j:=2) (by kernel_rfl) (fun _ _ _ _ _ h=>h) rfl rfl rfl rfl rfl (fun _ _ h=>aY h (aL (aP c1))) rfl (fun _=>rfl)) (bC (Z2 2 175 12 185 rfl (Pf (aP c1) rfl)) (bC (Z1 13 186 rfl (Ra rfl)) dN)))))) ?_
   clear H;intro a w G SH H hv;have H:=H.bg (hv 14 172 rfl rfl) rfl;clear hv;refine aJ ⟨rfl,?_⟩;refine Ec _ _ ?_;clear Ec;refine oh H rfl rfl ?_;refine fF ?_;refine ⟨_,by exact (H).sub ⟨rfl,rfl,rfl,aB⟩,?_⟩;exact ⟨Ih,z7,by first|(rw [dQ c0,uG,KU];rfl)|(rw [gY c0,sZ];rfl),fun b o h=>SH b o (Dt b o h)⟩
  clear H;intro g5 a w hI H;obtain ⟨Ih,z7,z6,aiR⟩:=hI;dsimp only [lca,aO] at H;refine kP H (SR fun _ Ed=>aT RB gW 0 rfl rfl ?_);clear H;intro a H;refine s_call YV H wn rfl (acj _ _ H.ro x.value hte.2) rfl ?_;clear H;rintro aqP _ a w ⟨rfl,rfl⟩ - H;refine kH H (ak Ed rfl (SR fun _ Ee=>Rm rfl (Rc rfl (Kz Ee (Cd rfl ?_ ?_))))) <;> clear H Ed Ee
  ·intro Sr a H
   try have O8:=dT Sr
   refine aN (fun _ Il=>?_)
   have e:jX s=rX x.value:=by
    have h1:wT s.vars n=rX x.value:=by rw [LQ,Fg,iV Ih,iV z7,iV z6,vX O8]
    have h2:zN s.vars=rX x.value:=by rw [Lg,yG hn2 hne (by rw [h1];exact O8),h1]
    rw [JK e0 yR I5,h2]
   exact kP H (SC (Rm rfl (aM Il rfl (LR results40 rfl fun H=>H.rt (av vi e.symm)))))
  intro Sr a H
  try have O8:=dF Sr
  refine kP H (Kc FE (SC (Rm rfl (Rd rfl (Ra rfl ?_)))));clear H FE;intro a H;refine aJ ?_;refine dH ((n+1,g5)) (by exact (H.dB (Pl:=[_]) (cB:=[]) [] (by decide) rfl).sub ⟨rfl,rfl,aB⟩) ?_ ?_
  ·(try dsimp only);exact ⟨by omega,M6 hn2 hne (by rw [LQ,Fg,iV Ih,iV z7,iV z6,iV (gu.1 O8)];rfl),fun b o h=>aiR b o (uS b o h)⟩
  first|omega|(dsimp only;omega)
 intro wo a H
 try have Vo:=dF wo
 refine dR ?_;refine oZ _ _ ?_;clear oZ;refine aN (fun _ FK=>?_)
 have e:jX s=0:=by rw [JK e0 yR I5,Lg,M5 (by omega) hne]
 exact kP H (SC (aM FK rfl (LR results40 rfl fun H=>H.rt (av vi e.symm))))
end
section
open Go.RowKit
theorem IX:dJ prog 56 0 0:=⟨by kernel_rfl⟩
variable {us:List Int} {uo:aj}
abbrev iP (uo:aj) (D:jT) (b:Nat) (v:aj) (n:Int):Nat × Obj:=(b,.cells #[bU D.f,bU D.p,vi D.ins,vi D.move,bU D.d,bU D.y,bU D.r,bU D.s1,bU D.s2,bU D.s3,bU D.s4,v,uo,vi n] 56 (0,0))
structure Au (us:List Int) (uo:aj) (G:GH) (D:jT) (st:List bL) (li:List dM) (rv:List dU):Prop where
 sty:aC G (.sl 6 (st.map bL.dat)) (bU D.s1)
 uU:aC G (.sl 2 (li.map dM.dat)) (bU D.s2)
 rev:aC G (.sl 3 (rv.map dU.dat)) (bU D.r)
 Vg:aC G (.sl 1 (us.map fun k=>[.lf (.int .i64 k)])) uo
theorem Au.mono {G G':GH} {D:jT} {st:List bL} {li:List dM} {rv:List dU} (h:Au us uo G D st li rv) (hm:∀ b o,G b=some o→G' b=some o):Au us uo G' D st li rv:=⟨h.sty.mono hm,h.uU.mono hm,h.rev.mono hm,h.Vg.mono hm⟩
structure Eh (st:List bL) (li:List dM) (rv:List dU):Prop where
 fr:zF (st.map bL.id)
 sn:st.length≤4294967296
 ln:li.length≤4294967296
 rn:rv.length≤4294967296
theorem UQ {G:GH} {r:List Int} {A:Option Addr} {n c k:Nat} (hv:aC G (.sl 1 (r.map fun k=>[li k])) (.slice A n c)) (hk:k < r.length):∃ b o,A=some ⟨b,o,none⟩∧aG G b (o+k*1)=some (vi r[k]):=by
 obtain ⟨A',c',he,-,-,hg⟩:=hv.slice
 injection he with e1 e2 e3
 subst e1;obtain ⟨b,o,cs,h1,h2,h3,h4⟩:=hg k [li r[k]] (by simp [hk]);obtain ⟨v1,_,rfl,⟨rfl,-⟩,rfl⟩:∃ v vs,cs=v :: vs∧aC G (li r[k]) v∧bJ G [] vs:=h4;exact ⟨b,o,h1,by simpa using h3 0 _ rfl⟩
theorem U9 {α:Type} {l:List α} {x:α} {k:Nat} (hk:l.length≤k) (h:x∉l.take k):x∉l:=by rwa [lZ hk] at h
theorem Va {α:Type} {l:List α} {x:α} {k:Nat} (hk:k < l.length) (h:x∉l.take k) (hn:¬ l[k]=x):x∉l.take (k+1):=by
 rw [mV hk,vO,vQ];exact fun h'=>h'.elim h fun e=>hn e.symm
theorem Tp (G:GH) (w0:World) (hG:Hold G w0) (l:List Int) (v:aj) (hv:aC G (.sl 1 (l.map fun k=>[li k])) v) (x:Int) :
  Calls prog 71 #[v,vi x] w0 (bY w0 G fun u G'=>u=.bool (decide (x∈l))∧G=G'):=by
 obtain ⟨A,c,rfl,hc1,hc2,-⟩:=hv.slice;have hml:maxLen=9223372036854775807:=rfl;rw [bQ] at *;refine eN [(0,_),(1,_)] func71 rfl ntmps71 rfl rfl hG ?_;intro a H;refine kP H (SR fun _ K1=>ak K1 rfl (SQ fun _ K2=>SR fun _ K3=>ak K3 rfl (SB ?_)));clear H K1 K3;intro a H;skip;refine eT (ι:=Nat) (Tc:=[(0,_),(1,_)]) (Lc:=[]) (fun gh=>[(5,vi gh)]) (fun gh=>[]) (fun gh=>G) (fun gh=>gh≤l.length∧x∉l.take gh) (fun gh=>l.length - gh) (0) (by exact (H).sub ⟨rfl,rfl,rfl,aB⟩) ?_ ?_
 ·exact ⟨gX _,by simp⟩
 clear H;intro k a w hI H;obtain ⟨hk,he⟩:=hI;dsimp only [lca,aO] at H;refine kP H (SQ fun _ K4=>SR fun _ K5=>Rm rfl (Rm rfl (Rl lT rfl (Rc rfl (Kz K5 (Cd rfl ?_ ?_)))))) <;> clear H K5
 ·intro h9 a H
  try have p9:=dT h9
  have hk2:k < l.length:=by omega
  obtain ⟨b,o,rfl,hcell⟩:=UQ hv hk2;refine kP H (Kc K4 (SQ fun _ K6=>SB (SR fun _ K7=>Rm rfl (Rm rfl (Ri lT aD rfl rfl (Rg aD rfl hcell (Rm rfl (Rc rfl (Kz K7 (Cd rfl ?_ ?_)))))))))) <;> clear H K4 K7
  ·intro gK a H
   try have mo:=dT gK
   exact kP H (SR fun _ K8=>ak K8 rfl (LR results71 rfl fun H=>H.rt ⟨aL (dQ (mo ▸ jv hk2)).symm,rfl⟩))
  intro gK a H
  try have mo:=dF gK
  refine kP H (Kc K6 (SC (Rm rfl (Rd rfl (Ra rfl ?_)))));clear H K6;intro a H;refine aJ ?_;refine dH ((k+1)) (by exact (H).sub ⟨rfl,rfl,rfl,aB⟩) ?_ ?_
  ·exact ⟨by omega,Va hk2 he mo⟩
  first|omega|(dsimp only;omega)
 intro h9 a H
 try have p9:=dF h9
 refine dR ?_;refine K2 _ _ ?_;clear K2;exact kP H (SR fun _ K9=>ak K9 rfl (LR results71 rfl fun H=>H.rt ⟨aL (gY (U9 (by omega) he)).symm,rfl⟩))
theorem U4 (G:GH) (w0:World) (hG:Hold G w0) (D:jT) (st:List bL) (li:List dM) (rv:List dU) (b:Nat) (v:aj) (n:Int) (hk:Au us uo G D st li rv) (hz:Eh st li rv) (hb:G b=some (iP uo D b v n).2) (x:Int) :
  Calls prog 97 #[(aQ b 0),vi x] w0 (bY w0 G fun u G'=>u=.bool (decide (x∈rv.map dU.id))∧G=G'):=by
 have hc6:aG G b 6=some (bU D.r):=by unfold aG;rw [hb];rfl
 have nN:=hk.rev
 generalize bU D.r=v6 at hc6 nN
 obtain ⟨A,c,rfl,hc1,hc2,-⟩:=nN.slice;have hrn:=hz.rn;rw [bQ] at *;refine eN [(0,_),(1,_)] func97 rfl ntmps97 rfl rfl hG ?_;intro a H;refine kP H (SR fun _ K1=>ak K1 rfl (SQ fun _ K2=>SR fun _ K3=>ak K3 rfl (SB ?_)));clear H K1 K3;intro a H;skip;refine eT (ι:=Nat) (Tc:=[(0,_),(1,_)]) (Lc:=[]) (fun gh=>[(5,vi gh)]) (fun gh=>[]) (fun gh=>G) (fun gh=>gh≤rv.length∧x∉(rv.map dU.id).take gh) (fun gh=>rv.length - gh) (0) (by exact (H).sub ⟨rfl,rfl,rfl,aB⟩) ?_ ?_
 ·exact ⟨gX _,by simp⟩
 clear H;intro k a w hI H;obtain ⟨hk,he⟩:=hI;dsimp only [lca,aO] at H;refine kP H (SQ fun _ K4=>SR fun _ K5=>Rm rfl (Rm rfl (Rk rfl (Rf IX rfl (Rf Dg rfl (Rg xW rfl hc6 (Rl xY rfl (Rc rfl (Kz K5 (Cd rfl ?_ ?_)))))))))) <;> clear H K5
 ·intro gy a H
  try have pO:=dT gy
  have hk2:k < rv.length:=by omega
  obtain ⟨b',o,rfl,hrow⟩:=JE nN hk2;have hcell:=hrow 0 _ rfl;refine kP H (Kc K4 (SQ fun _ K6=>SB (SR fun _ K7=>Rm rfl (Rk rfl (Rf IX rfl (Rf Dg rfl (Rg xW rfl hc6 (Rm rfl (Ri xY zy rfl rfl (Rf KO rfl (Rg aD rfl (by assumption) ?_)))))))))));clear H K4;intro a H;refine kH H (Rm rfl (Rc rfl (Kz K7 (Cd rfl ?_ ?_)))) <;> clear H K7
  ·intro eO a H
   try have p26:=dT eO
   exact kP H (SR fun _ K8=>ak K8 rfl (LR results97 rfl fun H=>H.rt ⟨aL (dQ (List.mem_map.2 ⟨_,jv hk2,p26⟩)).symm,rfl⟩))
  intro eO a H
  try have p26:=dF eO
  refine kP H (Kc K6 (SC (Rm rfl (Rd rfl (Ra rfl ?_)))));clear H K6;intro a H;refine aJ ?_;refine dH ((k+1)) (by exact (H).sub ⟨rfl,rfl,rfl,aB⟩) ?_ ?_
  ·exact ⟨by omega,Va (l:=rv.map dU.id) (by simpa using hk2) he (by simpa using p26)⟩
  first|omega|(dsimp only;omega)
 intro gy a H
 try have pO:=dF gy
 refine dR ?_;refine K2 _ _ ?_;clear K2;exact kP H (SR fun _ K9=>ak K9 rfl (LR results97 rfl fun H=>H.rt ⟨aL (gY (U9 (by simp;omega) he)).symm,rfl⟩))
theorem ahy {l:List bL} (f:zF (l.map bL.id)) {i j:Nat} (hi:i < l.length) (hj:j < l.length) (h:l[i].id=l[j].id):i=j:=by
 rcases Nat.lt_trichotomy i j with c|c|c
 ·have:=f j (by simpa using hj);exact absurd (List.mem_take_iff_getElem.2 ⟨i,by simp;omega,by simpa using h⟩) this
 ·exact c
 have:=f i (by simpa using hi);exact absurd (List.mem_take_iff_getElem.2 ⟨j,by simp;omega,by simpa using h.symm⟩) this
theorem anT {l:List bL} (f:zF (l.map bL.id)) {x:Int} {k:Nat} (hk:k < l.length) (h:l[k].id=x):DT l x=l[k].kind:=by
 unfold DT
 cases e:l.find? fun s=>decide (s.id=x) with
 | none=>exact absurd (List.find?_eq_none.1 e _ (jv hk)) (by simpa using h)
 | some s =>
  obtain ⟨j,hj,rfl⟩:=List.getElem_of_mem (List.mem_of_find?_eq_some e);have h2:=List.find?_some e;have:=ahy f hj hk (by rw [h];simpa using h2);subst this
  rfl
theorem anU {l:List bL} {x K:Int} (hK:K≠0) (h:∀ j (hj:j < l.length),¬ (l[j].id=x∧l[j].kind=K)):DT l x≠K:=by
 unfold DT
 cases e:l.find? fun s=>decide (s.id=x) with
 | none=>exact fun h'=>hK h'.symm
 | some s =>
  obtain ⟨j,hj,rfl⟩:=List.getElem_of_mem (List.mem_of_find?_eq_some e);have h2:=List.find?_some e;exact fun h'=>h j hj ⟨by simpa using h2,h'⟩
theorem LZ (G:GH) (w0:World) (hG:Hold G w0) (D:jT) (st:List bL) (li:List dM) (rv:List dU) (b:Nat) (v:aj) (n:Int) (hk:Au us uo G D st li rv) (hz:Eh st li rv) (hb:G b=some (iP uo D b v n).2) (key x:Int) :
  Calls prog 96 #[(aQ b 0),vi key,vi x] w0 (bY w0 G fun u G'=>u=vi (kK st (li.map dM.id) key x)∧G=G'):=by
 have Oe:aG G b 7=some (bU D.s1):=by unfold aG;rw [hb];rfl
 have hc8:aG G b 8=some (bU D.s2):=by unfold aG;rw [hb];rfl
 have hst:=hk.sty;have wE:=hk.uU
 generalize bU D.s1=v7 at Oe hst
 generalize bU D.s2=v8 at hc8 wE
 obtain ⟨A,c,rfl,hc1,hc2,-⟩:=hst.slice;obtain ⟨B,d,rfl,hd1,hd2,-⟩:=wE.slice;have hsn:=hz.sn;have hln:=hz.ln;rw [bQ] at *;refine eN [(0,_),(1,_),(2,_)] func96 rfl ntmps96 rfl rfl hG ?_;intro a H;refine kP H (SR fun _ K1=>ak K1 rfl (SQ fun _ K2=>SR fun _ K3=>Rm rfl (Rc rfl (Kz K3 (Cd rfl ?_ ?_))))) <;> clear H K1 K3
 ·intro h12 a H
  try have pK:=dT h12
  exact kP H (SR fun _ K4=>ak K4 rfl (LR results96 rfl fun H=>H.rt ⟨av vi (by rw [pK];unfold kK;simp [bE]),rfl⟩))
 intro h12 a H
 try have pK:=dF h12
 refine kP H (Kc K2 (SQ fun _ K5=>SR fun _ K6=>Rm rfl (Kz K6 (SB ?_))));clear H K2 K6;intro a H;refine oF (ι:=Bool) (Tc:=[(0,_),(1,_),(2,_),(13,_)]) (Lc:=[]) (fun gh=>[(14,.bool gh)]) (fun gh=>[]) (fun gh=>G) (fun gh=>gh=decide (key=20∨key=1)) (by exact (H).sub ⟨rfl,rfl,rfl,rfl,aB⟩) ?_ ?_
 ·skip;refine kP H (SR fun _ K7=>Rc rfl (ak K7 rfl (Cd rfl ?_ ?_))) <;> clear H K7
  ·intro gq a H
   try have sN:=dT gq
   refine fF ?_;refine ⟨decide (key=20),by exact (H).sub ⟨rfl,rfl,rfl,rfl,rfl,aB⟩,?_⟩
   simp_all
  intro gq a H
  try have sN:=dF gq
  refine kP H (SC (Rc rfl (Ra rfl ?_)));clear H;intro a H;refine aJ ?_;refine ⟨decide (key=1),by exact (H).sub ⟨rfl,rfl,rfl,rfl,rfl,aB⟩,?_⟩
  simp_all
 clear H;intro q a w hI H;subst hI;dsimp only [lca,aO] at H;refine qF H rfl ?_ ?_
 ·intro gq
  try have sN:=dT gq
  refine kP H (SR fun _ K8=>ak K8 rfl ?_);clear H K8;intro a H;refine oF (ι:=Int) (Tc:=[(0,_),(2,_)]) (Lc:=[]) (fun gh=>[(7,vi gh)]) (fun gh=>[]) (fun gh=>G) (fun gh=>(key=20∨key=1)∧gh=(if key=1 then 2 else 1)) (by exact (H).sub ⟨rfl,rfl,aB⟩) ?_ ?_
  ·skip;refine kP H (SR fun _ K9=>Rm rfl (Rc rfl (Kz K9 (Cd rfl ?_ ?_)))) <;> clear H K9
   ·intro h18 a H
    try have xQ:=dT h18
    refine kP H (SC (Ra rfl ?_));clear H;intro a H;refine aJ ?_;refine ⟨2,by exact (H).sub ⟨rfl,rfl,rfl,aB⟩,?_⟩;exact ⟨sN,by first|exact (au (by omega)).symm|exact (ah (by omega)).symm⟩
   intro h18 a H
   try have xQ:=dF h18
   refine fF ?_;refine ⟨1,by exact (H).sub ⟨rfl,rfl,rfl,aB⟩,?_⟩;exact ⟨sN,by first|exact (au (by omega)).symm|exact (ah (by omega)).symm⟩
  clear H;intro kd a w hI H;obtain ⟨hkk,hkd⟩:=hI
  have hE:kK st (li.map dM.id) key x=bE (decide (x≠0∧DT st x≠kd)) 25:=by rw [kK,au hkk,hkd]
  dsimp only [lca,aO] at H;refine kP H (SQ fun _ aV=>SR fun _ bF=>ak bF rfl (SB ?_));clear H bF;intro a H;skip;refine eT (ι:=Nat) (Tc:=[(0,_),(2,_),(7,_)]) (Lc:=[]) (fun gh=>[(8,vi gh)]) (fun gh=>[]) (fun gh=>G) (fun gh=>gh≤st.length∧∀ j (hj:j < st.length),j < gh→¬ (st[j].id=x∧st[j].kind=kd)) (fun gh=>st.length - gh) (0) (by exact (H).sub ⟨rfl,rfl,rfl,rfl,aB⟩) ?_ ?_
  ·exact ⟨gX _,fun j _ h=>absurd h (by omega)⟩
  clear H;intro k a w hI H;obtain ⟨hk,he⟩:=hI;dsimp only [lca,aO] at H;refine kP H (SQ fun _ bG=>SR fun _ bM=>Rm rfl (Rm rfl (Rk rfl (Rf IX rfl (Rf Dh rfl (Rf Ew rfl (Rg qy rfl Oe (Rl nD rfl (Rc rfl (Kz bM (Cd rfl ?_ ?_))))))))))) <;> clear H bM
  ·intro h27 a H
   try have p27:=dT h27
   have hk2:k < st.length:=by omega
   obtain ⟨b',o,pA,pc,rfl,hrow,-,-⟩:=Bw hst hk2;refine kP H (Kc bG (SQ fun _ bN=>SB (SR fun _ bW=>Rm rfl (Rk rfl (Rf IX rfl (Rf Dh rfl (Rf Ew rfl (Rg qy rfl Oe (Rm rfl (Ri nD kL rfl rfl ?_))))))))));clear H bG;intro a H;refine bP kL (cs:=[_,_,_,_,_,_]) H wn rfl rfl (fun j v hj=>H.hp.aG (hrow j v hj)) rfl ?_;clear H;intro a H;refine eH kL H wn rfl ?_;clear H;intro b9 a w wD H;refine bT kL 0 (vs:=[_,_,_,_,_,_]) _ H wn rfl rfl rfl rfl rfl rfl rfl rfl ?_;clear H;intro w H;dsimp only [List.set,setRow] at H;refine bW _ _ ?_;clear bW;refine kP H (SR fun _ cK=>aT vV aD 0 rfl rfl (Rm rfl (Rc rfl (Rm rfl (Sp 43 rfl ?_ ?_))))) <;> clear H
   ·intro h43 a H
    try have p43:=dT h43
    refine kH H (YF yL h43 rfl (YO aD 0 h43 rfl (YM h43 rfl (YC h43 rfl (Pt h43 rfl (Kz cK (Cd rfl ?_ ?_))))))) <;> clear H cK
    ·intro h48 a H
     try have p48:=dT h48
     exact kP H (SR fun _ bS=>ak bS rfl (LR results96 rfl fun H=>H.rt ⟨av vi (by rw [hE,anT hz.fr hk2 p43];simp [bE,p48]),rfl⟩))
    intro h48 a H
    try have p48:=dF h48
    refine kP H (Kc bN (SC (Rm rfl (Rd rfl (Ra rfl ?_)))));clear H bN;intro a H;refine aJ ?_;refine dH ((k+1)) (by exact (H.dB (Pl:=[_]) (cB:=[]) [] (by decide) rfl).sub ⟨rfl,rfl,rfl,rfl,aB⟩) ?_ ?_
    ·exact ⟨by omega,fun j hj h=>by
     by_cases e:j=k
     ·subst e;first|exact fun h'=>p48 h'.2|exact fun h'=>p43 h'.1
     exact he j hj (by omega)⟩
    first|omega|(dsimp only;omega)
   intro h43 a H
   try have p43:=dF h43
   refine kH H (aS h43 rfl (aS h43 rfl (Pf h43 rfl (Kz cK (Cf rfl rfl (Kc bN (SC (Rm rfl (Rd rfl (Ra rfl ?_))))))))));clear H cK bN;intro a H;refine aJ ?_;refine dH ((k+1)) (by exact (H.dB (Pl:=[_]) (cB:=[]) [] (by decide) rfl).sub ⟨rfl,rfl,rfl,rfl,aB⟩) ?_ ?_
   ·exact ⟨by omega,fun j hj h=>by
    by_cases e:j=k
    ·subst e;first|exact fun h'=>p48 h'.2|exact fun h'=>p43 h'.1
    exact he j hj (by omega)⟩
   first|omega|(dsimp only;omega)
  intro h27 a H
  try have p27:=dF h27
  refine dR ?_;refine aV _ _ ?_;clear aV;refine kP H (SR fun _ dD=>ak dD rfl ?_);clear H dD;intro a H;refine lr H results96 rfl ?_
  exact H.rt ⟨av vi (by rw [hE,bE,au (dQ ⟨pK,anU (by rw [hkd];split <;> decide) fun j hj=>he j hj (by omega)⟩)]),rfl⟩
 intro gq
 try have sN:=dF gq
 refine kP H (SR fun _ dO=>Rc rfl (ak dO rfl (Cd rfl ?_ ?_))) <;> clear H dO
 ·intro pG a H
  try have p49:=dT pG
  refine kP H (SQ fun _ dK=>SR fun _ dS=>ak dS rfl (SB ?_));clear H dS;intro a H;skip;refine eT (ι:=Nat) (Tc:=[(0,_),(2,_)]) (Lc:=[]) (fun gh=>[(10,vi gh)]) (fun gh=>[]) (fun gh=>G) (fun gh=>gh≤li.length∧x∉(li.map dM.id).take gh) (fun gh=>li.length - gh) (0) (by exact (H).sub ⟨rfl,rfl,rfl,aB⟩) ?_ ?_
  ·exact ⟨gX _,by simp⟩
  clear H;intro k a w hI H;obtain ⟨hk,he⟩:=hI;dsimp only [lca,aO] at H;refine kP H (SQ fun _ eP=>SR fun _ gG=>Rm rfl (Rm rfl (Rk rfl (Rf IX rfl (Rf Dh rfl (Rf AO rfl (Rg wP rfl hc8 (Rl wS rfl (Rc rfl (Kz gG (Cd rfl ?_ ?_))))))))))) <;> clear H gG
  ·intro jc a H
   try have p59:=dT jc
   have hk2:k < li.length:=by omega
   obtain ⟨b',o,B',d',rfl,hrow,-⟩:=Ht wE hk2;have hcell:=hrow 0 _ rfl;refine kP H (Kc eP (SQ fun _ gT=>SB (SR fun _ gM=>Rm rfl (Rk rfl (Rf IX rfl (Rf Dh rfl (Rf AO rfl (Rg wP rfl hc8 (Rm rfl (Ri wS zw rfl rfl (Rf KG rfl (Rg aD rfl (by assumption) ?_))))))))))));clear H eP;intro a H;refine kH H (Rm rfl (Rc rfl (Kz gM (Cd rfl ?_ ?_)))) <;> clear H gM
   ·intro iR a H
    try have p73:=dT iR
    exact kP H (SR fun _ jf=>ak jf rfl (LR results96 rfl fun H=>H.rt ⟨av vi (by rw [kK,ah (by omega),au p49,bE,ah (by simpa using fun _=>⟨_,jv hk2,p73⟩)]),rfl⟩))
   intro iR a H
   try have p73:=dF iR
   refine kP H (Kc gT (SC (Rm rfl (Rd rfl (Ra rfl ?_)))));clear H gT;intro a H;refine aJ ?_;refine dH ((k+1)) (by exact (H).sub ⟨rfl,rfl,rfl,aB⟩) ?_ ?_
   ·exact ⟨by omega,Va (l:=li.map dM.id) (by simpa using hk2) he (by simpa using p73)⟩
   first|omega|(dsimp only;omega)
  intro jc a H
  try have p59:=dF jc
  refine dR ?_;refine dK _ _ ?_;clear dK;exact kP H (SR fun _ jq=>ak jq rfl (LR results96 rfl fun H=>H.rt ⟨av vi (by rw [kK,ah (by omega),au p49,bE,au (dQ ⟨pK,U9 (by simp;omega) he⟩)]),rfl⟩))
 intro pG a H
 try have p49:=dF pG
 exact kP H (Kc K5 (SR fun _ iQ=>ak iQ rfl (LR results96 rfl fun H=>H.rt ⟨av vi (by rw [kK,ah (by omega),ah p49]),rfl⟩)))
end
section
open Go.RowKit
def um (x:Nat→aj × OL) (m:Nat) (y:aj × OL):Nat→aj × OL:=fun j=>if j=m then y else x j
theorem acC (x:Nat→aj × OL) (m:Nat) (y:aj × OL):um x m y m=y:=au rfl
theorem aot {x:Nat→aj × OL} {m j:Nat} {y:aj × OL} (h:j≠m):um x m y j=x j:=ah h
def nV (ms:List Nat) (S:Nat→Bool) (x:Nat→aj × OL):OL:=ms.flatMap fun m=>bif S m then (x m).2 else []
section
variable {N:Nat} {D:List Deferred} {w0:World} {F:Nat→Prop} {G0 G G1 G2:GH} {L L1 L2:OL} {T Xs:List (Nat × aj)}
variable {r:Option Nat} {P:Program} {Q:Exit→Act→World→Prop} {l:List Oper} {a a':Act} {w w':World}
end
end
section
open Go.RowKit
def JB (ch:List (Nat × Nat)) (m:Nat):Option Nat:=(ch.find? fun q=>Nat.beq q.2 m).map (·.1)
def EZ (ch:List (Nat × Nat)) (x:Nat→aj × OL) (m:Nat):OL:=match JB ch m with|some p=>(x p).2|none=>[]
def live (ch:List (Nat × Nat)) (S:Nat→Bool) (m:Nat):Bool:=S m && ch.all fun q=>!Nat.beq q.1 m || !S q.2
def IC (ms:List Nat) (ch:List (Nat × Nat)) (cZ:List (List Nat)):Bool :=
 (ch.all fun q=>ms.contains q.1 && ms.contains q.2 && (cZ.getD q.2 []).contains q.1 && !Nat.beq q.1 q.2) && decide ((ch.map (·.1)).Nodup) && decide ((ch.map (·.2)).Nodup)
theorem IY {P:Nat→Bool} {x:Nat→aj × OL} {m:Nat} {ms:List Nat} (h:m∈ms):(nV ms P x).Perm ((bif P m then (x m).2 else [])++nV (ms.erase m) P x):=by
 have h1:(nV ms P x).Perm (nV (m :: ms.erase m) P x):=(List.perm_cons_erase h).flatMap_right _
 refine h1.trans ?_
 unfold nV
 rw [List.flatMap_cons]
theorem NS {P Q:Nat→Bool} {x y:Nat→aj × OL} {ms:List Nat} (h:∀ m∈ms,P m=Q m∧x m=y m):nV ms P x=nV ms Q y:=by
 induction ms with
 | nil=>rfl
 | cons k ms ih =>
  have ih:=ih fun m hm=>h m (vR _ hm)
  obtain ⟨h1,h2⟩:=h k jB
  unfold nV at ih ⊢
  rw [List.flatMap_cons,List.flatMap_cons,ih,h1,h2]
theorem Cn {ch:List (Nat × Nat)} {S:Nat→Bool} {m:Nat}:live ch S m=true↔S m=true∧∀ q∈ch,q.1=m→S q.2=false:=by
 unfold live
 rw [jr,lU]
 refine and_congr_right fun _=>forall_congr' fun q=>forall_congr' fun _=>?_
 by_cases e:q.1=m
 ·subst e
  simp
 ·simp [BN e,e]
theorem alv {ch:List (Nat × Nat)}:(ch.map (·.1)).Nodup→∀ {p q:Nat × Nat},p∈ch→q∈ch→p.1=q.1→p=q:=by
 induction ch with
 | nil=>intro _ p q h;cases h
 | cons c ch ih =>
  intro hn p q hp hq e
  rw [dV,List.nodup_cons] at hn
  rcases ow.1 hp with h1|h1 <;> rcases ow.1 hq with h2|h2
  ·rw [h1,h2]
  ·rw [h1] at e
   exact absurd (e ▸ List.mem_map_of_mem h2) hn.1
  ·rw [h2] at e
   exact absurd (e ▸ List.mem_map_of_mem h1) hn.1
  ·exact ih hn.2 h1 h2 e
theorem alx {ch:List (Nat × Nat)}:(ch.map (·.2)).Nodup→∀ {p q:Nat × Nat},p∈ch→q∈ch→p.2=q.2→p=q:=by
 induction ch with
 | nil=>intro _ p q h;cases h
 | cons c ch ih =>
  intro hn p q hp hq e
  rw [dV,List.nodup_cons] at hn
  rcases ow.1 hp with h1|h1 <;> rcases ow.1 hq with h2|h2
  ·rw [h1,h2]
  ·rw [h1] at e
   exact absurd (e ▸ List.mem_map_of_mem h2) hn.1
  ·rw [h2] at e
   exact absurd (e ▸ List.mem_map_of_mem h1) hn.1
  ·exact ih hn.2 h1 h2 e
theorem amh {ch:List (Nat × Nat)} {m p:Nat} (h:JB ch m=some p):(p,m)∈ch:=by
 unfold JB at h
 obtain ⟨q,h1,rfl⟩:=oC.1 h
 have h2:q.2=m:=by simpa using List.find?_some h1
 exact h2 ▸ List.mem_of_find?_eq_some h1
theorem ami {ch:List (Nat × Nat)} {m:Nat} (h:JB ch m=none):∀ q∈ch,¬ q.2=m:=by
 intro q hq e
 unfold JB at h
 rw [Option.map_eq_none_iff,List.find?_eq_none] at h
 exact h q hq (by rw [e];exact Nat.beq_refl m)
theorem akQ {ms:List Nat} {ch:List (Nat × Nat)} {cZ:List (List Nat)} {S:Nat→Bool} {x:Nat→aj × OL} {m:Nat} (hnd:ms.Nodup) (hc:IC ms ch cZ=true) (hm:m∈ms) (hS:S m=false) (hd:∀ j∈cZ.getD m [],S j=true) (hu:∀ q∈ch,q.1=m→S q.2=false) :
  ∃ R:OL,(nV ms (live ch S) x).Perm (EZ ch x m++R)∧∀ y:aj × OL,(nV ms (live ch (fE S m)) (um x m y)).Perm (y.2++R):=by
 unfold IC at hc
 rw [jr,jr,lU,decide_eq_true_iff,decide_eq_true_iff] at hc
 obtain ⟨⟨h1,h2⟩,h3⟩:=hc
 have hq:∀ q∈ch,q.1∈ms∧q.2∈ms∧q.1∈cZ.getD q.2 []∧¬ q.1=q.2:=fun q hq=>by
  have:=h1 q hq
  rw [jr,jr,jr,qb,qb,qb] at this
  obtain ⟨⟨⟨a,b⟩,c⟩,d⟩:=this
  exact ⟨a,b,c,fun e=>by rw [e,Nat.beq_refl] at d;cases d⟩
 have hlm:live ch S m=false:=by
  cases h:live ch S m with
  | false=>rfl
  | true=>rw [Cn] at h;rw [h.1] at hS;cases hS
 have ZO:live ch (fE S m) m=true:=Cn.2 ⟨au rfl,fun q hq1 e=>by
  have:=hu q hq1 e
  rwa [show fE S m q.2=S q.2 from ah fun e2=>(hq q hq1).2.2.2 (e.trans e2.symm)]⟩
 have hother:∀ j,j≠m→(∀ q∈ch,q.1=j→q.2≠m)→live ch S j=live ch (fE S m) j:=fun j hj hn=>by
  rw [qW,Cn,Cn,show fE S m j=S j from ah hj]
  refine and_congr_right fun _=>forall_congr' fun q=>forall_congr' fun hq1=>forall_congr' fun e=>?_
  rw [show fE S m q.2=S q.2 from ah (hn q hq1 e)]
 have hx:∀ y j,j≠m→x j=um x m y j:=fun y j hj=>(aot hj).symm
 have hne:∀ j∈ms.erase m,j≠m:=fun j hj e=>by rw [e] at hj;exact (List.Nodup.not_mem_erase hnd) hj
 cases hp:JB ch m with
 | none =>
  refine ⟨nV (ms.erase m) (live ch S) x,?_,fun y=>?_⟩
  ·have:=IY (P:=live ch S) (x:=x) hm
   rw [hlm] at this
   simpa [EZ,hp] using this
  ·have:=IY (P:=live ch (fE S m)) (x:=um x m y) hm
   rw [ZO,acC] at this
   rw [NS (P:=live ch S) (Q:=live ch (fE S m)) (y:=um x m y) fun j hj=>⟨hother j (hne j hj) fun q hq1 _=>ami hp q hq1,hx y j (hne j hj)⟩]
   exact this
 | some p =>
  have hpm:=amh hp
  obtain ⟨g1,g2,g3,g4⟩:=hq _ hpm
  have hpe:p∈ms.erase m:=(List.mem_erase_of_ne g4).2 g1
  have hlp:live ch S p=true:=Cn.2 ⟨hd p g3,fun q hq1 e=>by
   have:=alv h2 hq1 hpm e
   rw [this];exact hS⟩
  have aiW:live ch (fE S m) p=false:=by
   cases h:live ch (fE S m) p with
   | false=>rfl
   | true =>
    have:=(Cn.1 h).2 _ hpm rfl
    rw [show fE S m m=true from au rfl] at this
    cases this
  refine ⟨nV ((ms.erase m).erase p) (live ch S) x,?_,fun y=>?_⟩
  ·have e1:=IY (P:=live ch S) (x:=x) hm
   have e2:=IY (P:=live ch S) (x:=x) hpe
   rw [hlm] at e1
   rw [hlp] at e2
   simp only [cond_false,kD,cond_true] at e1 e2
   simpa [EZ,hp] using e1.trans e2
  ·have e1:=IY (P:=live ch (fE S m)) (x:=um x m y) hm
   have e2:=IY (P:=live ch (fE S m)) (x:=um x m y) hpe
   rw [ZO,acC] at e1
   rw [aiW] at e2
   simp only [cond_false,kD,cond_true] at e1 e2
   rw [NS (P:=live ch S) (Q:=live ch (fE S m)) (y:=um x m y) fun j hj=>by
    have hj1:=List.mem_of_mem_erase hj
    have hjm:=hne j hj1
    have hjp:j≠p:=fun e=>by rw [e] at hj;exact (List.Nodup.not_mem_erase (hnd.erase m)) hj
    exact ⟨hother j hjm fun q hq1 e e2=>hjp (by rw [← e,alx h3 hq1 hpm e2]),hx y j hjm⟩]
   exact e1.trans (List.Perm.append_left _ e2)
section
variable {N:Nat} {D:List Deferred} {w0:World} {F:Nat→Prop} {G0 G G1 G2:GH} {L L1 L2:OL} {T Xs:List (Nat × aj)}
variable {r:Option Nat} {P:Program} {Q:Exit→Act→World→Prop} {l:List Oper} {a a':Act} {w w':World}
theorem aef {id:Nat} (ms:List Nat) (ch:List (Nat × Nat)) (hm:P.follows .mixedOrders=true) (cZ:List (List Nat)) (B:List Nat) (hk:Et l cZ=true) (hB:CG l cZ B=true) (hnd:ms.Nodup) (hms:(ms.all fun m=>Nat.blt m l.length && !B.contains m)=true) (hc:IC ms ch cZ=true) (pr:(Nat→aj × OL)→Nat→aj→GH→Prop)
  (hp:∀ m,ms.contains m=true→∀ x y i v G,Nat.beq i m=false→(cZ.getD i []).contains m=false→pr x i v G→pr (um x m y) i v G)
  (H:St N D w0 F G0 G L T a w)
  (hstep:allI (fun i o=>∀ x L' S a w G1,(∀ q,q∈L→q∈L')→B.contains i=false→ms.contains i=false→S i=false→(∀ j∈cZ.getD i [],S j=true)→(∀ k o,G k=some o→G1 k=some o)→St N D w0 F G0 G1 L' T a w→(∀ i d,S i=true→fZ l i=some d→∃ v,a.tmps[d]?=some v∧pr x i v G1) →
   WL r P l.toArray (fun e a' w'=>e=.normal∧DX N D w0 F G0 G L' T l (pr x) (fE S i) a' w') [o] a w) 0 l)
  (hmid:allI (fun m o=>ms.contains m=true→∀ x L' S a w G1,(∀ q,q∈L→q∈L')→S m=false→(∀ j∈cZ.getD m [],S j=true)→(∀ k o,G k=some o→G1 k=some o)→St N D w0 F G0 G1 (EZ ch x m++L') T a w→(∀ y i d,i≠m→S i=true→fZ l i=some d→∃ v,a.tmps[d]?=some v∧pr x i v G1∧pr (um x m y) i v G1) →
   WL r P l.toArray (fun e a' w'=>e=.normal∧∃ y,DX N D w0 F G0 G (y.2++L') T l (pr (um x m y)) (fE S m) a' w') [o] a w) 0 l)
  (hend:∀ x a w G1,(∀ k o,G k=some o→G1 k=some o)→St N D w0 F G0 G1 (nV ms (live ch fun _=>true) x++L) T a w→(∀ i d,B.contains i=false→fZ l i=some d→∃ v,a.tmps[d]?=some v∧pr x i v G1)→WL r P l.toArray (fun e a w=>e=.normal∧Q .normal a w) (sM l B) a w):WP r P (.region id l.toArray true) Q a w:=by
 have hu:∀ {m i:Nat} {S:Nat→Bool},(∀ j,j < l.length→i∈cZ.getD j []→S j=false)→∀ q∈ch,q.1=i→S q.2=false:=by
  intro m i S hdesc q hq e
  have h1:=hc
  unfold IC at h1
  rw [jr,jr,lU] at h1
  have h2:=h1.1.1 q hq
  rw [jr,jr,jr,qb,qb,qb] at h2
  have h3:=lU.1 hms q.2 h2.1.1.2
  rw [jr] at h3
  exact hdesc q.2 (Eq.mp Nat.blt_eq h3.1) (e ▸ h2.1.2)
 refine XY hm cZ B hk hB (fun S a w=>∃ x,DX N D w0 F G0 G (nV ms (live ch S) x++L) T l (pr x) S a w)
  ⟨fun _=>(.bool false,[]),DX.perm (L1:=L) ⟨G,fun _ _ h=>h,H.move H.hp.drew,fun _ _ h=>absurd (show false=true from h) (by decide)⟩ (by
   have:∀ ms:List Nat,nV ms (live ch fun _=>false) (fun _=>(.bool false,[]))=[]:=fun ms=>by
    induction ms with
    | nil=>rfl
    | cons k ms ih=>unfold nV at ih ⊢;rw [List.flatMap_cons,ih];rfl
   rw [this];exact List.Perm.refl _)⟩ ?_ ?_
 ·rintro i o S a w ho hb dP qo hdesc ⟨x,G1,hG,HS,hv⟩
  have hsub:∀ q,q∈L→q∈nV ms (live ch S) x++L:=fun q hq=>List.mem_append_right _ hq
  have hno:∀ j,j < l.length→S j=true→(cZ.getD j []).contains i=false:=fun j hjl hj=>by
   cases hc:(cZ.getD j []).contains i with
   | false=>rfl
   | true =>
    have:=hdesc j hjl (by simpa using hc)
    rw [this] at hj;cases hj
  cases hi:ms.contains i with
  | true =>
   obtain ⟨R,hR1,hR2⟩:=akQ (x:=x) hnd hc (by simpa using hi) dP qo (hu (m:=i) hdesc)
   have h:=Km hmid i o ho
   rw [nT] at h
   have HS2:=HS.perm ((List.Perm.append_right L hR1).trans (List.Perm.of_eq (jQ ..)))
   have h:=h hi x (R++L) S a w G1 (fun q hq=>List.mem_append_right _ hq) dP qo hG HS2 fun y j d hj hSj hd=>by
    obtain ⟨v,hv1,hv2⟩:=hv j d hSj hd
    exact ⟨v,hv1,hv2,hp i hi x y j v _ (BN hj) (hno j (BR hd) hSj) hv2⟩
   refine wU (fun e a' w' ⟨he,y,hD⟩=>⟨he,um x i y,hD.perm ?_⟩) h
   rw [← jQ]
   exact List.Perm.append_right L (hR2 y).symm
  | false =>
   have h:=Km hstep i o ho
   rw [nT] at h
   have hni:i∉ms:=by simpa using hi
   have e:nV ms (live ch (fE S i)) x=nV ms (live ch S) x:=NS fun j hj=>⟨by
    have hji:j≠i:=fun e=>hni (e ▸ hj)
    rw [qW,Cn,Cn,show fE S i j=S j from ah hji]
    refine and_congr_right fun _=>forall_congr' fun q=>forall_congr' fun hq1=>forall_congr' fun e=>?_
    have h1:=hc
    unfold IC at h1
    rw [jr,jr,lU] at h1
    have h2:=h1.1.1 q hq1
    rw [jr,jr,jr,qb,qb] at h2
    rw [show fE S i q.2=S q.2 from ah (show ¬ q.2=i from fun e=>hni (e ▸ h2.1.1.2))],rfl⟩
   refine wU (fun e' a' w' ⟨he,hD⟩=>⟨he,x,?_⟩) (h x _ S a w G1 hsub hb hi dP qo hG HS hv)
   rw [e]
   exact hD
 ·rintro S a w hall hnB ⟨x,G1,hG,HS,hv⟩
  have hS:∀ m∈ms,S m=true:=fun m hmm=>by
   have h:=lU.1 hms m hmm
   rw [jr] at h
   exact hall m (Eq.mp Nat.blt_eq h.1) (by simpa using h.2)
  have e:nV ms (live ch S) x=nV ms (live ch fun _=>true) x:=NS fun j hj=>⟨by
   rw [qW,Cn,Cn]
   refine and_congr (by simp [hS j hj]) (forall_congr' fun q=>forall_congr' fun hq1=>forall_congr' fun e=>?_)
   have h1:=hc
   unfold IC at h1
   rw [jr,jr,lU] at h1
   have h2:=h1.1.1 q hq1
   rw [jr,jr,jr,qb,qb] at h2
   rw [hS q.2 h2.1.1.2],rfl⟩
  rw [e] at HS
  exact hend x a w G1 hG HS fun j d hb hd=>hv j d (hall j (BR hd) hb) hd
end
end
section
open Go.RowKit
theorem YK:∀ args w,(callFunc 49 args).run prog w=.ok (.enter 49 args) w:=enters func49 rfl (by kernel_rfl)
theorem QX:∀ args w,(callFunc 13 args).run prog w=.ok (.enter 13 args) w:=enters func13 rfl (by kernel_rfl)
theorem agG:∀ args w,(callFunc 50 args).run prog w=.ok (.enter 50 args) w:=enters func50 rfl (by kernel_rfl)
theorem akA (G:GH) (n:Int):bJ G [li n] [vi n]:=by simp [bJ,aC,Value.oneCell']
theorem aku {S:List Int} {n:Int} {k:Nat} (hs:S.Pairwise (·≤·)) (hk:k≤S.length) (h1:∀ i (h:i < S.length),k≤i→n≤S[i]) (h2:∀ i (h:i < S.length),i < k→S[i]≤n):(S.take k++[n]++S.drop k).Pairwise (·≤·):=by
 refine List.pairwise_append.2 ⟨List.pairwise_append.2 ⟨hs.sublist (List.take_sublist _ _),List.pairwise_singleton _ _,fun x hx y hy=>?_⟩,hs.sublist (List.drop_sublist _ _),fun x hx y hy=>?_⟩
 ·obtain ⟨i,hi,rfl⟩:=List.getElem_of_mem hx;rw [vQ.1 hy,List.getElem_take];rw [List.length_take] at hi;exact h2 i (by omega) (by omega)
 obtain ⟨j,hj,rfl⟩:=List.getElem_of_mem hy;rw [List.length_drop] at hj;rw [List.getElem_drop];have hn:=h1 (k+j) (by omega) (by omega)
 rcases vO.1 hx with hx|hx
 ·obtain ⟨i,hi,rfl⟩:=List.getElem_of_mem hx;rw [List.length_take] at hi;rw [List.getElem_take];exact Int.le_trans (h2 i (by omega) (by omega)) hn
 rw [vQ.1 hx];exact hn
theorem anF {S:List Int} {n:Int} {k:Nat} (hs:S.Pairwise (·≤·)) (hk:k≤S.length) (h:∀ i (h:i < S.length),i+1=k→S[i]≤n):∀ i (h:i < S.length),i < k→S[i]≤n:=by
 intro i hi hik
 by_cases e:i+1=k
 ·exact h i hi e
 exact Int.le_trans (List.pairwise_iff_getElem.1 hs i (k - 1) hi (by omega) (by omega)) (h (k - 1) (by omega) (by omega))
theorem aaN {S:List Int} {n:Int} {k:Nat} (hk:k - 1 < S.length) (h:n < S[k - 1]):∀ i (h:i < S.length),i+1=k→n≤S[i]:=fun i _ e=>by
 obtain rfl:i=k - 1:=by omega
 omega
theorem Zh {S:List Int} {n:Int} {k:Nat} (hk:k - 1 < S.length) (h:¬ n < S[k - 1]):∀ i (h:i < S.length),i+1=k→S[i]≤n:=fun i _ e=>by
 obtain rfl:i=k - 1:=by omega
 omega
theorem akt {S:List Int} {n:Int} {k:Nat}:(S.take k++[n]++S.drop k).Perm (n :: S):=by
 have h:(S.take k++([n]++S.drop k)).Perm ([n]++(S.take k++S.drop k)):=by
  rw [← jQ,← jQ];exact List.Perm.append_right _ og
 rw [List.take_append_drop] at h;rw [jQ];exact h
set_option maxHeartbeats 2000000 in
theorem XE (G:GH) (w0:World) (bo:Nat) (v:aj) (S:List Int) (n:Int) (hO:ji G [(bo,.cells #[v] 52 (0,0))] w0) (hv:aC G (.sl 1 (S.map fun q=>[li q])) v) (hs:S.Pairwise (·≤·)) (hz:S.length≤4294967296) :
  Calls prog 49 #[vi n,(aQ bo 0)] w0 (iM w0 G [(bo,.cells #[v] 52 (0,0))] fun u G' L'=>∃ (v':aj) (R:List Int),L'=[(bo,.cells #[v'] 52 (0,0))]∧R.Perm (n :: S)∧R.Pairwise (·≤·)∧aC G' (.sl 1 (R.map fun q=>[li q])) v'):=by
 have hml:maxLen=9223372036854775807:=rfl;obtain ⟨A,c,rfl,hc1,hc2,-⟩:=hv.slice;rw [bQ] at *;refine lq (N:=31) (T:=[(0,_),(1,_)]) func49 rfl ntmps49 rfl rfl hO ?_;intro a H;refine kP H (SR fun _ K1=>Ro wQ 0 rfl (Rl lT rfl (ak K1 rfl (SQ fun _ K2=>SB ?_))));clear H K1;intro a H;skip;refine eT (ι:=Nat) (Tc:=[(0,_),(1,_)]) (Lc:=[(_,_)]) (fun gh=>[(3,vi gh)]) (fun gh=>[]) (fun gh=>G) (fun gh=>gh≤S.length∧∀ i (h:i < S.length),gh≤i→n≤S[i]) (fun gh=>gh) (S.length) (by exact (H).sub ⟨rfl,rfl,rfl,aB⟩) ?_ ?_
 ·exact ⟨dw _,fun i h1 h2=>absurd h1 (by omega)⟩
 clear H;intro k a w hI H;obtain ⟨hk,hge⟩:=hI;dsimp only [lca,aO] at H;refine aN (fun _ K3=>?_);refine dh (fun _ K4=>?_);refine nE (ι:=Bool) (Tc:=[(0,_),(1,_),(3,_)]) 11 (fun (q:Bool)=>[(16,.bool q)]) (fun (q:Bool)=>(q=true→0 < k∧∀ i (h:i < S.length),i+1=k→n≤S[i])∧(q=false→∀ i (h:i < S.length),i+1=k→S[i]≤n)) (by exact H.sub ⟨rfl,rfl,rfl,aB⟩) ?_ ?_
 ·intro Zp;refine kH H (Rm rfl (Rc rfl (Rm rfl (Sp 8 rfl ?_ ?_)))) <;> clear H
  ·intro h8 a H
   try have p8:=dT h8
   have hk2:k - 1 < S.length:=by omega
   obtain ⟨b,o,rfl,hcell⟩:=UQ hv hk2;refine kH H (YO wQ 0 h8 rfl (YM h8 rfl ?_));clear H;intro a H;refine mD ((k - 1:Nat):Int) H (wg H rfl rfl h8) rfl rfl (by omega) (by omega) (by omega) rfl ?_;clear H;intro a H;refine kH H (YI lT aD h8 rfl rfl (YR aD h8 rfl hcell (YM h8 rfl (YC h8 rfl (Pt h8 rfl ?_)))));clear H;intro a H;refine Zp (_) _ _ ?_ (by exact H.sub ⟨rfl,rfl,rfl,rfl,aB⟩)
   first|exact ⟨fun h=>by (cases h),fun _ i h e=>by omega⟩|exact ⟨fun h=>⟨by omega,aaN hk2 (oD h)⟩,fun h=>Zh hk2 (of_decide_eq_false h)⟩
  intro h8 a H
  try have p8:=dF h8
  refine kH H (aZ h8 rfl (aS h8 rfl (aS h8 rfl (Pf h8 rfl ?_))));clear H;intro a H;refine Zp (_) _ _ ?_ (by exact H.sub ⟨rfl,rfl,rfl,rfl,aB⟩)
  first|exact ⟨fun h=>by (cases h),fun _ i h e=>by omega⟩|exact ⟨fun h=>⟨by omega,aaN hk2 (oD h)⟩,fun h=>Zh hk2 (of_decide_eq_false h)⟩
 clear H;intro q a w hI H;dsimp only [lca,aO] at H;simp only [mX,jW];have hq:=hI;refine K4 _ _ ?_;clear K4;refine qF H rfl ?_ ?_
 ·intro h16
  try have p16:=dT h16
  have hk3:=(hq.1 h16).1;refine kP H (Kc K3 (SB (SC (Rm rfl ?_))));clear H K3;intro a H;refine mD ((k - 1:Nat):Int) H wn rfl rfl (by omega) (by omega) (by omega) rfl ?_;clear H;intro a H;refine kH H (Ra rfl ?_);clear H;intro a H;refine aJ ?_;refine dH (k - 1) (by exact (H).sub ⟨rfl,rfl,rfl,aB⟩) ?_ ?_
  ·exact ⟨by omega,fun i h1 h2=>by
    by_cases e:i+1=k
    ·exact (hq.1 h16).2 i h1 e
    exact hge i h1 (by omega)⟩
  have:=(hq.1 h16).1;omega
 intro h16
 try have p16:=dF h16
 refine dR ?_;refine K2 _ _ ?_;clear K2
 have hpt:aC G (.sl 1 ((S.drop k).map fun q=>[li q])) (.slice (if c=k then A else A.map (·.add (k*1))) (S.length - k) (c - k)):=by
  have h:=hv.part k S.length hk (by simp);rw [lZ (by simp),← List.map_drop] at h;exact h
 have hpr:aC G (.sl 1 ((S.take k).map fun q=>[li q])) (.slice A k c):=by
  have h:=hv.pre k (by simpa using hk)
  rwa [← List.map_take] at h
 have zW:∀ (dz:Nat→aj × OL) (iy:Nat) (v:aj) (G G':GH),(∀ k o,G k=some o→G' k=some o)→(fun (dz:Nat→aj × OL) (iy:Nat) (v:aj) (G:GH)=>match iy with|0=>v=(dz 0).1∧gQ 3 1 v 0 [] (dz 0).2|1=>v=.slice A S.length c|2=>v=vi k|3=>v=.slice A k c|4=>v=(dz 4).1∧∃ xs,gQ 3 1 v k xs (dz 4).2∧ig G 1 ((S.take k).map fun q=>[li q]) xs|5=>v=vi n|6=>aC G (.sl 1 ([n].map fun q=>[li q])) v|7=>v=(dz 7).1∧∃ xs,gQ 3 1 v (k+1) xs (dz 7).2∧ig G 1 ((S.take k++[n]).map fun q=>[li q]) xs|8=>v=.slice A S.length c|9=>v=vi k|10=>v=.slice (if c=k then A else A.map (·.add (k*1))) (S.length - k) (c - k)|11=>v=(dz 11).1∧∃ xs,gQ 3 1 v (k+1+(S.length - k)) xs (dz 11).2∧ig G 1 ((S.take k++[n]++S.drop k).map fun q=>[li q]) xs|_=>True) dz iy v G→(fun (dz:Nat→aj × OL) (iy:Nat) (v:aj) (G:GH)=>match iy with|0=>v=(dz 0).1∧gQ 3 1 v 0 [] (dz 0).2|1=>v=.slice A S.length c|2=>v=vi k|3=>v=.slice A k c|4=>v=(dz 4).1∧∃ xs,gQ 3 1 v k xs (dz 4).2∧ig G 1 ((S.take k).map fun q=>[li q]) xs|5=>v=vi n|6=>aC G (.sl 1 ([n].map fun q=>[li q])) v|7=>v=(dz 7).1∧∃ xs,gQ 3 1 v (k+1) xs (dz 7).2∧ig G 1 ((S.take k++[n]).map fun q=>[li q]) xs|8=>v=.slice A S.length c|9=>v=vi k|10=>v=.slice (if c=k then A else A.map (·.add (k*1))) (S.length - k) (c - k)|11=>v=(dz 11).1∧∃ xs,gQ 3 1 v (k+1+(S.length - k)) xs (dz 11).2∧ig G 1 ((S.take k++[n]++S.drop k).map fun q=>[li q]) xs|_=>True) dz iy v G':=by
  intro dz iy v G G' hm h
  match iy,h with
  | 0,h=>exact h
  | 1,h=>exact h
  | 2,h=>exact h
  | 3,h=>exact h
  | 4,h=>exact let ⟨h1,xs,h2,h3⟩:=h;⟨h1,xs,h2,h3.mono hm⟩
  | 5,h=>exact h
  | 6,h=>exact aC.mono hm h
  | 7,h=>exact let ⟨h1,xs,h2,h3⟩:=h;⟨h1,xs,h2,h3.mono hm⟩
  | 8,h=>exact h
  | 9,h=>exact h
  | 10,h=>exact h
  | 11,h=>exact let ⟨h1,xs,h2,h3⟩:=h;⟨h1,xs,h2,h3.mono hm⟩
  | 12,h=>exact trivial
  | _+13,h=>exact trivial
 refine aef [0,4,7,11] [(0,4),(4,7),(7,11)] (hmx) [[],[],[],[1,2],(ra 0 4),[],[5],(ra 0 7),[],[],[8,9],(ra 0 11),(ra 0 12)] [12] (by kernel_rfl) (by kernel_rfl) (by decide) (by kernel_rfl) (by decide) (fun (dz:Nat→aj × OL) (iy:Nat) (v:aj) (G:GH)=>match iy with|0=>v=(dz 0).1∧gQ 3 1 v 0 [] (dz 0).2|1=>v=.slice A S.length c|2=>v=vi k|3=>v=.slice A k c|4=>v=(dz 4).1∧∃ xs,gQ 3 1 v k xs (dz 4).2∧ig G 1 ((S.take k).map fun q=>[li q]) xs|5=>v=vi n|6=>aC G (.sl 1 ([n].map fun q=>[li q])) v|7=>v=(dz 7).1∧∃ xs,gQ 3 1 v (k+1) xs (dz 7).2∧ig G 1 ((S.take k++[n]).map fun q=>[li q]) xs|8=>v=.slice A S.length c|9=>v=vi k|10=>v=.slice (if c=k then A else A.map (·.add (k*1))) (S.length - k) (c - k)|11=>v=(dz 11).1∧∃ xs,gQ 3 1 v (k+1+(S.length - k)) xs (dz 11).2∧ig G 1 ((S.take k++[n]++S.drop k).map fun q=>[li q]) xs|_=>True) (fun m hm x y i v G hi hc h=>by
  have hm:m=0∨m=4∨m=7∨m=11:=by simpa using hm
  rcases hm with rfl|rfl|rfl|rfl
  ·match i,hi,hc,h with
   | 0,hi,_,_=>exact absurd hi (by decide)
   | 1,_,_,h=>exact h
   | 2,_,_,h=>exact h
   | 3,_,_,h=>exact h
   | 4,_,hc,_=>exact absurd hc (by decide)
   | 5,_,_,h=>exact h
   | 6,_,_,h=>exact h
   | 7,_,hc,_=>exact absurd hc (by decide)
   | 8,_,_,h=>exact h
   | 9,_,_,h=>exact h
   | 10,_,_,h=>exact h
   | 11,_,hc,_=>exact absurd hc (by decide)
   | 12,_,hc,_=>exact absurd hc (by decide)
   | _+13,_,_,_=>exact trivial
  ·match i,hi,hc,h with
   | 0,_,_,h=>exact h
   | 1,_,_,h=>exact h
   | 2,_,_,h=>exact h
   | 3,_,_,h=>exact h
   | 4,hi,_,_=>exact absurd hi (by decide)
   | 5,_,_,h=>exact h
   | 6,_,_,h=>exact h
   | 7,_,hc,_=>exact absurd hc (by decide)
   | 8,_,_,h=>exact h
   | 9,_,_,h=>exact h
   | 10,_,_,h=>exact h
   | 11,_,hc,_=>exact absurd hc (by decide)
   | 12,_,hc,_=>exact absurd hc (by decide)
   | _+13,_,_,_=>exact trivial
  ·match i,hi,hc,h with
   | 0,_,_,h=>exact h
   | 1,_,_,h=>exact h
   | 2,_,_,h=>exact h
   | 3,_,_,h=>exact h
   | 4,_,_,h=>exact h
   | 5,_,_,h=>exact h
   | 6,_,_,h=>exact h
   | 7,hi,_,_=>exact absurd hi (by decide)
   | 8,_,_,h=>exact h
   | 9,_,_,h=>exact h
   | 10,_,_,h=>exact h
   | 11,_,hc,_=>exact absurd hc (by decide)
   | 12,_,hc,_=>exact absurd hc (by decide)
   | _+13,_,_,_=>exact trivial
  ·match i,hi,hc,h with
   | 0,_,_,h=>exact h
   | 1,_,_,h=>exact h
   | 2,_,_,h=>exact h
   | 3,_,_,h=>exact h
   | 4,_,_,h=>exact h
   | 5,_,_,h=>exact h
   | 6,_,_,h=>exact h
   | 7,_,_,h=>exact h
   | 8,_,_,h=>exact h
   | 9,_,_,h=>exact h
   | 10,_,_,h=>exact h
   | 11,hi,_,_=>exact absurd hi (by decide)
   | 12,_,hc,_=>exact absurd hc (by decide)
   | _+13,_,_,_=>exact trivial
  ) H ?_ ?_ ?_
 ·clear H;refine aI ?_ ?_ ?_ ?_ (aI ?_ ?_ ?_ ?_ (aI ?_ ?_ ?_ ?_ (bC ?_ dN)))
  ·intro _ _ _ _ _ _ _ _ hB;exact absurd hB (by decide)
  ·intro dz lQ fV a w G1 oO _ _ dP hc hG HT hv;have H:=HT;clear dP;have Hb:=H.full;have H:=Hb;clear hc;refine zu wQ H wn rfl (H.hp.OZ (oO _ jB) rfl) rfl ?_;clear H;intro a H;refine aJ ⟨rfl,?_⟩;exact nU (by kernel_rfl) (zW dz) rfl rfl HT Hb hG hv (fun _ _ h=>h) (rfl) H
  ·intro dz lQ fV a w G1 oO _ _ dP hc hG HT hv;have H:=HT;clear dP;have Hb:=H.full;have H:=Hb;clear hc;refine kH H (Rm rfl ?_);clear H;intro a H;refine aJ ⟨rfl,?_⟩;exact nU (by kernel_rfl) (zW dz) rfl rfl HT Hb hG hv (fun _ _ h=>h) (rfl) H
  ·intro dz lQ fV a w G1 oO _ _ dP hc hG HT hv;have H:=HT;clear dP;have H:=H.bg (hv 1 20 (hc 1 (by decide)) rfl) rfl;have H:=H.bg (hv 2 21 (hc 2 (by decide)) rfl) rfl;have Hb:=H.full;have H:=Hb;clear hc;refine VI lT aD k H wn rfl rfl rfl (by omega) rfl ?_;clear H;intro a H;refine aJ ⟨rfl,?_⟩;exact nU (by kernel_rfl) (zW dz) rfl rfl HT Hb hG hv (fun _ _ h=>h) (rfl) H
  ·intro _ _ _ _ _ _ _ _ hB;exact absurd hB (by decide)
  ·intro dz lQ fV a w G1 oO _ _ dP hc hG HT hv;have H:=HT;clear dP;have Hb:=H.full;have H:=Hb;clear hc;refine kH H (Rm rfl ?_);clear H;intro a H;refine aJ ⟨rfl,?_⟩;exact nU (by kernel_rfl) (zW dz) rfl rfl HT Hb hG hv (fun _ _ h=>h) (rfl) H
  ·intro dz lQ fV a w G1 oO _ _ dP hc hG HT hv;have H:=HT;clear dP;have H:=H.bg (hv 5 24 (hc 5 (by decide)) rfl) rfl;have Hb:=H.full;have H:=Hb;clear hc;refine jy lT aD [_] [_] H wn rfl rfl rfl rfl rfl (by intro i q h;match i,h with|0,h=>exact h|n+1,h=>simp at h) rfl rfl ?_;clear H;intro b25 a w apC H;obtain ⟨Ii,Bf,ain,H⟩:=H.dW;have ajx:=aC.eZ (G:=Ii) (rows:=[n].map fun q=>[li q]) (xs:=[vi n]) ain rfl (dw _) (show 1≤maxLen by decide) rfl (by have h:=(ig.nil (G:=Ii) (sz:=1)).snoc (akA Ii n) rfl;simpa using h);refine aJ ⟨rfl,?_⟩;exact nU (by kernel_rfl) (zW dz) rfl rfl HT Hb hG hv Bf (ajx) H
  ·intro _ _ _ _ _ _ _ _ hB;exact absurd hB (by decide)
  ·intro dz lQ fV a w G1 oO _ _ dP hc hG HT hv;have H:=HT;clear dP;have Hb:=H.full;have H:=Hb;clear hc;refine zu wQ H wn rfl (H.hp.OZ (oO _ jB) rfl) rfl ?_;clear H;intro a H;refine aJ ⟨rfl,?_⟩;exact nU (by kernel_rfl) (zW dz) rfl rfl HT Hb hG hv (fun _ _ h=>h) (rfl) H
  ·intro dz lQ fV a w G1 oO _ _ dP hc hG HT hv;have H:=HT;clear dP;have Hb:=H.full;have H:=Hb;clear hc;refine kH H (Rm rfl ?_);clear H;intro a H;refine aJ ⟨rfl,?_⟩;exact nU (by kernel_rfl) (zW dz) rfl rfl HT Hb hG hv (fun _ _ h=>h) (rfl) H
  ·intro dz lQ fV a w G1 oO _ _ dP hc hG HT hv;have H:=HT;clear dP;have H:=H.bg (hv 8 27 (hc 8 (by decide)) rfl) rfl;have H:=H.bg (hv 9 28 (hc 9 (by decide)) rfl) rfl;have Hb:=H.full;have H:=Hb;clear hc;refine amW lT aD k H wn rfl rfl rfl (by omega) rfl ?_;clear H;intro a H;refine aJ ⟨rfl,?_⟩;exact nU (by kernel_rfl) (zW dz) rfl rfl HT Hb hG hv (fun _ _ h=>h) (rfl) H
  ·intro _ _ _ _ _ _ _ _ hB;exact absurd hB (by decide)
  intro _ _ _ _ _ _ _ hB;exact absurd hB (by decide)
 ·clear H;refine aI ?_ ?_ ?_ ?_ (aI ?_ ?_ ?_ ?_ (aI ?_ ?_ ?_ ?_ (bC ?_ dN)))
  ·intro _ dz lQ fV a w G1 oO _ hc hG HT hv;have H:=HT;have H:=H.cast (show EZ [(0,4),(4,7),(7,11)] dz 0++lQ=lQ from rfl);have Hb:=H.full;have H:=Hb;clear hc;refine amM lT aD H wn rfl ?_;clear H;intro b19 a w aik H;refine aJ ⟨rfl,(.slice (some ⟨b19,0,none⟩) 0 0,[(b19,.cells #[] 3 (0,0))]),?_⟩;exact KA (by kernel_rfl) (zW (um dz 0 (.slice (some ⟨b19,0,none⟩) 0 0,[(b19,.cells #[] 3 (0,0))]))) rfl HT Hb hG (fun j e h1 h2 h3=>(let ⟨v,q1,_,q2⟩:=hv (.slice (some ⟨b19,0,none⟩) 0 0,[(b19,.cells #[] 3 (0,0))]) j e h1 h2 h3;⟨v,q1,q2⟩)) (fun _ _ h=>h) (⟨rfl,gQ.empty⟩) H
  ·intro hB;exact absurd hB (by decide)
  ·intro hB;exact absurd hB (by decide)
  ·intro hB;exact absurd hB (by decide)
  ·intro _ dz lQ fV a w G1 oO _ hc hG HT hv;have H:=HT;have H:=H.cast (show EZ [(0,4),(4,7),(7,11)] dz 4++lQ=(dz 0).2++lQ from rfl);obtain ⟨u19,ajS,Z6,-⟩:=hv (.bool false,[]) 0 19 (by decide) (hc 0 (by decide)) rfl;(try dsimp only at Z6);obtain ⟨h19,EP⟩:=Z6;have H:=H.qV ajS;obtain ⟨u22,ajT,ajr,-⟩:=hv (.bool false,[]) 3 22 (by decide) (hc 3 (by decide)) rfl;obtain rfl:u22=.slice A k c:=ajr;have H:=H.qV ajT;have Hb:=H.full;have H:=Hb;clear hc;refine Cz lT aD rfl rfl (Li:=lQ) (Lo:=(dz 0).2) (H.perm og) wn rfl rfl EP (hpr.mono hG) (by omega) (by omega) rfl ?_;clear H;intro v23 Ql n23 a w OA TF H;have I7:=fun (b:Nat) (o:Obj) (h:G1 b=some o)=>h;rw [nT,kD] at OA;have H:=H.perm og;refine aJ ⟨rfl,(v23,Ql),?_⟩;exact KA (by kernel_rfl) (zW (um dz 4 (v23,Ql))) rfl HT Hb hG (fun j e h1 h2 h3=>(let ⟨v,q1,_,q2⟩:=hv (v23,Ql) j e h1 h2 h3;⟨v,q1,q2⟩)) I7 (⟨rfl,_,OA,TF⟩) H
  ·intro hB;exact absurd hB (by decide)
  ·intro hB;exact absurd hB (by decide)
  ·intro _ dz lQ fV a w G1 oO _ hc hG HT hv;have H:=HT;have H:=H.cast (show EZ [(0,4),(4,7),(7,11)] dz 7++lQ=(dz 4).2++lQ from rfl);obtain ⟨u23,ajU,Z7,-⟩:=hv (.bool false,[]) 4 23 (by decide) (hc 4 (by decide)) rfl;(try dsimp only at Z7);obtain ⟨h23,aqS,OA,TF⟩:=Z7;have H:=H.qV ajU;obtain ⟨u25,ajV,Ow,-⟩:=hv (.bool false,[]) 6 25 (by decide) (hc 6 (by decide)) rfl;(try dsimp only at Ow);obtain ⟨A25,n25,c25,rfl⟩:=Ow.form;obtain rfl:n25=1:=Ow.len;have H:=H.qV ajV;have Hb:=H.full;have H:=Hb;clear hc;refine Cz lT aD rfl rfl (Li:=lQ) (Lo:=(dz 4).2) (H.perm og) wn rfl rfl OA Ow (by omega) (by omega) rfl ?_;clear H;intro v26 Qm n26 a w UA TG H;have ahJ:=fun (b:Nat) (o:Obj) (h:G1 b=some o)=>h;have H:=H.perm og;refine aJ ⟨rfl,(v26,Qm),?_⟩;exact KA (by kernel_rfl) (zW (um dz 7 (v26,Qm))) rfl HT Hb hG (fun j e h1 h2 h3=>(let ⟨v,q1,_,q2⟩:=hv (v26,Qm) j e h1 h2 h3;⟨v,q1,q2⟩)) ahJ (⟨rfl,_,UA,by rw [mW];exact TF.append TG⟩) H
  ·intro hB;exact absurd hB (by decide)
  ·intro hB;exact absurd hB (by decide)
  ·intro hB;exact absurd hB (by decide)
  ·intro _ dz lQ fV a w G1 oO _ hc hG HT hv;have H:=HT;have H:=H.cast (show EZ [(0,4),(4,7),(7,11)] dz 11++lQ=(dz 7).2++lQ from rfl);obtain ⟨u26,ajW,Z8,-⟩:=hv (.bool false,[]) 7 26 (by decide) (hc 7 (by decide)) rfl;(try dsimp only at Z8);obtain ⟨eO,aqT,UA,TG⟩:=Z8;have H:=H.qV ajW;obtain ⟨u29,ajX,ajs,-⟩:=hv (.bool false,[]) 10 29 (by decide) (hc 10 (by decide)) rfl;obtain rfl:u29=.slice (if c=k then A else A.map (·.add (k*1))) (S.length - k) (c - k):=ajs;have H:=H.qV ajX;have Hb:=H.full;have H:=Hb;clear hc;refine Cz lT aD rfl rfl (Li:=lQ) (Lo:=(dz 7).2) (H.perm og) wn rfl rfl UA (hpt.mono hG) (by omega) (by omega) rfl ?_;clear H;intro v30 J8 n30 a w Jo TH H;have KW:=fun (b:Nat) (o:Obj) (h:G1 b=some o)=>h;have H:=H.perm og;refine aJ ⟨rfl,(v30,J8),?_⟩;exact KA (by kernel_rfl) (zW (um dz 11 (v30,J8))) rfl HT Hb hG (fun j e h1 h2 h3=>(let ⟨v,q1,_,q2⟩:=hv (v30,J8) j e h1 h2 h3;⟨v,q1,q2⟩)) KW (⟨rfl,_,Jo,by rw [mW];exact TG.append TH⟩) H
  intro hB;exact absurd hB (by decide)
 clear H;intro dz a w G Zl H hv;rw [show nV [0,4,7,11] (live [(0,4),(4,7),(7,11)] fun _=>true) dz=(dz 11).2 from by first|(simp [nV,live];done)|(simp [nV,live];rfl)] at H
 try simp only [nV,List.flatMap_cons,List.flatMap_nil,cond_true,nH,jQ] at H
 obtain ⟨u30,ajY,Z9⟩:=hv 11 30 (by decide) rfl;(try dsimp only at Z9);obtain ⟨qh,aqU,Jo,TH⟩:=Z9;have H:=H.qV ajY;clear hv;obtain ⟨⟨v30,J8⟩,e30⟩:∃ y,y=dz 11:=⟨_,rfl⟩;rw [← e30] at H qh Jo;dsimp only at H qh Jo;subst qh;obtain ⟨Wy,XU,rfl,-,-⟩:=Jo.shape;have H:=H.perm og;dsimp only [lca,aO] at H;refine bT wQ 0 (vs:=[_]) _ H wn rfl rfl rfl rfl rfl rfl rfl rfl ?_;clear H;intro w H;dsimp only [List.set,setRow] at H;refine aJ ⟨rfl,?_⟩;obtain ⟨Gr,hmr,hrep,H⟩:=St.Gf (Li:=[_]) H Jo (rows:=(S.take k++[n]++S.drop k).map fun q=>[li q]) (by simp;omega) TH;refine (leave0 H results49 ?_).2;exact H.hp.fO ⟨_,_,rfl,akt,aku hs hk hge (anF hs hk (hq.2 h16)),hrep⟩
def AJ (l:List ay):List Int:=((lH l).map jK.id).tail
def JL (l:List ay):List Int:=(Ae l).map fun q=>q.2.id
theorem alR {R Q:List Int} {F:List Int} {k:Nat} (hk:k < F.length) (h1:R.Perm (F.take k)) (h2:Q.Perm (F[k] :: R)):Q.Perm (F.take (k+1)):=by
 rw [mV hk];exact h2.trans ((h1.cons _).trans (og (l₁:=[F[k]])))
theorem alS {R Q:List Int} {F P:List Int} {k:Nat} (hk:k < P.length) (h1:R.Perm (F++P.take k)) (h2:Q.Perm (P[k] :: R)):Q.Perm (F++P.take (k+1)):=by
 rw [mV hk,← jQ];exact h2.trans ((h1.cons _).trans (og (l₁:=[P[k]])))
set_option maxHeartbeats 2000000 in
theorem akY (G:GH) (w0:World) (hG:Hold G w0) (D:jT) (l:List ay) (hv:aC G (.sl 11 (l.map ay.dat)) (bU D.f)) (hok:ou l) (hz:bq l≤1073741824) :
  Calls prog 14 #[D.val] w0 (bY w0 G fun u G'=>∃ R:List Int,R.Perm (AJ l++JL l)∧R.Pairwise (·≤·)∧aC G' (.sl 1 (R.map fun q=>[li q])) u):=by
 have hml:maxLen=9223372036854775807:=rfl
 have hbl:(dx l).length≤1073741825:=by
  have hn:=DY false 0 l;rw [dx,kW];omega
 have htl:(Ae l).length≤bq l:=Mr 0 0 l;have hbw:=Aw l
 have hpos:1≤(lH l).length:=by show 1≤(_ :: _:List jK).length;rw [kW];omega
 have hfl:(AJ l).length=(lH l).length - 1:=by rw [AJ,List.length_tail,bQ]
 have htn:(JL l).length=(Ae l).length:=bQ _;refine eN [(0,_)] func14 rfl ntmps14 rfl rfl hG ?_;intro a H;refine dh (fun _ K1=>?_);refine fB (cs:=[_,_,_,_,_,_,_,_,_,_,_]) H wn rfl rfl rfl ?_;clear H;intro b1 a w hb1 H;refine kH H (ak K1 rfl (SR fun _ K2=>?_));clear H K1;intro a H;refine eH wQ H wn rfl ?_;clear H;intro b3 a w hb3 H;refine K2 _ _ ?_;clear K2;refine dh (fun _ K3=>?_);refine pV H wn rfl rfl ?_;clear H;intro a H;refine kH H (ak K3 rfl (SR fun _ K4=>?_));clear H K3;intro a H;refine bP lX (cs:=[_,_,_,_,_,_,_,_,_,_,_]) H wn rfl rfl (H.hp.gB 1 rfl rfl) rfl ?_;clear H;intro a H;refine s_call QX H wn rfl (RX _ _ H.ro D l hv (by omega)) rfl ?_;clear H;rintro v12 yw a w Ut xH H;obtain ⟨A5,n5,c5,rfl⟩:=Ut.form;have tY:=Ut.len;rw [bQ] at tY;obtain rfl:n5=(lH l).length:=tY;refine kH H (ak K4 rfl (SQ fun _ K5=>SR fun _ K6=>ak K6 rfl (SB ?_)));clear H K4 K6;intro a H;skip;refine eT (ι:=Nat × aj × List Int × GH) (Tc:=[(1,_),(3,_),(4,_),(5,_)]) (Lc:=[(_,_)]) (fun gh=>[(6,vi gh.1)]) (fun gh=>[(b3,.cells #[gh.2.1] 52 (0,0))]) (fun gh=>gh.2.2.2) (fun gh=>1≤gh.1∧gh.1≤(lH l).length∧gh.2.2.1.Perm ((AJ l).take (gh.1 - 1))∧gh.2.2.1.Pairwise (·≤·)∧aC gh.2.2.2 (.sl 1 (gh.2.2.1.map fun q=>[li q])) gh.2.1∧(∀ b o,yw b=some o→gh.2.2.2 b=some o)) (fun gh=>(lH l).length - gh.1) ((1,.slice none 0 0,[],yw)) (by exact (H.dB (Pl:=[_,_]) (cB:=[_,_]) [1,0] (by decide) rfl).sub ⟨rfl,rfl,rfl,rfl,rfl,aB⟩) ?_ ?_
 ·exact ⟨dw _,hpos,by simp,List.Pairwise.nil,by simp only [aC];exact ⟨none,0,by simp,by simp,by simp [maxLen],fun h=>absurd rfl h⟩,fun _ _ h=>h⟩
 clear H;rintro ⟨i,v,R,g⟩ a w hI H;dsimp only at hI H;obtain ⟨hi1,hi,hp,hs,hr,hgm⟩:=hI;have hrl:=hp.length_eq;rw [List.length_take] at hrl;dsimp only [lca,aO] at H;refine kP H (SQ fun _ K7=>SR fun _ K8=>Rm rfl (Rm rfl (Rl BD rfl (Rc rfl (Kz K8 (Cd rfl ?_ ?_)))))) <;> clear H K8
 ·intro h16 a H
  try have p16:=dT h16
  have hi2:i < (lH l).length:=by omega
  obtain ⟨b,o,vv,rfl,hrow,-⟩:=QD (Ut.mono hgm) hi2
  have hfi:(AJ l)[i - 1]'(by omega)=(lH l)[i].id:=by
   unfold AJ
   rw [List.getElem_tail,List.getElem_map]
   congr 2;omega
  refine kP H (Kc K7 (SQ fun _ K9=>SB (SC (Rm rfl (Rm rfl (Rm rfl (Ri BD DW rfl rfl (Rf RF rfl (Rg aD rfl (hrow 0 _ rfl) ?_)))))))));clear H K7;intro a H;refine uZ (Li:=[_]) (L:=[_]) H wn rfl rfl (nK (caps:=[(aQ b3 0)]) YK (XE _ _ b3 v R _ (Hp.owns (Li:=[_]) H.hp) hr hs (by omega))) rfl ?_;clear H;rintro v25 Ii L25 a w ⟨v',R',rfl,hp',hs',hr'⟩ Bf H;dsimp only [lca,aO] at H;refine kH H (Kn K9 (SC (Rm rfl (Rd rfl (Ra rfl ?_)))));clear H K9;intro a H;refine aJ ?_;refine dH ((i+1,v',R',_)) (by exact (H).sub ⟨rfl,rfl,rfl,rfl,rfl,aB⟩) ?_ ?_
  ·(try dsimp only);exact ⟨by omega,by omega,by rw [Nat.add_sub_cancel,show i=i - 1+1 by omega];exact alR (by omega) hp (by rw [hfi];exact hp'),hs',hr',fun b o h=>Bf b o (hgm b o h)⟩
  first|omega|(dsimp only;omega)
 intro h16 a H
 try have p16:=dF h16
 obtain rfl:i=(lH l).length:=by omega
 rw [lZ (by omega)] at hp;refine dR ?_;refine K5 _ _ ?_;clear K5;refine dh (fun _ aV=>?_);refine bP lX (cs:=[_,_,_,_,_,_,_,_,_,_,_]) H wn rfl rfl (H.hp.gB 0 rfl rfl) rfl ?_;clear H;intro a H;refine s_call agG H wn rfl (anY _ _ H.ro D l ((hv.mono xH).mono hgm) hok (by omega)) rfl ?_;clear H;rintro v28 Qa a w ⟨ta,tb,rfl,UG,htb⟩ aiZ H;obtain ⟨A7,n7,c7,rfl⟩:=UG.form;have Oq:=UG.len;rw [bQ] at Oq;obtain rfl:n7=(Ae l).length:=Oq;obtain ⟨A8,n8,c8,rfl⟩:=htb.form;refine kH H (Rm rfl ?_);clear H;intro a H;(iterate 2 refine nA H wn rfl rfl rfl ?_;clear H;intro a H);refine kH H (Ra rfl (ak aV rfl (SQ fun _ bF=>SR fun _ bG=>ak bG rfl (SB ?_))));clear H aV bG;intro a H;skip;refine eT (ι:=Nat × aj × List Int × GH) (Tc:=[(3,_),(4,_),(7,_)]) (Lc:=[(_,_)]) (fun gh=>[(9,vi gh.1)]) (fun gh=>[(b3,.cells #[gh.2.1] 52 (0,0))]) (fun gh=>gh.2.2.2) (fun gh=>gh.1≤(Ae l).length∧gh.2.2.1.Perm (AJ l++(JL l).take gh.1)∧gh.2.2.1.Pairwise (·≤·)∧aC gh.2.2.2 (.sl 1 (gh.2.2.1.map fun q=>[li q])) gh.2.1∧(∀ b o,Qa b=some o→gh.2.2.2 b=some o)) (fun gh=>(Ae l).length - gh.1) ((0,v,R,Qa)) (by exact (H).sub ⟨rfl,rfl,rfl,rfl,aB⟩) ?_ ?_
 ·exact ⟨gX _,by simpa using hp,hs,hr.mono aiZ,fun _ _ h=>h⟩
 clear H;rintro ⟨k,v2,R2,g2⟩ a w hI H;dsimp only at hI H;obtain ⟨hk,hp2,hs2,hr2,kF⟩:=hI;have hrl2:=hp2.length_eq;rw [jP,List.length_take] at hrl2;dsimp only [lca,aO] at H;refine kP H (SQ fun _ bM=>SR fun _ bN=>Rm rfl (Rm rfl (Rl kr rfl (Rc rfl (Kz bN (Cd rfl ?_ ?_)))))) <;> clear H bN
 ·intro eG a H
  try have p34:=dT eG
  have hk2:k < (Ae l).length:=by omega
  obtain ⟨b,o,cx,rfl,hrow,hcx⟩:=aod (UG.mono kF) hk2;obtain ⟨aX,anX,acX,bX,bnX,bcX,dX,dnX,dcX,eX,enX,ecX,iX,inX,icX,rfl,-⟩:=hcx.item;refine kP H (Kc bM (SQ fun _ bW=>SB (SC (Rm rfl (Rm rfl (Rm rfl (Ri kr fC rfl rfl (Rf uN rfl (Rg aD rfl (hrow 2 _ rfl) ?_)))))))));clear H bM;intro a H;refine uZ (Li:=[_]) (L:=[_]) H wn rfl rfl (nK (caps:=[(aQ b3 0)]) YK (XE _ _ b3 v2 R2 _ (Hp.owns (Li:=[_]) H.hp) hr2 hs2 (by omega))) rfl ?_;clear H;rintro v43 Ap L43 a w ⟨v',R',rfl,hp',hs',hr'⟩ nu H;dsimp only [lca,aO] at H;refine kH H (Kn bW (SC (Rm rfl (Rd rfl (Ra rfl ?_)))));clear H bW;intro a H;refine aJ ?_;refine dH ((k+1,v',R',_)) (by exact (H).sub ⟨rfl,rfl,rfl,rfl,aB⟩) ?_ ?_
  ·(try dsimp only);exact ⟨by omega,alS (by omega) hp2 (by rw [show (JL l)[k]'(by omega)=(Ae l)[k].2.id from List.getElem_map _];exact hp'),hs',hr',fun b o h=>nu b o (kF b o h)⟩
  first|omega|(dsimp only;omega)
 intro eG a H
 try have p34:=dF eG
 obtain rfl:k=(Ae l).length:=by omega
 rw [lZ (by omega)] at hp2;refine dR ?_;refine bF _ _ ?_;clear bF;exact kP H (SR fun _ cK=>Ro wQ 1 rfl (ak cK rfl (LR results14 rfl fun H=>H.rt ⟨R2,hp2,hs2,hr2⟩)))
end
section
open Go.RowKit
abbrev cW (a:Int) (L:List jh):Nat:=(L.map jh.id).count a
abbrev cT (a:Int) (L:List ((Int × Int) × ay)):Nat:=((tF L).map fun q=>q.2.id).count a
theorem QG (a:Int) (A B:List jh):cW a (A++B)=cW a A+cW a B:=by simp [cW,List.count_append]
theorem QF (a:Int) (A B:List ((Int × Int) × ay)):cT a (A++B)=cT a A+cT a B:=by simp [cT,PK,List.count_append]
mutual
theorem aeP (f t:Int) (note:Bool) (tt a:Int):∀ x:ay,cW a (uw note tt x)+cT a (EX f t x)=(DC x).count a
 | .mk k c i tx h fl r=>by
  have hf:=Nh i 0 true tt a fl;have hr:=Ya note tt a r;have e:=acg (f:=f) (at_:=t) (x:=.mk k c i tx h fl r);dsimp only [ay.kind,ay.id,ay.flow,ay.rows] at e
  unfold cT at hf hr ⊢
  rw [DC,uw,e]
  by_cases h6:k=6
  ·have h7:¬ k=7:=by omega
   simp only [h6,h7,if_true,if_false,true_or,kD,nH,List.singleton_append,dV,List.count_cons,cW] at *
   simp only [show ¬ (6:Int)=7 by decide,if_false,kD,nH] at *
   omega
  by_cases h7:k=7
  ·simp only [h7,if_true,or_true,show ¬ (7:Int)=6 by decide,if_false,kD,List.singleton_append,dV,List.count_cons,cW] at *
   rw [show (ay.mk 7 c i tx h fl r).id=i from rfl]
   omega
  simp only [h6,h7,if_false,or_self,kD,uI,List.count_nil,cW]
theorem Nh (f:Int) (t:Int) (note:Bool) (tt a:Int):∀ l:List ay,cW a (iT note tt l)+cT a (fM f t l)=(gF l).count a
 | []=>by rw [iT,fM,gF];rfl
 | x :: l=>by
  have h1:=aeP f t note tt a x;have h2:=Nh f (t+rZ x) note tt a l;rw [iT,fM,gF,QG,QF,List.count_append];omega
theorem aeQ (note:Bool) (tt a:Int):∀ x:bH,cW a (uy note tt x)+cT a (HZ x)=(DF x).count a
 | .mk h cs=>by rw [DF,uy,HZ];exact X9 note tt a cs
theorem Ya (note:Bool) (tt a:Int):∀ l:List bH,cW a (mF note tt l)+cT a (rU l)=(wH l).count a
 | []=>by rw [mF,rU,wH];rfl
 | x :: l=>by
  have h1:=aeQ note tt a x;have h2:=Ya note tt a l;rw [mF,rU,wH,QG,QF,List.count_append];omega
theorem aeO (note:Bool) (tt a:Int):∀ x:bD,cW a (uq note tt x)+cT a (EW x)=(Dz x).count a
 | .mk i h fl=>by
  have hf:=Nh i 0 note (tt+1) a fl;rw [Dz,uq,EW]
  simp only [cW,dV,List.count_cons] at *
  omega
theorem X9 (note:Bool) (tt a:Int):∀ l:List bD,cW a (mR note tt l)+cT a (jN l)=(xK l).count a
 | []=>by rw [mR,jN,xK];rfl
 | x :: l=>by
  have h1:=aeO note tt a x;have h2:=X9 note tt a l;rw [mR,jN,xK,QG,QF,List.count_append];omega
end
theorem aax (l:List ay):(AJ l++JL l).Perm (gF l):=by
 refine List.perm_iff_count.2 fun a=>?_;have h:=Nh 0 0 false 0 a l;rw [List.count_append,← h]
 unfold AJ
 rw [adV]
 rfl
theorem anQ {R l:List Int} (h1:R.Perm l) (h2:R.Pairwise (·≤·)):R=rW l:=by
 have h3:=Go.mergeSort_of_perm_i h1
 unfold rW
 rw [← h3];exact (List.mergeSort_of_pairwise (h2.imp fun h=>aF h)).symm
theorem aaw {l:List ay} (hz:bq l≤1073741824):(gF l).length≤2147483649:=by
 have h1:=(aax l).length_eq;have h2:=DY false 0 l;have h3:=Aw l;have h4:(Ae l).length≤bq l:=Mr 0 0 l
 have h5:(AJ l).length=(lH l).length - 1:=by rw [AJ,List.length_tail,bQ]
 have h6:(JL l).length=(Ae l).length:=bQ _;rw [jP,h5,h6,h3,dx,kW] at h1
 omega
end
section
open Go.RowKit
theorem afZ:∀ args w,(callFunc 19 args).run prog w=.ok (.enter 19 args) w:=enters func19 rfl (by kernel_rfl)
theorem ahl:dJ prog 92 1 1:=⟨by kernel_rfl⟩
theorem YA:∀ args w,(callFunc 21 args).run prog w=.ok (.enter 21 args) w:=enters func21 rfl (by kernel_rfl)
def sK (d:qR) (f:jh) (l:List ay):CR:=fq (aK (rW (gF d.flow)) d.iI.styles d.iI.lists d.revs) f.body f.note f.tables l ⟨0,[]⟩
def ny (d:qR) (f:jh) (l:List ay):Int:=if (sK d f l).1≠0 then (sK d f l).1 else bE (decide (16384 < (sK d f l).2.n+kR (dx d.flow))) 9
def Bn (d:qR) (id:Int) (l:List ay):Int:=(((dx d.flow).find? fun f=>decide (f.id=id)).map fun f=>ny d f l).getD 8
theorem anP {l:List Int} (h:l.Nodup):(rW l).Nodup:=(List.mergeSort_perm _ _).symm.nodup h
set_option maxHeartbeats 2000000 in
theorem aeH (G:GH) (w0:World) (hG:Hold G w0) (D:jT) (d:qR) (hR:BF G D d) (hz:Fw d) (hc:jk d=0) (id:Int) (l:List ay) (v:Option Addr × Nat × Nat) (hv:aC G (.sl 11 (l.map ay.dat)) (bU v)) (hl:bq l≤1073741824) :
  Calls prog 12 #[D.val,vi id,bU v] w0 (bY w0 G fun u G'=>u=vi (Bn d id l)):=by
 have hok:=Vf hc;have zX:=hz.fl;have hzs:=hz.sn;have hzl:=hz.st.ln;have Hf:=hz.rn;have z:=oK hc;have s1:=oK (z _ jB) (jX d.iI) (by simp);have s2:=oK (z _ jB) (xq d.revs) (by simp);have t1:=oK s1 _ jB;have t2:=oK s1 _ (vR _ jB);have LC:=IG (z (fq d.mJ true false 0 d.flow ⟨0,[]⟩).1 (by simp));obtain ⟨I,hQ⟩:∃ I,I=rW (gF d.flow):=⟨_,rfl⟩
 have hnd:I.Nodup:=by rw [hQ];exact anP hok.nd
 have hil:=aaw zX
 have hIl:I.length=(gF d.flow).length:=by rw [hQ,rW,List.length_mergeSort]
 refine eN [(0,_),(1,_),(2,_)] func12 rfl ntmps12 rfl rfl hG ?_;intro a H;refine dh (fun _ K1=>?_);refine fB (cs:=[_,_,_,_,_,_,_,_,_,_,_]) H wn rfl rfl rfl ?_;clear H;intro b3 a w hb3 H;refine fB (cs:=[_]) H wn rfl rfl rfl ?_;clear H;intro b4 a w hb4 H;refine fB (cs:=[_]) H wn rfl rfl rfl ?_;clear H;intro b5 a w hb5 H;refine eH gZ H wn rfl ?_;clear H;intro b6 a w hb6 H;refine K1 _ _ ?_;clear K1;refine aN (fun _ K2=>?_);refine aN (fun _ K3=>?_);have H:=H.dB (Pl:=[_,_,_,_]) (cB:=[_,_,_,_]) [3,2,1,0] (by decide) rfl;obtain ⟨Ga,hma,Bb,H⟩:=H.dW;obtain ⟨Gb,hmb,yS,H⟩:=H.dW;obtain ⟨Gc,hmc,wC,H⟩:=H.dW;have hga:∀ j v,D.cells[j]?=some v→aG Gc b3 (0+j)=some v:=fun j v hj=>aH hmc (aH hmb (EB Bb 0 D.cells rfl j v hj));have hgi:aG Gc b4 0=some (vi id):=aH hmc (by unfold aG;rw [yS];rfl)
 have hgl:aG Gc b5 0=some (bU v):=by unfold aG;rw [wC];rfl
 have hmm:=fun b o h=>hmc b o (hmb b o (hma b o h));replace hR:=hR.mono hmm;replace hv:=hv.mono hmm;refine qG ?_;refine bP lX (cs:=D.cells) H wn rfl rfl (fun j v hj=>H.hp.aG (hga j v hj)) rfl ?_;clear H;intro a H;refine s_call Rh H wn rfl (Ve _ _ H.ro D d.flow hR.fl (by omega)) rfl ?_;clear H;rintro v14 MR a w ⟨ba,bl,bp,rfl,hit⟩ Bc H;replace hR:=hR.mono Bc;replace hv:=hv.mono Bc;replace hga:=fun j v hj=>aH Bc (hga j v hj);replace hgi:=aH Bc hgi;replace hgl:=aH Bc hgl;refine aJ ?_;refine K3 _ _ ?_;clear K3;refine sD ?_;skip;refine BP (ι:=Unit) (κ:=Int) (Lc:=[]) (fun (k:Nat) (gh:Unit)=>[(b6,.cells #[vi 0] 42 (0,0))]) (fun (k:Nat) (gh:Unit)=>[]) (fun (k:Nat) (gh:Unit) (g:GH)=>((dx d.flow).take k).find? (fun f=>decide (f.id=id))=none) (fun (gx:Int)=>Code.ret) (fun (gx:Int)=>[(b6,.cells #[vi gx] 42 (0,0))]) (fun (gx:Int)=>[]) (fun (gx:Int) (g:GH)=>gx=Bn d id l) (()) (by exact H) rfl Nw (hit) (fun _ _ h=>h) rfl (fun k args g h=>by obtain ⟨_,_,_,_,rfl,_⟩:=IZ h;rfl) (fun _ _ _ _ _ h=>h) (fun _ _ _ _ h=>h) (rfl) ?_ ?_ ?_
 ·clear H;intro l2 uX sw bk k args gh G2 w2 F2 B2 a hk2 hm2 hI TD Uk LP H;obtain ⟨hk,vA,vn,vc,rfl,hrep⟩:=IZ hk2;replace hgi:=aH hm2 hgi;replace hgl:=aH hm2 hgl;replace hga:=fun j v hj=>aH hm2 (hga j v hj);replace hR:=hR.mono hm2;replace hv:=hv.mono hm2;dsimp only [qX,List.cons_append,List.nil_append] at H;refine kP H (SR fun _ K4=>ak K4 rfl (SC ?_));clear H K4;intro a H;refine eH PS H wn rfl ?_;clear H;intro b8 a w yT H;refine bT PS 0 (vs:=[_,_,_,_]) _ H wn rfl rfl rfl rfl rfl rfl rfl rfl ?_;clear H;intro w H;dsimp only [List.set,setRow] at H;refine aJ ?_;refine TD _ _ _ _ _ _ (by exact H.dB (Pl:=[_,_,_]) (cB:=[_,_,_]) [1,0,2] (by decide) rfl) ?_;clear H;intro w H;refine kP H (SB (SQ fun _ K5=>SR fun _ K6=>Rm rfl (Rg aD rfl hgi (Rc rfl (Kz K6 (Cd rfl ?_ ?_)))))) <;> clear H K6
  ·intro h19 a H
   refine dR ?_;refine Uk (()) _ _ _ _ _ (by exact H.dB (Pl:=[_,_,_]) (cB:=[_,_]) [0,2] (by decide) rfl) ?_;exact RP hk hI (by simpa using h19)
  intro h19 a H
  try have wL:=dF h19
  have Lm:=NQ (p:=fun f=>decide (f.id=id)) hk hI (by simpa using h19);have htb:=Ze LC (jv hk)
  have hE1:(sK d (dx d.flow)[k] l).1≠0→(sK d (dx d.flow)[k] l).1=Bn d id l:=fun h=>by unfold Bn;rw [Lm];show _=ny d _ l;unfold ny;rw [au h]
  have hE2:¬ (sK d (dx d.flow)[k] l).1≠0→bE (decide (16384 < (sK d (dx d.flow)[k] l).2.n+kR (dx d.flow))) 9=Bn d id l:=fun h=>by unfold Bn;rw [Lm];show _=ny d _ l;unfold ny;rw [ah h]
  refine fF ?_;refine K5 _ _ ?_;clear K5;refine dh (fun _ K7=>?_);refine bP lX (cs:=D.cells) H wn rfl rfl (fun j v hj=>H.hp.aG (hga j v hj)) rfl ?_;clear H;intro a H;refine gP YJ (Li:=[_,_,_]++(bk++[])) (L:=[]) (H.cast (nH _).symm) wn rfl (abe _ _ (Hp.owns (Li:=[_,_,_]++(bk++[])) (H.cast (nH _).symm).hp) D d.iI.styles d.iI.lists d.revs hR.st.st hR.st.li hR.rv (Pz t1) (aaP t2) (aby s2) hzs hzl Hf) rfl ?_;clear H;rintro v21 MS _ a w ⟨b,ms,ml,mr,mb,mu,rfl,rfl,hck⟩ sJ H;have H:=H.perm og;dsimp only [lca,aO] at H;replace hgl:=aH sJ hgl;replace hga:=fun j v hj=>aH sJ (hga j v hj);replace hR:=hR.mono sJ;replace hv:=hv.mono sJ;refine kH H (ak K7 rfl (SQ fun _ K8=>SR fun _ K9=>?_));clear H K7;intro a H;refine bP lX (cs:=D.cells) H wn rfl rfl (fun j v hj=>H.hp.aG (hga j v hj)) rfl ?_;clear H;intro a H;refine s_call afZ H wn rfl (afi _ _ H.ro D d.flow hR.fl (by omega) hok.nd (fun q hq=>by have:=hok.pos q hq;omega) (by omega)) rfl ?_;clear H;rintro v23 P9 a w OD GQ H;rw [← hQ] at OD;obtain ⟨iA,iN,ic,rfl⟩:=OD.form
  obtain rfl:iN=I.length:=by simpa using OD.len
  replace hgl:=aH GQ hgl;replace hga:=fun j v hj=>aH GQ (hga j v hj);replace hR:=hR.mono GQ;replace hv:=hv.mono GQ;refine kH H (Rl lT rfl (Rm rfl (Kz K9 (SB ?_))));clear H K9;intro a H;skip;refine eT (ι:=Nat) (Tc:=[(3,_),(5,_),(6,_),(8,_),(9,_),(23,_),(24,_)]) (Lc:=[(_,_),(_,_),(_,_),(_,_),(_,_)]) (fun gh=>[(25,vi gh)]) (fun gh=>[(mu,fu (fT (I.take gh)))]++(bk++[])) (fun gh=>P9) (fun gh=>gh≤I.length) (fun gh=>I.length - gh) (0) (by exact (H.dB (Pl:=[_,_,_,_,_,_]) (cB:=[_,_,_,_,_,_]) [0,1,3,4,5,2] (by decide) rfl).sub ⟨rfl,rfl,rfl,rfl,rfl,rfl,rfl,rfl,aB⟩) ?_ ?_
  ·exact gX _
  clear H;intro j a w hI H;have hj:=hI;dsimp only [lca,aO] at H;refine kP H (SR fun _ aV=>Rc rfl (Kz aV (SQ fun _ bF=>Cd rfl ?_ ?_))) <;> clear H aV
  ·intro eO a H
   try have p26:=dT eO
   have hj2:j < I.length:=by omega
   obtain ⟨bi,oi,rfl,hci⟩:=UQ OD hj2;have hnew:=U5 (fun k h=>abf hnd h) hj2;refine kP H (Kc bF (SQ fun _ bG=>SB (SR fun _ bM=>Ri lT aD rfl rfl (Rg aD rfl hci (ak bM rfl (SC (Rm rfl (Rk rfl (aT Zb wR 0 rfl rfl (Rm rfl ?_))))))))));clear H bF bM;intro a H;refine JI (i:=5) Ak nZ H wn rfl rfl rfl rfl hnew ?_;clear H;intro w H;dsimp only [List.set,List.append,lca,aO] at H;rw [← U6 hj2] at H;refine kH H (Kn bG (SC (Rd rfl (Rm rfl ?_))));clear H bG;intro a H;refine aJ ?_;refine dH (j+1) (by exact (H).sub ⟨rfl,rfl,rfl,rfl,rfl,rfl,rfl,rfl,aB⟩) ?_ ?_
   ·omega
   first|omega|(dsimp only;omega)
  intro eO a H
  try have p26:=dF eO
  obtain rfl:j=I.length:=by omega
  rw [Eo] at H;refine dR ?_;refine K8 _ _ ?_;clear K8;refine aN (fun _ bN=>?_);refine aN (fun _ bW=>?_);have H:=H.dB (Pl:=[_,_,_,_,_,_]) (cB:=[_,_,_,_,_,_]) [5,0,1,2,3,4] (by decide) rfl;obtain ⟨Gu,hmu,hu,H⟩:=H.dW;replace hck:=hck.with (us:=I) (fun b o h=>hmu _ _ (GQ _ _ h)) hu;replace hgl:=aH hmu hgl;replace hga:=fun j v hj=>aH hmu (hga j v hj);replace hR:=hR.mono hmu;replace hv:=hv.mono hmu;refine kP H (SC (Rm rfl (Rg jJ rfl hgl (Rf ahl rfl ?_))));clear H;intro a H;refine bP Mv (cs:=[_,_,_]) H wn rfl rfl (H.hp.gB 3 rfl rfl) rfl ?_;clear H;intro a H;refine gP IK (Li:=[_,_,_]++(bk++[])) (L:=gI b ms ml mr mb mu 0 :: (mb,fu []) :: []) (H.perm (og (l₁:=[_,_]) (l₂:=[_,_,_]++(bk++[])))) wn rfl (LW 4294967297 (by omega) _ _ _ d.iI.styles d.iI.lists d.revs b ms ml mr mb mu ⟨0,[]⟩ l _ (dx d.flow)[k].body (dx d.flow)[k].note (dx d.flow)[k].tables hck (Hp.owns (Li:=[_,_,_]++(bk++[])) (H.perm (og (l₁:=[_,_]) (l₂:=[_,_,_]++(bk++[])))).hp) hv (by omega) htb.1 htb.2 (by decide) (by dsimp only;omega)) rfl ?_;clear H;rintro v39 _ _ a w ⟨rfl,s3,rfl,rfl,h3⟩ - H;have H:=H.perm og;dsimp only [lca,aO] at H;rw [hQ] at h3 H;refine kH H (aM bW rfl (SR fun _ cK=>Rm rfl (Rc rfl (Kz cK (Cd rfl ?_ ?_))))) <;> clear H bW cK
  ·intro lu a H
   try have p41:=dT lu
   refine kP H (SR fun _ bS=>Rm rfl ?_);clear H;intro a H;refine bT gZ 4 (vs:=[_]) _ H wn rfl rfl rfl rfl rfl rfl rfl rfl ?_;clear H;intro w H;dsimp only [List.set,setRow] at H;refine bS _ _ ?_;clear bS;refine dG ?_;refine (LP ((sK d (dx d.flow)[k] l).1) _ _ _ _ _ (by exact H.dB (Pl:=[_,_,_,_,_]) (cB:=[_,_]) [2,4] (by decide) rfl) ?_).1 rfl;exact hE1 p41
  intro lu a H
  try have p41:=dF lu
  have hs3:s3=(sK d (dx d.flow)[k] l).2:=h3 (gu.1 p41);have hup:(0:Int)≤(sK d (dx d.flow)[k] l).2.n∧(sK d (dx d.flow)[k] l).2.n≤0+(bq l:Nat):=JV (aK (rW (gF d.flow)) d.iI.styles d.iI.lists d.revs) (dx d.flow)[k].body (dx d.flow)[k].note (dx d.flow)[k].tables l ⟨0,[]⟩;have hun:=Wi d.flow zX (dx d.flow).length (dw _);rw [Eo] at hun;subst hs3;refine fF ?_;refine bN _ _ ?_;clear bN;refine aN (fun _ dD=>?_);refine dI hmx [[],[0],[0,1],[0,1,2],[],[4],(ra 0 6),(ra 0 7),(ra 0 8),(ra 0 9)] [9] (by kernel_rfl) [_,_,_,vi (sK d (dx d.flow)[k] l).2.n,.agg D.cells.toArray,vi (kR (dx d.flow)),_,_,vi (bE (decide (16384 < (sK d (dx d.flow)[k] l).2.n+kR (dx d.flow))) 9)] H (aI (Z0 rfl (Rm rfl)) (Z1 0 43 rfl (Rk rfl)) (Z1 1 44 rfl (Rf Ey rfl)) (Z1 2 45 rfl (Ro aD 0 rfl)) (aI ?_ ?_ (Z2 3 46 5 48 rfl (Rd rfl)) (Z1 6 49 rfl (Rc rfl)) (bC ?_ (bC (cu rfl) dN)))) ?_
  ·refine BI rfl fun _ a w G1 hG HT H fin=>?_;refine bP lX (cs:=D.cells) H wn rfl rfl (fun j v hj=>H.hp.aG (aH hG (hga j v hj))) rfl ?_;clear H;intro a H;exact fin H iJ rfl
  ·refine eF 4 47 rfl rfl fun _ a w G1 hG HT H fin=>?_;refine s_call YA H wn rfl (acB _ _ H.ro D d.flow (hR.fl.mono hG) (by omega) (Wi d.flow zX)) rfl ?_;clear H;rintro v48 Qe a w rfl ahQ H;exact fin H ahQ (rfl)
  ·refine eF 7 50 rfl rfl fun _ a w G1 hG HT H fin=>?_;refine s_call jM H wn rfl (jO _ _ H.ro _ 9) rfl ?_;clear H;rintro v51 WQ a w ⟨rfl,-⟩ KY H;exact fin H KY (rfl)
  clear H;intro a w G NZ H hv;have H:=H.bg (hv 8 51 rfl rfl) rfl;clear hv;refine bT gZ 4 (vs:=[_]) _ H wn rfl rfl rfl rfl rfl rfl rfl rfl ?_;clear H;intro w H;dsimp only [List.set,setRow] at H;refine aJ ⟨rfl,?_⟩;refine dD _ _ ?_;clear dD;refine dG ?_;refine (LP (bE (decide (16384 < (sK d (dx d.flow)[k] l).2.n+kR (dx d.flow))) 9) _ _ _ _ _ (by exact H.dB (Pl:=[_,_,_,_,_]) (cB:=[_,_]) [2,4] (by decide) rfl) ?_).1 rfl;exact hE2 p41
 ·clear H;intro P7 gh Qh a w hm2 hI H;dsimp only [lca,aO] at H;refine K2 _ _ ?_;clear K2;refine dh (fun _ dO=>?_);refine bT gZ 1 (vs:=[_]) _ H wn rfl rfl rfl rfl rfl rfl rfl rfl ?_;clear H;intro w H;dsimp only [List.set,setRow] at H;refine dO _ _ ?_;clear dO;refine dG ?_;refine (xL H 0 rfl ?_).1;clear H;intro a w H;dsimp only [List.eraseIdx_cons_succ,List.eraseIdx_cons_zero] at H;refine (leave1 H results12 (.cons (zq gZ H rfl (H.hp.qN 0 rfl rfl)) .nil) ?_).1;exact H.rt (av vi (by unfold Bn;rw [RO (by simpa using hI)];rfl))
 clear H;intro P7 x Qh a w hm2 hI H;dsimp only [lca,aO] at H;subst hI;refine dG ?_;refine (xL H 0 rfl ?_).1;clear H;intro a w H;dsimp only [List.eraseIdx_cons_succ,List.eraseIdx_cons_zero] at H;refine (leave1 H results12 (.cons (zq gZ H rfl (H.hp.qN 0 rfl rfl)) .nil) ?_).1;exact H.rt rfl
end
section
open Go.RowKit
structure MN where
 code:Int
 id:Int
 name:ByteArray
 flow:Int
 at_:Int
def MN.dat (x:MN):List Dat:=[li x.code,li x.id,.lf (.string x.name),li x.flow,li x.at_]
abbrev MN.cells (x:MN):List aj:=[vi x.code,vi x.id,.string x.name,vi x.flow,vi x.at_]
end
section
open Go.RowKit
end
section
open Go.RowKit
abbrev hS (f:jl→Nat) (L:List jl):Nat:=(L.map f).sum
structure WW (g:GH) (v:aj) (R:List jl) (xs:List aj) (Lo:OL):Prop where
 row:gQ 29 5 v R.length xs Lo
 cat:ig g 5 (R.map jl.dat) xs
theorem ale (G:GH) (w0:World) (hG:Hold G w0) (D:jT) (l:List ay) (hv:aC G (.sl 11 (l.map ay.dat)) (bU D.f)) (hz:bq l≤1073741824) :
  Calls prog 15 #[D.val] w0 (bY w0 G fun u G'=>u=vi (kR (dx l))):=by
 have hml:maxLen=9223372036854775807:=rfl;have hbw:=Aw l
 have hbl:(dx l).length≤1073741825:=by
  have hn:=DY false 0 l;rw [dx,kW];omega
 refine eN [(0,_)] func15 rfl ntmps15 rfl rfl hG ?_;intro a H;refine dh (fun _ K1=>?_);refine fB (cs:=[_,_,_,_,_,_,_,_,_,_,_]) H wn rfl rfl rfl ?_;clear H;intro b1 a w hb1 H;refine kH H (ak K1 rfl (SR fun _ K2=>ak K2 rfl (SR fun _ K3=>?_)));clear H K1 K2;intro a H;refine bP lX (cs:=[_,_,_,_,_,_,_,_,_,_,_]) H wn rfl rfl (H.hp.gB 0 rfl rfl) rfl ?_;clear H;intro a H;refine s_call QX H wn rfl (RX _ _ H.ro D l hv (by omega)) rfl ?_;clear H;rintro v9 G9 a w LM Jh H;obtain ⟨A4,n4,c4,rfl⟩:=LM.form;have Uh:=LM.len;rw [bQ] at Uh;obtain rfl:n4=(lH l).length:=Uh;refine kH H (ak K3 rfl (SQ fun _ K4=>SR fun _ K5=>ak K5 rfl (SB ?_)));clear H K3 K5;intro a H;skip;refine eT (ι:=Nat) (Tc:=[(4,_)]) (Lc:=[(_,_)]) (fun gh=>[(3,vi (kR ((dx l).take gh))),(5,vi gh)]) (fun gh=>[]) (fun gh=>G9) (fun gh=>gh≤(lH l).length) (fun gh=>(lH l).length - gh) (0) (by exact (H).sub ⟨rfl,rfl,rfl,aB⟩) ?_ ?_
 ·exact gX _
 clear H;intro i a w hI H;have hi:=hI;dsimp only [lca,aO] at H;refine kP H (SQ fun _ K6=>SR fun _ K7=>Rm rfl (Rm rfl (Rl BD rfl (Rc rfl (Kz K7 (Cd rfl ?_ ?_)))))) <;> clear H K7
 ·intro gy a H
  try have pO:=dT gy
  have hi2:i < (lH l).length:=by omega
  have hi3:i < (dx l).length:=by omega
  obtain ⟨b,o,vv,rfl,hrow,hit⟩:=QD LM hi2;obtain ⟨-,e2⟩:=aea hi2;rw [e2] at hit;have Tw:=Wi l hz (i+1) (by omega);rw [MF hi3] at Tw;obtain ⟨qA,qn,qc,rfl⟩:=hit.form;refine kP H (Kc K6 (SQ fun _ K8=>SB (SR fun _ K9=>Rm rfl (Rm rfl (Ri BD DW rfl rfl (Rf KM rfl (Rg jJ rfl (hrow 1 _ rfl) ?_)))))));clear H K6;intro a H;refine s_call IL H wn rfl (Jt _ _ H.ro (dx l)[i].items _ hit (Nat.le_trans (RY (jv hi3)) (by omega))) rfl ?_;clear H;rintro v22 _ a w ⟨rfl,rfl⟩ - H;refine kH H (Rm rfl ?_);clear H;intro a H;(iterate 2 refine nA H wn rfl rfl rfl ?_;clear H;intro a H);refine kH H (Ra rfl (ak K9 rfl (SC (Rm rfl (Rm rfl (Rd rfl ?_))))));clear H K9;intro a H;rw [← MF hi3] at H;refine kH H (aM K8 rfl (SC (Rm rfl (Rd rfl (Ra rfl ?_)))));clear H K8;intro a H;refine aJ ?_;refine dH (i+1) (by exact (H).sub ⟨rfl,rfl,rfl,aB⟩) ?_ ?_
  ·omega
  first|omega|(dsimp only;omega)
 intro gy a H
 try have pO:=dF gy
 obtain rfl:i=(lH l).length:=by omega
 rw [hbw,Eo] at H;refine dR ?_;refine K4 _ _ ?_;clear K4;exact kP H (SR fun _ aV=>Rm rfl (ak aV rfl (LR results15 rfl fun H=>H.rt rfl)))
theorem WW.len {g:GH} {v:aj} {R S M:List jl} {xs:List aj} {Lo:OL} (_:WW g v R xs Lo) (h:R++S=M):R.length≤M.length:=by
 rw [← h,jP];omega
end
section
open Go.RowKit
theorem V6:qB ⟨#[97,98]⟩=true∧uL ⟨#[97,98]⟩ 0=2:=by
 have d0:oH ⟨#[97,98]⟩ 0=(97,1,true):=by decide
 have d1:oH ⟨#[97,98]⟩ 1=(98,1,true):=by decide
 have e2:uQ ⟨#[97,98]⟩ 2=-1:=by rw [uQ,dif_neg (by decide)]
 have e1:uQ ⟨#[97,98]⟩ 1=-1:=by rw [uQ,dif_pos (by decide),dif_pos (by rw [d1]),d1];exact e2
 have e0:uQ ⟨#[97,98]⟩ 0=-1:=by rw [uQ,dif_pos (by decide),dif_pos (by rw [d0]),d0];exact e1
 have c2:uL ⟨#[97,98]⟩ 2=0:=by rw [uL,ah (by decide)]
 have c1:uL ⟨#[97,98]⟩ 1=1:=by rw [uL,au (by decide),c2];decide
 have c0:uL ⟨#[97,98]⟩ 0=2:=by rw [uL,au (by decide),c1];decide
 exact ⟨by unfold qB;rw [e0];decide,c0⟩
abbrev hd0:jl:=⟨[],⟨0,0,[],[]⟩⟩
def mg:ay:=.mk 1 0 0 ⟨#[97,98]⟩ hd0 [] []
theorem uA:gD mg=2∧Al mg=0:=by simp [gD,Al,mg,ay.kind,ay.text,xu,JW,V6.1,V6.2]
theorem Jc {G:GH}:qC G hd0 (.slice none 0 0) (.slice none 0 0) (.slice none 0 0):=⟨aC.lD rfl (by decide),aC.lD rfl (by decide),aC.lD rfl (by decide)⟩
end
section
open Go.RowKit
def yg:bD:=.mk 5 hd0 [mg]
def yh:bD:=.mk 4 hd0 []
def wV:bH:=.mk hd0 [yg,yh]
def kS:ay:=.mk 7 0 3 ⟨#[]⟩ hd0 [] [wV]
def yj:qR:=⟨[kS],hd0,[],⟨[],[],[],[]⟩⟩
theorem aoj:qB ⟨#[]⟩=true:=by
 have e0:uQ ⟨#[]⟩ 0=-1:=by rw [uQ,dif_neg (by decide)]
 unfold qB;rw [e0];decide
theorem apa:jX ⟨[],[],[],[]⟩=0:=by simp [jX,bK,gH,tL,vT,tC,zN,bE,iC]
theorem aoZ:xq []=0:=by simp [xq,bK,bE,iC]
theorem JX (C:dL) {e:Int} (h1:1≤e) (h2:e≤10):fK C e hd0=0:=by
 have h3:iO e []=0:=by rw [iO,ah (by omega)];rfl
 simp [fK,bK,hd0,h3,xR,fU,iC,bE]
theorem xFa:jw mg=0:=by
 simp [jw,mg,ay.kind,ay.code,ay.id,ay.text,ay.flow,ay.rows,codeOk,vZ,AA,zk,zC,Ad,pE,V6.1]
theorem xFt:jw kS=0:=by
 simp [jw,kS,ay.kind,ay.code,ay.id,ay.text,ay.flow,ay.rows,codeOk,vZ,AA,zk,zC,Ad,pE,aoj]
theorem aoX:fq yj.mJ true false 0 [kS] ⟨0,[]⟩=(0,⟨3,[3,5,4]⟩):=by
 obtain ⟨C,hC⟩:∃ C,C=yj.mJ:=⟨_,rfl⟩;rw [← hC]
 have SA:C.us=[]:=by rw [hC]
 have hA:∀ s:CS,fq C false false 1 [mg] s=(0,⟨s.n+2,s.aU⟩):=fun s=>by
  have e1:jo C false false 1 mg.kind mg.id ⟨s.n+(gD mg:Nat),s.aU⟩=(0,⟨s.n+2,s.aU⟩):=by rw [uA.1];rfl
  have e2:fK C mg.kind mg.head=0:=JX C (by decide) (by decide)
  simp [fq,LV,fG,xFa,e1,e2,show ¬ mg.kind=6 by decide,show ¬ mg.kind=7 by decide]
 have e2:jo C true false 0 7 kS.id ⟨((gD kS:Nat):Int),[]⟩=(0,⟨1,[3]⟩):=by unfold jo iK;rw [SA];rfl
 have e3:fK C 7 kS.head=0:=JX C (by decide) (by decide);have e4:fK C 9 wV.head=0:=JX C (by decide) (by decide);have e5:fK C 10 yg.head=0:=JX C (by decide) (by decide);have e6:fK C 10 yh.head=0:=JX C (by decide) (by decide)
 have e7:iK C ⟨1,[3]⟩ yg.id=(0,⟨1,[3,5]⟩):=by unfold iK;rw [SA];rfl
 have e8:iK C ⟨3,[3,5]⟩ yh.id=(0,⟨3,[3,5,4]⟩):=by unfold iK;rw [SA];rfl
 have f1:kS.rows=[wV]:=rfl;have f2:wV.cells=[yg,yh]:=rfl;have f3:yg.flow=[mg]:=rfl;have f4:yh.flow=[]:=rfl
 simp [fq,LV,fG,xFt,e2,e3,show ¬ kS.kind=6 by decide,show kS.kind=7 by decide,f1,jS,fH,H8,rV,e4,bK,bE,f2,kE,zL,e5,e6,e7,e8,f3,f4,hA]
theorem aoW:jk yj=0:=by
 have h1:fK yj.mJ 3 yj.fin=0:=JX _ (by decide) (by decide);have h2:jX yj.iI=0:=apa;have h3:xq yj.revs=0:=aoZ;have h4:fq yj.mJ true false 0 yj.flow ⟨0,[]⟩=(0,⟨3,[3,5,4]⟩):=aoX
 have h5:rR yj.fin.marks=false:=by decide
 simp [jk,h1,h2,h3,h4,h5,bK,bE]
theorem Ws:dx [kS]=[⟨0,[kS],true,false,0⟩,⟨5,[mg],false,false,1⟩,⟨4,[],false,false,1⟩]:=by
 simp [dx,iT,acQ,kS,ay.kind,ay.rows,mF,acR,wV,bH.cells,mR,acN,yg,yh,bD.id,bD.flow,mg]
theorem aoY:Cw [kS] 4=some (0,0):=by
 have h1:fM 5 0 [mg]=[]:=by simp [fM,JA,mg,ay.kind]
 have h2:fM 4 0 []=[]:=by simp [fM]
 simp [Cw,fM,JA,kS,ay.kind,kJ,wV,yg,yh,bH.cells,jN,abm,bD.id,bD.flow,h1,h2,Js,ay.id,ay.rows,OI]
theorem Wt:gF [kS]=[3,5,4]:=by
 simp [gF,aau,kS,ay.kind,ay.id,ay.rows,ay.flow,wH,aav,wV,bH.cells,xK,aat,yg,yh,bD.id,bD.flow,mg]
theorem adf:∀ k,kR ((dx [kS]).take k)=if k=0 then 0 else if k=1 then 1 else 3:=by
 have l1:oQ [kS]=1:=by simp [oQ,xA,uh,gD,Al,kS,ay.kind]
 have l2:oQ [mg]=2:=by simp [oQ,xA,uh,uA.1,uA.2]
 have l3:oQ []=0:=rfl;intro k;rw [Ws]
 match k with
 | 0=>rfl
 | 1=>simp [kR,l1]
 | 2=>simp [kR,l1,l2]
 | n+3=>simp [kR,l1,l2,l3]
end
section
open Go.RowKit
theorem abY:sU prog 68 [(0,1),(1,1),(2,1),(3,1),(4,5),(9,1),(10,1)] [.int .i64 0,.int .i64 0,.int .i64 0,.string ⟨#[]⟩,.slice none 0 0,.int .i64 0,.int .i64 0,.slice none 0 0,.slice none 0 0,.slice none 0 0,.slice none 0 0]:=⟨by kernel_rfl,by kernel_rfl⟩
theorem anL:sU prog 38 [(0,1),(1,5),(6,1),(7,4)] [.slice none 0 0,.slice none 0 0,.int .i64 0,.int .i64 0,.slice none 0 0,.slice none 0 0,.slice none 0 0,.slice none 0 0,.slice none 0 0,.slice none 0 0,.slice none 0 0]:=⟨by kernel_rfl,by kernel_rfl⟩
theorem agC:∀ args w,(callFunc 36 args).run prog w=.ok (.enter 36 args) w:=enters func36 rfl (by kernel_rfl)
theorem agB:∀ args w,(callFunc 28 args).run prog w=.ok (.enter 28 args) w:=enters func28 rfl (by kernel_rfl)
theorem agD:∀ args w,(callFunc 37 args).run prog w=.ok (.enter 37 args) w:=enters func37 rfl (by kernel_rfl)
theorem agA:∀ args w,(callFunc 27 args).run prog w=.ok (.enter 27 args) w:=enters func27 rfl (by kernel_rfl)
theorem agU:WG prog 48 [0,1]:=⟨by kernel_rfl,by kernel_rfl,by kernel_rfl,by kernel_rfl,by kernel_rfl⟩
theorem agj:∀ args w,(callFunc 20 args).run prog w=.ok (.enter 20 args) w:=enters func20 rfl (by kernel_rfl)
theorem als {G:GH}:CW G ⟨[],[],[],[]⟩ (.slice none 0 0) (.slice none 0 0) (.slice none 0 0) (.slice none 0 0):=⟨aC.lD rfl (by decide),aC.lD rfl (by decide),aC.lD rfl (by decide),aC.lD rfl (by decide)⟩
theorem agY (G:GH) (w0:World) (hG:Hold G w0) :
  Calls prog 36 #[] w0 (bY w0 G fun u G'=>∃ D:jT,u=D.val∧BF G' D yj):=by
 refine eN [] func36 rfl ntmps36 rfl rfl hG ?_;intro a H;refine dh (fun _ K1=>?_);refine eH lX H wn rfl ?_;clear H;intro b0 a w hb0 H;refine K1 _ _ ?_;clear K1;refine dh (fun _ K2=>?_);refine lJ abY [_,_,_,_,_,_,_,_,_,_,_] H wn rfl rfl rfl rfl ?_;clear H;intro a H;refine jy kr fC [_,_,_,_,_,_,_,_,_,_,_] [_,_,_,_,_,_,_,_,_,_,_] H wn rfl rfl rfl rfl rfl (by intro i q h;match i,h with|0,h=>exact h|n+1,h=>simp at h) rfl rfl ?_;clear H;intro b3 a w hb3 H;refine kH H (ak K2 rfl (SR fun _ K3=>Rm rfl ?_));clear H K2;intro a H;(iterate 2 refine lJ abU [_,_,_,_,_,_,_] H wn rfl rfl rfl rfl ?_;clear H;intro a H);refine jy mE kg [_,_,_,_,_,_,_,_,_,_,_,_,_,_] [_,_,_,_,_,_,_,_,_,_,_,_,_,_] H wn rfl rfl rfl rfl rfl (by intro i q h;match i,h with|0,h=>exact h|1,h=>exact h|n+2,h=>simp at h) rfl rfl ?_;clear H;intro b7 a w zT H;refine lJ anJ [_,_,_,_,_,_] H wn rfl rfl rfl rfl ?_;clear H;intro a H;refine jy ku kQ [_,_,_,_,_,_] [_,_,_,_,_,_] H wn rfl rfl rfl rfl rfl (by intro i q h;match i,h with|0,h=>exact h|n+1,h=>simp at h) rfl rfl ?_;clear H;intro b9 a w wD H;refine lJ abY [_,_,_,_,_,_,_,_,_,_,_] H wn rfl rfl rfl rfl ?_;clear H;intro a H;refine jy kr fC [_,_,_,_,_,_,_,_,_,_,_] [_,_,_,_,_,_,_,_,_,_,_] H wn rfl rfl rfl rfl rfl (by intro i q h;match i,h with|0,h=>exact h|n+1,h=>simp at h) rfl rfl ?_;clear H;intro b11 a w Gw H;refine lJ anL [_,_,_,_,_,_,_,_,_,_,_] H wn rfl rfl rfl rfl ?_;clear H;intro a H;refine bT lX 4 (vs:=[_,_,_,_,_,_,_,_,_,_,_]) _ H wn rfl rfl rfl rfl rfl rfl rfl rfl ?_;clear H;intro w H;dsimp only [List.set,setRow] at H;refine K3 _ _ ?_;clear K3;refine dG ?_;refine (leave1 H results36 (.cons (Mk lX (cs:=[_,_,_,_,_,_,_,_,_,_,_]) H rfl rfl (H.hp.gB 4 rfl rfl)) .nil) ?_).1;have H:=H.dB (Pl:=[_,_,_,_,_]) (cB:=[_,_,_,_]) [3,2,1,0] (by decide) rfl;obtain ⟨G3,qM,hr3,H⟩:=H.NT (sz:=11) (d:=mg.dat) rfl (bJ.mkItem (x:=mg) Jc (aC.lD (A:=none) (n:=0) (c:=0) rfl (by decide)) (aC.lD (A:=none) (n:=0) (c:=0) rfl (by decide)));obtain ⟨G7,xI,zT,H⟩:=H.dW;have rA:bJ G7 yg.dat _:=bJ.O1 (x:=yg) Jc (hr3.mono xI);have rB:bJ G7 yh.dat _:=bJ.O1 (x:=yh) Jc (aC.lD (A:=none) (n:=0) (c:=0) rfl (by decide));have rO:ig G7 7 (wV.cells.map bD.dat) _:=(ig.nil.snoc rA rfl).snoc rB rfl;have Uw:aC G7 (.sl 7 (wV.cells.map bD.dat)) (.slice (some ⟨b7,0,none⟩) 2 2):=aC.eZ (n:=2) (cap:=2) zT rfl (dw _) (show 2≤maxLen by decide) rfl rO;obtain ⟨G9,Jh,LM,H⟩:=H.NT (sz:=6) (d:=wV.dat) rfl (bJ.aaY (x:=wV) Jc Uw);obtain ⟨zG,GK,ajv,H⟩:=H.NT (sz:=11) (d:=kS.dat) rfl (bJ.mkItem (x:=kS) Jc (aC.lD (A:=none) (n:=0) (c:=0) rfl (by decide)) LM);exact H.rt ⟨⟨(some ⟨b11,0,none⟩,1,1),(none,0,0),(none,0,0),(none,0,0),(none,0,0),(none,0,0),(none,0,0),(none,0,0),(none,0,0),0,0⟩,rfl,⟨ajv,Jc,rfl,rfl,aC.lD (c:=0) rfl (show 0≤maxLen by decide),als⟩⟩
theorem xZt:cO kS.dat≤100:=by
 have h1:=oW kS;have h2:=uD wV;have h3:=uz yg;have h4:=uz yh;have h5:=oW mg
 have h0:oV hd0=5:=by simp [CK,dZ]
 have g1:kS.head=hd0:=rfl;have g2:wV.head=hd0:=rfl;have g3:yg.head=hd0:=rfl;have g4:yh.head=hd0:=rfl;have g5:mg.head=hd0:=rfl;have s1:kS.text.size=0:=rfl;have s5:mg.text.size=2:=rfl;have f1:bq kS.flow=0:=rfl;have f5:bq mg.flow=0:=rfl;have f3:bq yg.flow=1+cO mg.dat:=rfl;have f4:bq yh.flow=0:=rfl;have r1:eD kS.rows=1+cO wV.dat:=rfl;have r5:eD mg.rows=0:=rfl;have c2:iw wV.cells=1+cO yg.dat+(1+cO yh.dat):=rfl;rw [g1,h0] at h1;rw [g2,h0] at h2;rw [g3,h0] at h3;rw [g4,h0] at h4;rw [g5,h0] at h5
 omega
theorem xZ:Fw yj:=by
 have h0:oV hd0=5:=by simp [CK,dZ]
 have h1:bq yj.flow=1+cO kS.dat:=rfl;have h2:=xZt;exact ⟨by omega,by show oV hd0≤_;omega,by decide,(fun x h=>by cases h),by decide,⟨(fun x h=>by cases h),by decide,(fun x h=>by cases h),by decide,(fun x h=>by cases h),by decide,(fun x h=>by cases h),(fun x h=>by cases h),(fun x h=>by cases h)⟩⟩
theorem OO (G:GH) (w0:World) (hG:Hold G w0):Calls prog 8 #[] w0 (bY w0 G fun u G'=>u=.bool true):=by
 have hz:bq [kS]≤4294967296:=Nat.le_trans xZ.fl (by decide);refine eN [] func8 rfl ntmps8 rfl rfl hG ?_;intro a H;refine kP H (SR fun _ K1=>ak K1 rfl (SR fun _ K2=>?_));clear H K1;intro a H;refine s_call agC H wn rfl (agY _ _ H.ro) rfl ?_;clear H;rintro v5 G5 a w ⟨D,rfl,hR⟩ ZR H;refine eH lX H wn rfl ?_;clear H;intro b1 a w hb1 H;refine bT lX 0 (vs:=[_,_,_,_,_,_,_,_,_,_,_]) _ H wn rfl rfl rfl rfl rfl rfl rfl rfl ?_;clear H;intro w H;dsimp only [List.set,setRow] at H;refine K2 _ _ ?_;clear K2;refine dh (fun _ K3=>?_);refine bP lX (cs:=[_,_,_,_,_,_,_,_,_,_,_]) H wn rfl rfl (H.hp.gB 0 rfl rfl) rfl ?_;clear H;intro a H;refine s_call agB H wn rfl (afh _ _ H.ro D [kS] hR.fl hz) rfl ?_;clear H;rintro v7 G7 a w hfl xI H;replace hR:=hR.mono xI;rw [Ws] at hfl;obtain ⟨vA,vn,vc,rfl⟩:=hfl.form;obtain rfl:vn=3:=hfl.len;obtain ⟨b,o,cs,rfl,hcl,ajz,hr⟩:=hfl.at_ 1 [li 5] rfl;obtain ⟨_,_,rfl,⟨rfl,-⟩,rfl⟩:∃ v vs,cs=v :: vs∧aC G7 (li 5) v∧vs=[]:=hr;obtain ⟨b',o',cs,he,hcl,hrow2,hr⟩:=hfl.at_ 2 [li 4] rfl;obtain ⟨_,_,rfl,⟨rfl,-⟩,rfl⟩:∃ v vs,cs=v :: vs∧aC G7 (li 4) v∧vs=[]:=hr
 injection he with he
 injection he with e1 e2
 subst e1;subst e2;have c1:aG G7 b (o+1*1)=some (vi 5):=ajz 0 _ rfl;have c2:aG G7 b (o+2*1)=some (vi 4):=hrow2 0 _ rfl;refine kH H (ak K3 rfl (SR fun _ K4=>?_));clear H K3;intro a H;refine bP lX (cs:=[_,_,_,_,_,_,_,_,_,_,_]) H wn rfl rfl (H.hp.gB 0 rfl rfl) rfl ?_;clear H;intro a H;refine s_call agD H wn rfl (alV _ _ H.ro D [kS] 4 hR.fl hz) rfl ?_;clear H;rintro v10 WH a w rfl Oi H;replace hR:=hR.mono Oi;replace c1:=aH Oi c1;replace c2:=aH Oi c2;rw [aoY] at H;dsimp only [Option.getD,Option.isSome] at H;refine kH H (Rm rfl ?_);clear H;intro a H;(iterate 2 refine nA H wn rfl rfl rfl ?_;clear H;intro a H);refine eH ko H wn rfl ?_;clear H;intro b3 a w hb3 H;refine bT ko 0 (vs:=[_,_]) _ H wn rfl rfl rfl rfl rfl rfl rfl rfl ?_;clear H;intro w H;dsimp only [List.set,setRow] at H;refine kH H (ak K4 rfl (SR fun _ K5=>?_));clear H K4;intro a H;refine bP lX (cs:=[_,_,_,_,_,_,_,_,_,_,_]) H wn rfl rfl (H.hp.gB 1 rfl rfl) rfl ?_;clear H;intro a H;refine s_call agA H wn rfl (aeM _ _ H.ro D yj hR xZ) rfl ?_;clear H;rintro v14 MR a w rfl Bc H;replace hR:=hR.mono Bc;replace c1:=aH Bc c1;replace c2:=aH Bc c2;rw [aoW] at H;refine kH H (Rc rfl (Rm rfl (Sp 16 rfl ?_ ?_))) <;> clear H
 ·intro h16 a H
  try have p16:=dT h16
  refine kH H (YM h16 rfl (YL lT h16 rfl (YC h16 rfl (Pt h16 rfl (Rm rfl (Sp 21 rfl ?_ ?_)))))) <;> clear H
  ·intro h21 a H
   try have nX:=dT h21
   refine kH H (YM h21 rfl ?_);clear H;intro a H;refine Pv lT aD 1 H (wg H rfl rfl h21) rfl rfl rfl (by omega) rfl ?_;clear H;intro a H;refine kH H (YR aD h21 rfl c1 (YC h21 rfl (Pt h21 rfl (Rm rfl (Sp 27 rfl ?_ ?_))))) <;> clear H
   ·intro h27 a H
    try have p27:=dT h27
    refine kH H (YM h27 rfl ?_);clear H;intro a H;refine Pv lT aD 2 H (wg H rfl rfl h27) rfl rfl rfl (by omega) rfl ?_;clear H;intro a H;refine kH H (YR aD h27 rfl c2 (YC h27 rfl (Pt h27 rfl (Rm rfl (Sp 33 rfl ?_ ?_))))) <;> clear H
    ·intro oL a H
     refine kH H (YM oL rfl (Pt oL rfl (Rm rfl (Sp 36 rfl ?_ ?_)))) <;> clear H
     ·intro I4 a H
      refine bP ko (cs:=[_,_]) H (wg H rfl rfl I4) rfl rfl (H.hp.gB 0 rfl rfl) rfl ?_;clear H;intro a H;refine lJ JJ [_,_] H (wg H rfl rfl I4) rfl rfl rfl rfl ?_;clear H;intro a H;refine amO agU H (wg H rfl rfl I4) rfl rfl rfl rfl ?_;clear H;intro a H;refine kH H (Pt I4 rfl (Rm rfl (Sp 41 rfl ?_ ?_))) <;> clear H
      ·intro lu a H
       refine bP lX (cs:=[_,_,_,_,_,_,_,_,_,_,_]) H (wg H rfl rfl lu) rfl rfl (H.hp.gB 1 rfl rfl) rfl ?_;clear H;intro a H;refine s_call agj H (wg H rfl rfl lu) rfl (ahz _ _ H.ro D [kS] hR.fl hz (by rw [Wt];decide) (by rw [Wt];decide)) rfl ?_;clear H;rintro v43 Ap a w rfl nu H;replace hR:=hR.mono nu;rw [Wt] at H;refine kH H (YC lu rfl (Pt lu rfl (Rm rfl (Sp 46 rfl ?_ ?_)))) <;> clear H
       ·intro h46 a H
        refine bP lX (cs:=[_,_,_,_,_,_,_,_,_,_,_]) H (wg H rfl rfl h46) rfl rfl (H.hp.gB 1 rfl rfl) rfl ?_;clear H;intro a H
        refine s_call YA H (wg H rfl rfl h46) rfl (acB _ _ H.ro D [kS] hR.fl hz (fun k _=>by rw [adf];(repeat' split) <;> decide)) rfl ?_;clear H
        rintro v48 Qe a w rfl Ol H;rw [show kR (dx [kS])=3 by have:=adf 3;rw [lZ (by rw [Ws];decide)] at this;exact this] at H;exact kH H (YC h46 rfl (Pt h46 rfl (ak K5 rfl (LR results8 rfl fun H=>H.rt rfl))))
       intro h46 a H
       exact absurd h46 (by decide)
      intro lu a H
      exact absurd lu (by decide)
     intro I4 a H
     exact absurd I4 (by decide)
    intro oL a H
    exact absurd oL (by decide)
   intro h27 a H
   exact absurd h27 (by decide)
  intro h21 a H
  exact absurd h21 (by decide)
 intro h16 a H
 exact absurd h16 (by decide)
end
section
open Go.RowKit
theorem YS:∀ args w,(callFunc 71 args).run prog w=.ok (.enter 71 args) w:=enters func71 rfl (by kernel_rfl)
theorem ahi:dJ prog 56 2 12:=⟨by kernel_rfl⟩
theorem RH:dJ prog 56 1 11:=⟨by kernel_rfl⟩
variable {uo:aj}
def vG (v:aj) (aU:List Int) (L L0:OL):Prop:=∃ Lo,L=L0++Lo∧gQ 3 1 v aU.length (aU.map vi) Lo
theorem aic (G:GH) (Lo:OL) (w0:World) (l:List Int) (v:aj) (hr:gQ 3 1 v l.length (l.map vi) Lo) (hO:ji G Lo w0) (x:Int) :
  Calls prog 71 #[v,vi x] w0 (iM w0 G Lo fun u G' L'=>G=G'∧L'=Lo∧u=.bool (decide (x∈l))):=by
 rcases hr.2 with ⟨rfl,hn,rfl⟩|⟨b,cap,cur,rfl,rfl,h1,h2,h3,h4⟩
 ·obtain rfl:l=[]:=List.length_eq_zero_iff.1 hn;refine (Tp G w0 hO.ro [] _ (aC.lD rfl (by decide)) x).mono fun _ _ h=>?_;obtain ⟨u,G',L',rfl,hc,rfl,rfl,rfl⟩:=Hp.amv hO.ro h;exact ⟨_,_,_,rfl,hc,rfl,rfl,rfl⟩
 have hm:=GH.FT G (o:=.cells cur 3 (0,0)) (hO.sep _ jB);exact (Tp (G.add b (.cells cur 3 (0,0))) w0 hO.add l _ (aC.eZ (GH.FU _ _ _) (by simp) h1 h2 h4 (fQ _ l)) x).mono fun _ _=>VD (b:=b) (R':=fun u=>u=.bool (decide (x∈l))) hO fun _ _ h=>h.1
theorem aaV (C:dL) (G:GH) (L L0:OL) (w0:World) (D:jT) (b:Nat) (v:aj) (s:CS) (x:Int) (hi:vG v s.aU L L0) (hO:ji G (iP uo D b v s.n :: L) w0) (ho:aC G (.sl 1 (C.us.map fun k=>[li k])) uo) (hn:s.aU.length < 1099511627776) :
  Calls prog 54 #[(aQ b 0),vi x] w0 (iM w0 G (iP uo D b v s.n :: L) fun u G' L'=>G=G'∧∃ v' L1,u=vi (iK C s x).1∧L'=iP uo D b v' s.n :: L1∧vG v' (iK C s x).2.aU L1 L0):=by
 obtain ⟨Lo,rfl,hr⟩:=hi;obtain ⟨vA,vc,rfl,-,-⟩:=hr.shape;obtain ⟨oA,on,oc,rfl⟩:=ho.form;obtain ⟨n,aU⟩:=s;dsimp only at hr hO hn ⊢;have hml:maxLen=9223372036854775807:=rfl;refine lq (N:=37) (T:=[(0,_),(1,_)]) func54 rfl ntmps54 rfl rfl hO ?_;intro a H;refine kP H (SR fun _ K1=>ak K1 rfl (SQ fun _ K2=>SB (SR fun _ K3=>Rm rfl (Rc rfl (Rm rfl (Sp 8 rfl ?_ ?_)))))) <;> clear H K1
 ·intro h8 a H
  try have p8:=dT h8
  refine kH H (aS h8 rfl (Pt h8 rfl (Rm rfl (aZ rfl rfl (aZ rfl rfl (Pt rfl rfl (ak K3 rfl (Ct rfl rfl (SR fun _ K4=>ak K4 rfl ?_)))))))));clear H K3 K4;intro a H;refine lr H results54 rfl ?_
  have e:mh C.us aU x=18:=by rw [mh,au (by omega)]
  exact H.hp.fO ⟨rfl,_,_,av vi e.symm,rfl,by show vG _ (jm C.us aU x) _ _;rw [jm,ah (by rw [e];decide)];exact ⟨Lo,rfl,hr⟩⟩
 intro h8 a H
 try have p8:=dF h8
 refine kH H (YM h8 rfl (YC h8 rfl (Pf h8 rfl (Rm rfl (Sp 12 rfl ?_ ?_))))) <;> clear H
 ·intro h12 a H
  try have pK:=dT h12
  refine kH H (aZ h12 rfl (aZ h12 rfl (Pt h12 rfl (ak K3 rfl (Ct rfl rfl (SR fun _ K5=>ak K5 rfl ?_))))));clear H K3 K5;intro a H;refine lr H results54 rfl ?_
  have e:mh C.us aU x=18:=by rw [mh,au (by omega)]
  exact H.hp.fO ⟨rfl,_,_,av vi e.symm,rfl,by show vG _ (jm C.us aU x) _ _;rw [jm,ah (by rw [e];decide)];exact ⟨Lo,rfl,hr⟩⟩
 intro h12 a H
 try have pK:=dF h12
 refine kH H (YM h12 rfl ?_);clear H;intro a H;refine sO H (wg H rfl rfl h12) rfl rfl ?_;clear H;intro a H;refine kH H (YF ahi h12 rfl (YO wQ 0 h12 rfl (YM h12 rfl ?_)));clear H;intro a H;refine s_call YS H (wg H rfl rfl h12) rfl (Tp _ _ H.ro C.us _ ho x) rfl ?_;clear H;rintro v18 _ a w ⟨rfl,rfl⟩ - H;refine kH H (Pf h12 rfl (ak K3 rfl (Cd rfl ?_ ?_))) <;> clear H K3
 ·intro h5 a H
  try have p5:=dT h5
  refine kP H (SR fun _ K6=>ak K6 rfl ?_);clear H K6;intro a H;refine lr H results54 rfl ?_
  have e:mh C.us aU x=18:=by rw [mh,au (by first|exact .inr p5|exact .inr (oD h5))]
  exact H.hp.fO ⟨rfl,_,_,av vi e.symm,rfl,by show vG _ (jm C.us aU x) _ _;rw [jm,ah (by rw [e];decide)];exact ⟨Lo,rfl,hr⟩⟩
 intro h5 a H
 try have p5:=dF h5
 refine kP H (SR fun _ K7=>Rm rfl (Rk rfl (aT RH wQ 0 rfl rfl (Rm rfl ?_))));clear H;intro a H;refine gP YS (Li:=_ :: L0) (L:=Lo) H wn rfl (aic _ _ _ aU _ hr (Hp.owns (Li:=_ :: L0) H.hp) x) rfl ?_;clear H;rintro v26 _ Lo a w ⟨rfl,rfl,rfl⟩ - H;refine kH H (ak K7 rfl (Cd rfl ?_ ?_)) <;> clear H K7
 ·intro h20 a H
  try have qw:=dT h20
  refine kP H (SR fun _ K8=>ak K8 rfl ?_);clear H K8;intro a H;refine lr H results54 rfl ?_
  have e:mh C.us aU x=7:=by rw [mh,ah (by first|omega|(simp_all;done)|(simp_all;omega)),au qw]
  exact H.hp.fO ⟨rfl,_,_,av vi e.symm,rfl,by show vG _ (jm C.us aU x) _ _;rw [jm,ah (by rw [e];decide)];exact ⟨Lo,rfl,hr⟩⟩
 intro h20 a H
 try have qw:=dF h20
 refine kP H (Kc K2 (SR fun _ K9=>Rm rfl (Rm rfl (Rk rfl (aT RH wQ 0 rfl rfl (Rm rfl ?_))))));clear H K2;intro a H;refine jy lT aD [_] [_] H wn rfl rfl rfl rfl rfl (by intro i q h;match i,h with|0,h=>exact h|n+1,h=>simp at h) rfl rfl ?_;clear H;intro b33 a w apE H;refine E8 (Li:=_ :: _ :: L0) (Lo:=Lo) (news:=[vi x]) lT aD rfl rfl H wn rfl rfl hr rfl (H.hp.gB 0 rfl rfl) rfl (by omega) (by omega) rfl ?_;clear H;intro v34 Xv a w aaf H;obtain ⟨A34,c34,rfl,-,-⟩:=aaf.shape;refine kH H (Rk rfl (Rf RH rfl ?_));clear H;intro a H;refine bT wQ 1 (vs:=[_]) _ H wn rfl rfl rfl rfl rfl rfl rfl rfl ?_;clear H;intro w H;dsimp only [List.set,setRow] at H;refine K9 _ _ ?_;clear K9;refine kP H (SR fun _ aV=>ak aV rfl ?_);clear H aV;intro a H;refine lr H results54 rfl ?_
 have e:mh C.us aU x=0:=by rw [mh,ah (by first|omega|(simp_all;done)|(simp_all;omega)),ah qw]
 exact H.hp.bR (L':=iP _ D b _ n :: (L0++Xv)) (by repeat (first|exact bZ _|apply List.Sublist.cons|apply List.Sublist.cons₂)) ⟨rfl,_,_,av vi e.symm,rfl,by show vG _ (jm C.us aU x) _ _;rw [jm,au e];exact ⟨Xv,rfl,by simpa using aaf⟩⟩
end
end Go.Proofs.YthmanofbmnfemaaGreat
