/-
  What the claim stands on, part 2: Doc Dq Eq Idx Bld Hv Ut Prk Prp Plc Plr Prq Prc Fst Nam Pn De Dj Mp Dk Dw Lsc Dm Dl Lfl Dv.
-/
import Derived.Test.YthmanofbmnfemaaGreatWba
import Derived.Laws.StructEq
import Derived.ChangeKeysEq
import Derived.Lib.OthersKept
import Derived.Laws.IdiomStrings
import Derived.Laws.Cover4
import Derived.Laws.Slices
import Derived.Laws.Strings2
import Derived.MapKept
namespace Go.Proofs.YthmanofbmnfemaaGreat
open Go.Proofs.Tryz
section
open Go.RowKit
theorem QZ:∀ args w,(callFunc 161 args).run prog w=.ok (.enter 161 args) w:=enters func161 rfl (by kernel_rfl)
theorem Mv:Ty prog 90 3 16 [.bool false,.bool false,.int .i64 0] true:=⟨by kernel_rfl,by kernel_rfl⟩
theorem anM:sU prog 92 [(0,1),(1,3)] [.slice none 0 0,.bool false,.bool false,.int .i64 0]:=⟨by kernel_rfl,by kernel_rfl⟩
theorem uN:dJ prog 68 2 2:=⟨by kernel_rfl⟩
theorem KP:dJ prog 90 2 2:=⟨by kernel_rfl⟩
theorem Fb:sU prog 90 [(0,1),(1,1),(2,1)] [.bool false,.bool false,.int .i64 0]:=⟨by kernel_rfl,by kernel_rfl⟩
theorem RJ:dJ prog 90 1 1:=⟨by kernel_rfl⟩
theorem qQ:Ty prog 4 1 1 [.bool false] false:=⟨by kernel_rfl,by kernel_rfl⟩
theorem BZ:dJ prog 38 0 0:=⟨by kernel_rfl⟩
theorem afl:∀ args w,(callFunc 100 args).run prog w=.ok (.enter 100 args) w:=enters func100 rfl (by kernel_rfl)
theorem Nw:∀ args w,(callFunc 160 args).run prog w=.ok (.enter 160 args) w:=enters func160 rfl (by kernel_rfl)
structure jh where
 id:Int
 items:List ay
 body:Bool
 note:Bool
 tables:Int
mutual
def uw (note:Bool) (t:Int):ay→List jh
 | .mk k _ i _ _ f r=>if k=6 then ⟨i,f,false,true,t⟩ :: iT true t f else if k=7 then mF note t r else []
def iT (note:Bool) (t:Int):List ay→List jh
 | []=>[]
 | x :: l=>uw note t x++iT note t l
def mF (note:Bool) (t:Int):List bH→List jh
 | []=>[]
 | r :: l=>uy note t r++mF note t l
def uy (note:Bool) (t:Int):bH→List jh
 | .mk _ cs=>mR note t cs
def mR (note:Bool) (t:Int):List bD→List jh
 | []=>[]
 | c :: l=>uq note t c++mR note t l
def uq (note:Bool) (t:Int):bD→List jh
 | .mk i _ f=>⟨i,f,false,note,t+1⟩ :: iT note (t+1) f
end
theorem acQ (note:Bool) (t:Int) (x:ay):uw note t x=if x.kind=6 then ⟨x.id,x.flow,false,true,t⟩ :: iT true t x.flow else if x.kind=7 then mF note t x.rows else []:=by cases x;rw [uw];rfl
theorem acR (note:Bool) (t:Int) (x:bH):uy note t x=mR note t x.cells:=by cases x;rw [uy];rfl
theorem acN (note:Bool) (t:Int) (x:bD):uq note t x=⟨x.id,x.flow,false,note,t+1⟩ :: iT note (t+1) x.flow:=by cases x;rw [uq];rfl
def Dj (a:jh):AP:=fun args g=>∃ v,args=[vi a.id,.agg #[v,.bool a.body,.bool a.note,vi a.tables]]∧aC g (.sl 11 (a.items.map ay.dat)) v
def Qy (n:Nat):Prop:=∀ (fv:aj) (Gi:GH) (xs:List AP) (J:Nat→GH→OL→Prop) (Jx:GH→OL→Prop) (G:GH) (L:OL) (w0:World) (j:Nat) (l:List ay) (id:Int) (body note:Bool) (t:Int) (v:aj),
 (∀ b o,Gi b=some o→G b=some o)→DZ prog fv Gi xs J Jx→Fz J→FR Jx→J j G L→ji G L w0→aC G (.sl 11 (l.map ay.dat)) v→bq l < n→0≤t→t+bq l≤4294967296→(∀ i a,(⟨id,l,body,note,t⟩ :: iT note t l)[i]?=some a→xs[j+i]?=some (Dj a)) →
 Calls prog 161 #[vi id,v,.agg #[.bool body,.bool note,vi t],fv] w0 (iM w0 G L fun u G' L'=>∃ b,u=.bool b∧(b=true→J (j+((iT note t l).length+1)) G' L')∧(b=false→Jx G' L'))
set_option maxHeartbeats 1000000 in
theorem aoQ {n:Nat} (ih:Qy n) (hn:n≤4294967296):Qy (n+1):=by
 intro fv Gi xs J Jx G L w0 j0 l id body note t v hGi hcb nk hJx hJ0 hO hv hz ht0 ht1 hx0;obtain ⟨A,c,rfl,hc1,hc2,hg⟩:=hv.slice;rw [bQ] at *;have hll:=Fu l;have Um:Now xs Dj J (j0+((iT note t l).length+1)) j0 (⟨id,l,body,note,t⟩ :: iT note t l) G L:=⟨hJ0,hx0,rfl⟩;refine lq (N:=74) (T:=[(0,_),(1,_),(2,_),(3,_)]) func161 rfl ntmps161 rfl rfl hO ?_;intro a H;refine dh (fun _ K1=>?_);refine fB (cs:=[_,_,_]) H wn rfl rfl rfl ?_;clear H;intro b6 a w hb6 H;refine kH H (ak K1 rfl (SQ fun _ K2=>SR fun _ K3=>Rm rfl (Rm rfl (Rm rfl ?_))));clear H K1;intro a H;refine bP Mv (cs:=[_,_,_]) H wn rfl rfl (H.hp.gB 0 rfl rfl) rfl ?_;clear H;intro a H;refine lJ anM [_,_,_,_] H wn rfl rfl rfl rfl ?_;clear H;intro a H;refine uZ (Li:=[_]) (L:=L) H wn rfl rfl (hcb _ _ _ _ _ ⟨_,Um.head,_,rfl,hv⟩ hGi Um.now (Hp.owns (Li:=[_]) H.hp)) rfl ?_;clear H;rintro v20 J3 Ke a w ⟨b20,rfl,hb1,hb2⟩ Je H;refine kH H (Rn rfl (Kz K3 (Cd rfl ?_ ?_))) <;> clear H K3
 ·intro h21 a H
  try have nX:=dT h21
  refine kP H (SR fun _ K4=>ak K4 rfl ?_);clear H K4;intro a H;refine lr H results161 rfl ?_
  first
   | exact H.hp.bR (L':=Ke) (by repeat (first|exact bZ _|apply List.Sublist.cons)) ⟨_,rfl,fun e=>(by cases e),fun _=>hb2 (by simpa using h21)⟩
   | exact H.hp.bR (L':=Kg) (by repeat (first|exact bZ _|apply List.Sublist.cons)) ⟨_,rfl,fun e=>(by cases e),fun _=>hb4 (by simpa using lu)⟩
   | exact H.hp.bR (L':=Kj) (by repeat (first|exact bZ _|apply List.Sublist.cons)) ⟨_,rfl,fun e=>(by cases e),fun _=>hb6 (by simpa using om)⟩
   | exact H.hp.bR (L':=Lt) (by repeat (first|exact bZ _|apply List.Sublist.cons)) ⟨_,rfl,fun _=>(by rw [fI (by omega),iT] at bO;have:=bO.len;simp only [List.length_nil,nR] at this;rw [← this];exact bO.now),fun e=>(by cases e)⟩
 intro h21 a H
 try have nX:=dF h21
 refine kP H (Kc K2 (SQ fun _ K5=>SR fun _ K6=>Rm rfl (Rl kr rfl (Rm rfl (Kz K6 (SB ?_))))));clear H K2 K6;intro a H;skip;refine eT (ι:=Nat × Nat × OL × GH) (Tc:=[(3,_),(6,_),(22,_),(23,_)]) (Lc:=[(_,_)]) (fun gh=>[(24,vi gh.1)]) (fun gh=>[]++gh.2.2.1) (fun gh=>gh.2.2.2) (fun gh=>gh.1≤l.length∧(∀ b o,G b=some o→gh.2.2.2 b=some o)∧Now xs Dj J (j0+((iT note t l).length+1)) gh.2.1 (iT note t (l.drop gh.1)) gh.2.2.2 gh.2.2.1) (fun gh=>l.length - gh.1) ((0,j0+1,Ke,J3)) (by exact (H).sub ⟨rfl,rfl,rfl,rfl,rfl,aB⟩) ?_ ?_
 ·exact ⟨by omega,Je,Um.step (hb1 (by simpa using h21))⟩
 clear H;rintro ⟨k,j1,Lt,g⟩ a w hI H;dsimp only at hI H;obtain ⟨hk,hgm,bO⟩:=hI;dsimp only [lca,aO] at H;refine kP H (SR fun _ K7=>Rc rfl (Kz K7 (SQ fun _ K8=>Cd rfl ?_ ?_))) <;> clear H K7
 ·intro gN a H
  try have p25:=dT gN
  have hk2:k < l.length:=by omega
  obtain ⟨b,o,pA,pn,pc,dA,dn,dc,yA,yn,yc,fA,fn,fc,rA,rn,rc,rfl,hrow,hhd,hfl,hrw⟩:=Dl hk2 hg;replace hrow:=fun j u hj=>aH hgm (hrow j u hj);have hrn:=hrw.len;rw [bQ] at hrn;subst hrn;have hrs:=Fv l[k].rows;have hsz1:=adk hk2;rw [jV hk2] at bO
  simp only [iT,acQ] at bO
  refine kP H (Kc K8 (SQ fun _ K9=>SB (SR fun _ aV=>Ri kr fC rfl rfl ?_)));clear H K8;intro a H;refine bP fC (cs:=[_,_,_,_,_,_,_,_,_,_,_]) H wn rfl rfl (fun j v hj=>H.hp.aG (hrow j v hj)) rfl ?_;clear H;intro a H;refine eH fC H wn rfl ?_;clear H;intro b10 a w I9 H;refine bT fC 0 (vs:=[_,_,_,_,_,_,_,_,_,_,_]) _ H wn rfl rfl rfl rfl rfl rfl rfl rfl ?_;clear H;intro w H;dsimp only [List.set,setRow] at H;refine aV _ _ ?_;clear aV;refine kP H (SR fun _ bF=>aT gJ aD 0 rfl rfl (Kz bF (SB (SR fun _ bG=>Rc rfl (ak bG rfl (Cd rfl ?_ ?_)))))) <;> clear H bF bG
  ·intro qh a H
   try have p30:=dT qh
   rw [au p30] at bO;refine kP H (SR fun _ bM=>aT uN aD 0 rfl rfl (aT Ca jJ 0 rfl rfl (aT KP aD 1 rfl rfl ?_)));clear H;intro a H;refine lJ Fb [_,_,_] H wn rfl rfl rfl rfl ?_;clear H;intro a H;refine kH H (Rm rfl ?_);clear H;intro a H;refine gP QZ (Li:=[_,_]) (L:=Lt) H wn rfl (ih fv Gi xs J Jx _ _ _ j1 l[k].flow l[k].id false true t _ (fun b o h=>hgm b o (hGi b o h)) hcb nk hJx bO.now (Hp.owns (Li:=[_,_]) H.hp) (hfl.mono hgm) (by omega) ht0 (by omega) bO.part) rfl ?_;clear H;rintro v40 WM Kg a w ⟨b40,rfl,hb3,hb4⟩ Oj H;refine kH H (Rn rfl (Kz bM (Cd rfl ?_ ?_))) <;> clear H bM
   ·intro lu a H
    try have p41:=dT lu
    refine kP H (SR fun _ bN=>ak bN rfl ?_);clear H bN;intro a H;refine lr H results161 rfl ?_
    first
     | exact H.hp.bR (L':=Ke) (by repeat (first|exact bZ _|apply List.Sublist.cons)) ⟨_,rfl,fun e=>(by cases e),fun _=>hb2 (by simpa using h21)⟩
     | exact H.hp.bR (L':=Kg) (by repeat (first|exact bZ _|apply List.Sublist.cons)) ⟨_,rfl,fun e=>(by cases e),fun _=>hb4 (by simpa using lu)⟩
     | exact H.hp.bR (L':=Kj) (by repeat (first|exact bZ _|apply List.Sublist.cons)) ⟨_,rfl,fun e=>(by cases e),fun _=>hb6 (by simpa using om)⟩
     | exact H.hp.bR (L':=Lt) (by repeat (first|exact bZ _|apply List.Sublist.cons)) ⟨_,rfl,fun _=>(by rw [fI (by omega),iT] at bO;have:=bO.len;simp only [List.length_nil,nR] at this;rw [← this];exact bO.now),fun e=>(by cases e)⟩
   intro lu a H
   try have p41:=dF lu
   refine kP H (Kc K9 (SC (Rd rfl (Rm rfl ?_))));clear H K9;intro a H;refine aJ ?_;refine dH ((k+1,j1+((iT true t l[k].flow).length+1),Kg,WM)) (by exact (H.dB (Pl:=[_,_]) (cB:=[_]) [1] (by decide) rfl).sub ⟨rfl,rfl,rfl,rfl,rfl,aB⟩) ?_ ?_
   ·(try dsimp only);exact ⟨by omega,fun b o h=>Oj b o (hgm b o h),bO.jump (hb3 (by simpa using lu))⟩
   first|omega|(dsimp only;omega)
  intro qh a H
  try have p30:=dF qh
  refine kP H (SR fun _ bW=>Rc rfl (ak bW rfl (Cd rfl ?_ ?_))) <;> clear H bW
  ·intro A9 a H
   try have p42:=dT A9
   rw [ah p30,au p42] at bO;refine kP H (SR fun _ cK=>aT uP vD 0 rfl rfl (Rl ku rfl (Rm rfl (Kz cK (SB ?_)))));clear H cK;intro a H;skip;refine eT (ι:=Nat × Nat × OL × GH) (Tc:=[(3,_),(6,_),(22,_),(23,_),(24,_),(45,_),(46,_)]) (Lc:=[(_,_),(_,_)]) (fun gh=>[(47,vi gh.1)]) (fun gh=>[]++gh.2.2.1) (fun gh=>gh.2.2.2) (fun gh=>gh.1≤l[k].rows.length∧(∀ b o,G b=some o→gh.2.2.2 b=some o)∧Now xs Dj J (j0+((iT note t l).length+1)) gh.2.1 (mF note t (l[k].rows.drop gh.1)++iT note t (l.drop (k+1))) gh.2.2.2 gh.2.2.1) (fun gh=>l[k].rows.length - gh.1) ((0,j1,Lt,g)) (by exact (H).sub ⟨rfl,rfl,rfl,rfl,rfl,rfl,rfl,rfl,aB⟩) ?_ ?_
   ·exact ⟨by omega,hgm,bO⟩
   clear H;rintro ⟨rk,j3,Lt3,g3⟩ a w hI H;dsimp only at hI H;obtain ⟨Oz,qL,Bg⟩:=hI;dsimp only [lca,aO] at H;refine kP H (SR fun _ bS=>Rc rfl (Kz bS (SQ fun _ dD=>Cd rfl ?_ ?_))) <;> clear H bS
   ·intro h48 a H
    try have p48:=dT h48
    have hk3:rk < l[k].rows.length:=by omega
    obtain ⟨b2,o2,qA,qn,qc,eA,en,ec,zA,zn,zc,cA,cn,cc,rfl,hrow,Ck,hcl⟩:=E5 hk3 hrw.at_;replace hrow:=fun j u hj=>aH qL (hrow j u hj);have hcn:=hcl.len;rw [bQ] at hcn;subst hcn;have hsz2:=MK hk3;have hcs:=Fq l[k].rows[rk].cells;rw [jV hk3] at Bg
    simp only [mF,acR,jQ] at Bg
    refine kP H (Kc dD (SQ fun _ dO=>SB (SR fun _ dK=>Ri ku kQ rfl rfl ?_)));clear H dD;intro a H;refine bP kQ (cs:=[_,_,_,_,_,_]) H wn rfl rfl (fun j v hj=>H.hp.aG (hrow j v hj)) rfl ?_;clear H;intro a H;refine eH kQ H wn rfl ?_;clear H;intro b12 a w EH H;refine bT kQ 0 (vs:=[_,_,_,_,_,_]) _ H wn rfl rfl rfl rfl rfl rfl rfl rfl ?_;clear H;intro w H;dsimp only [List.set,setRow] at H;refine dK _ _ ?_;clear dK;refine kP H (SR fun _ dS=>aT ru rY 0 rfl rfl (Rl mE rfl (Rm rfl (Kz dS (SB ?_)))));clear H dS;intro a H;skip;refine eT (ι:=Nat × Nat × OL × GH) (Tc:=[(3,_),(6,_),(22,_),(23,_),(24,_),(45,_),(46,_),(47,_),(52,_),(53,_)]) (Lc:=[(_,_),(_,_),(_,_)]) (fun gh=>[(54,vi gh.1)]) (fun gh=>[]++gh.2.2.1) (fun gh=>gh.2.2.2) (fun gh=>gh.1≤l[k].rows[rk].cells.length∧(∀ b o,G b=some o→gh.2.2.2 b=some o)∧Now xs Dj J (j0+((iT note t l).length+1)) gh.2.1 (mR note t (l[k].rows[rk].cells.drop gh.1)++(mF note t (l[k].rows.drop (rk+1))++iT note t (l.drop (k+1)))) gh.2.2.2 gh.2.2.1) (fun gh=>l[k].rows[rk].cells.length - gh.1) ((0,j3,Lt3,g3)) (by exact (H).sub ⟨rfl,rfl,rfl,rfl,rfl,rfl,rfl,rfl,rfl,rfl,rfl,aB⟩) ?_ ?_
    ·exact ⟨by omega,qL,Bg⟩
    clear H;rintro ⟨ck,j4,Lt4,g4⟩ a w hI H;dsimp only at hI H;obtain ⟨hck,uS,wG⟩:=hI;dsimp only [lca,aO] at H;refine kP H (SR fun _ eP=>Rc rfl (Kz eP (SQ fun _ gG=>Cd rfl ?_ ?_))) <;> clear H eP
    ·intro ng a H
     try have p55:=dT ng
     have hk4:ck < l[k].rows[rk].cells.length:=by omega
     obtain ⟨b3,o3,sA,sn,sc,tA,tn,tc,uA,un,uc,gA,gn,gc,rfl,hrow,hch,hcf⟩:=C8 hk4 hcl.at_;replace hrow:=fun j u hj=>aH uS (hrow j u hj);have GY:=MI hk4;rw [jV hk4] at wG
     simp only [mR,acN,jQ] at wG
     refine kP H (Kc gG (SQ fun _ gT=>SB (SR fun _ gM=>Ri mE kg rfl rfl ?_)));clear H gG;intro a H;refine bP kg (cs:=[_,_,_,_,_,_,_]) H wn rfl rfl (fun j v hj=>H.hp.aG (hrow j v hj)) rfl ?_;clear H;intro a H;refine eH kg H wn rfl ?_;clear H;intro b14 a w Tq H;refine bT kg 0 (vs:=[_,_,_,_,_,_,_]) _ H wn rfl rfl rfl rfl rfl rfl rfl rfl ?_;clear H;intro w H;dsimp only [List.set,setRow] at H;refine gM _ _ ?_;clear gM;refine kP H (SR fun _ jf=>aT Dc aD 0 rfl rfl (aT Df jJ 0 rfl rfl (aT RJ qQ 3 rfl rfl (aT KP aD 3 rfl rfl (Rd rfl ?_)))));clear H;intro a H;refine lJ Fb [_,_,_] H wn rfl rfl rfl rfl ?_;clear H;intro a H;refine kH H (Rm rfl ?_);clear H;intro a H;refine gP QZ (Li:=[_,_,_,_]) (L:=Lt4) H wn rfl (ih fv Gi xs J Jx _ _ _ j4 l[k].rows[rk].cells[ck].flow l[k].rows[rk].cells[ck].id false note (t+1) _ (fun b o h=>uS b o (hGi b o h)) hcb nk hJx wG.now (Hp.owns (Li:=[_,_,_,_]) H.hp) (hcf.mono uS) (by omega) (by omega) (by omega) wG.part) rfl ?_;clear H;rintro v69 G69 Kj a w ⟨b69,rfl,hb5,hb6⟩ ajf H;refine kH H (Rn rfl (Kz jf (Cd rfl ?_ ?_))) <;> clear H jf
     ·intro om a H
      try have p70:=dT om
      refine kP H (SR fun _ jq=>ak jq rfl ?_);clear H jq;intro a H;refine lr H results161 rfl ?_
      first
       | exact H.hp.bR (L':=Ke) (by repeat (first|exact bZ _|apply List.Sublist.cons)) ⟨_,rfl,fun e=>(by cases e),fun _=>hb2 (by simpa using h21)⟩
       | exact H.hp.bR (L':=Kg) (by repeat (first|exact bZ _|apply List.Sublist.cons)) ⟨_,rfl,fun e=>(by cases e),fun _=>hb4 (by simpa using lu)⟩
       | exact H.hp.bR (L':=Kj) (by repeat (first|exact bZ _|apply List.Sublist.cons)) ⟨_,rfl,fun e=>(by cases e),fun _=>hb6 (by simpa using om)⟩
       | exact H.hp.bR (L':=Lt) (by repeat (first|exact bZ _|apply List.Sublist.cons)) ⟨_,rfl,fun _=>(by rw [fI (by omega),iT] at bO;have:=bO.len;simp only [List.length_nil,nR] at this;rw [← this];exact bO.now),fun e=>(by cases e)⟩
     intro om a H
     try have p70:=dF om
     refine kP H (Kc gT (SC (Rd rfl (Rm rfl ?_))));clear H gT;intro a H;refine aJ ?_;refine dH ((ck+1,j4+((iT note (t+1) l[k].rows[rk].cells[ck].flow).length+1),Kj,G69)) (by exact (H.dB (Pl:=[_,_,_,_]) (cB:=[_,_,_]) [1,2,3] (by decide) rfl).sub ⟨rfl,rfl,rfl,rfl,rfl,rfl,rfl,rfl,rfl,rfl,rfl,aB⟩) ?_ ?_
     ·(try dsimp only);exact ⟨by omega,fun b o h=>ajf b o (uS b o h),wG.jump (hb5 (by simpa using om))⟩
     first|omega|(dsimp only;omega)
    intro ng a H
    try have p55:=dF ng
    refine dR ?_;refine dO _ _ ?_;clear dO;refine kP H (SC (Rd rfl (Rm rfl ?_)));clear H;intro a H;refine aJ ?_;refine dH ((rk+1,j4,Lt4,g4)) (by exact (H.dB (Pl:=[_,_,_]) (cB:=[_,_]) [1,2] (by decide) rfl).sub ⟨rfl,rfl,rfl,rfl,rfl,rfl,rfl,rfl,aB⟩) ?_ ?_
    ·(try dsimp only);exact ⟨by omega,uS,by rw [fI (by omega),mR,kD] at wG;exact wG⟩
    first|omega|(dsimp only;omega)
   intro h48 a H
   try have p48:=dF h48
   refine dR ?_;refine K9 _ _ ?_;clear K9;refine kP H (SC (Rd rfl (Rm rfl ?_)));clear H;intro a H;refine aJ ?_;refine dH ((k+1,j3,Lt3,g3)) (by exact (H.dB (Pl:=[_,_]) (cB:=[_]) [1] (by decide) rfl).sub ⟨rfl,rfl,rfl,rfl,rfl,aB⟩) ?_ ?_
   ·(try dsimp only);exact ⟨by omega,qL,by rw [fI (by omega),mF,kD] at Bg;exact Bg⟩
   first|omega|(dsimp only;omega)
  intro A9 a H
  try have p42:=dF A9
  refine kP H (Kc K9 (SC (Rd rfl (Rm rfl ?_))));clear H K9;intro a H;refine aJ ?_;refine dH ((k+1,j1,Lt,g)) (by exact (H.dB (Pl:=[_,_]) (cB:=[_]) [1] (by decide) rfl).sub ⟨rfl,rfl,rfl,rfl,rfl,aB⟩) ?_ ?_
  ·(try dsimp only);exact ⟨by omega,hgm,by rw [ah p30,ah p42,kD] at bO;exact bO⟩
  first|omega|(dsimp only;omega)
 intro gN a H
 try have p25:=dF gN
 refine dR ?_;refine K5 _ _ ?_;clear K5;refine kP H (SR fun _ iQ=>ak iQ rfl ?_);clear H iQ;intro a H;refine lr H results161 rfl ?_
 first
  | exact H.hp.bR (L':=Ke) (by repeat (first|exact bZ _|apply List.Sublist.cons)) ⟨_,rfl,fun e=>(by cases e),fun _=>hb2 (by simpa using h21)⟩
  | exact H.hp.bR (L':=Kg) (by repeat (first|exact bZ _|apply List.Sublist.cons)) ⟨_,rfl,fun e=>(by cases e),fun _=>hb4 (by simpa using lu)⟩
  | exact H.hp.bR (L':=Kj) (by repeat (first|exact bZ _|apply List.Sublist.cons)) ⟨_,rfl,fun e=>(by cases e),fun _=>hb6 (by simpa using om)⟩
  | exact H.hp.bR (L':=Lt) (by repeat (first|exact bZ _|apply List.Sublist.cons)) ⟨_,rfl,fun _=>(by rw [fI (by omega),iT] at bO;have:=bO.len;simp only [List.length_nil,nR] at this;rw [← this];exact bO.now),fun e=>(by cases e)⟩
theorem acU:∀ n:Nat,n≤4294967297→Qy n
 | 0,_=>fun _ _ _ _ _ _ _ _ _ _ _ _ _ _ _ _ _ _ _ _ _ _ h=>absurd h (by omega)
 | n+1,hn=>aoQ (acU n (by omega)) (by omega)
def dx (l:List ay):List jh:=⟨0,l,true,false,0⟩ :: iT false 0 l
theorem ahu {G:GH} {ba bl bp:Nat} {l:List ay} {v:aj} {id t:Int} {body note:Bool} (h1:aG G ba 0=some (vi id)) (h2:aG G bl 0=some v) (h3:G bp=some (.cells #[.bool body,.bool note,vi t] 90 (0,0))) (hv:aC G (.sl 11 (l.map ay.dat)) v) (hz:bq l≤4294967296) (ht0:0≤t) (ht1:t+bq l≤4294967296) :
  Iter prog G (.func (.func 160) #[] #[(aQ ba 0),(aQ bl 0),(aQ bp 0)]) ((⟨id,l,body,note,t⟩ :: iT note t l).map Dj):=by
 intro J Jx fv G1 L w0 Du hGi nk hJx hJ hO hcb;refine nK (caps:=[(aQ ba 0),(aQ bl 0),(aQ bp 0)]) Nw ?_;replace h1:=aH hGi h1;replace h2:=aH hGi h2
 have hrow:∀ j u,[.bool body,.bool note,vi t][j]?=some u→aG G1 bp (0+j)=some u:=by
  intro j u hj;refine aH hGi ?_
  unfold aG;rw [h3];simpa using hj
 refine lq (N:=10) (T:=[(0,_),(1,_),(2,_),(3,_)]) func160 rfl ntmps160 rfl rfl hO ?_;intro a H;refine kP H (SC (Rg aD rfl (by assumption) ?_));clear H;intro a H;refine kH H (Rg jJ rfl (by assumption) ?_);clear H;intro a H;refine bP Mv (cs:=[_,_,_]) H wn rfl rfl (fun j v hj=>H.hp.aG (hrow j v hj)) rfl ?_;clear H;intro a H;refine kH H (Rm rfl ?_);clear H;intro a H;refine gP QZ (Li:=[]) (L:=L) H wn rfl (acU 4294967297 (by omega) _ G1 _ J Jx G1 _ _ 0 l id body note t _ (fun _ _ h=>h) hcb nk hJx hJ (Hp.owns (Li:=[]) H.hp) (hv.mono hGi) (by omega) ht0 ht1 (fun i a h=>by rw [nT,qE,h];rfl)) rfl ?_;clear H;rintro v9 G9 L9 a w ⟨b9,rfl,h1,h2⟩ Jh H;refine aJ ?_;refine (leave0 H results160 ?_).2
 cases b9
 ·exact H.hp.fO (.inr (h2 rfl))
 exact H.hp.fO (.inl (by simpa using h1 rfl))
theorem ahv (G:GH) (w0:World) (hG:Hold G w0) (l:List ay) (v:aj) (id t:Int) (body note:Bool) (hv:aC G (.sl 11 (l.map ay.dat)) v) (hz:bq l≤4294967296) (ht0:0≤t) (ht1:t+bq l≤4294967296) :
  Calls prog 100 #[vi id,v,.agg #[.bool body,.bool note,vi t]] w0 (bY w0 G fun u G'=>∃ ba bl bp,u=.func (.func 160) #[] #[(aQ ba 0),(aQ bl 0),(aQ bp 0)]∧Iter prog G' u ((⟨id,l,body,note,t⟩ :: iT note t l).map Dj)):=by
 obtain ⟨A,c,rfl,hc1,hc2,hg⟩:=hv.slice;refine eN [(0,_),(1,_),(2,_)] func100 rfl ntmps100 rfl rfl hG ?_;intro a H;refine dh (fun _ K1=>?_);refine fB (cs:=[_]) H wn rfl rfl rfl ?_;clear H;intro b3 a w hb3 H;refine fB (cs:=[_]) H wn rfl rfl rfl ?_;clear H;intro b4 a w hb4 H;refine fB (cs:=[_,_,_]) H wn rfl rfl rfl ?_;clear H;intro b5 a w hb5 H;refine kH H (ak K1 rfl (SR fun _ K2=>?_));clear H K1;intro a H;refine pV H wn rfl rfl ?_;clear H;intro a H;refine kH H (ak K2 rfl ?_);clear H K2;intro a H;refine dG ?_;obtain ⟨G2,hm2,hb5,H⟩:=H.dW;obtain ⟨G3,qM,hb4,H⟩:=H.dW;obtain ⟨G4,Uc,hb3,H⟩:=H.dW;refine lv H results100 rfl ?_;exact H.rt ⟨b3,b4,b5,rfl,ahu (by unfold aG;rw [hb3];rfl) (aH Uc (by unfold aG;rw [hb4];rfl)) (Uc _ _ (qM _ _ hb5)) (hv.mono fun b o h=>Uc _ _ (qM _ _ (hm2 _ _ h))) hz ht0 ht1⟩
theorem Ve (G:GH) (w0:World) (hG:Hold G w0) (D:jT) (l:List ay) (hv:aC G (.sl 11 (l.map ay.dat)) (bU D.f)) (hz:bq l≤4294967296) :
  Calls prog 44 #[D.val] w0 (bY w0 G fun u G'=>∃ ba bl bp,u=.func (.func 160) #[] #[(aQ ba 0),(aQ bl 0),(aQ bp 0)]∧Iter prog G' u ((dx l).map Dj)):=by
 refine eN [(0,_)] func44 rfl ntmps44 rfl rfl hG ?_;intro a H;refine dh (fun _ K1=>?_);refine fB (cs:=[_,_,_,_,_,_,_,_,_,_,_]) H wn rfl rfl rfl ?_;clear H;intro b1 a w hb1 H;refine kH H (ak K1 rfl (SR fun _ K2=>aT BZ jJ 0 rfl rfl ?_));clear H K1;intro a H;refine lJ Fb [_,_,_] H wn rfl rfl rfl rfl ?_;clear H;intro a H;refine s_call afl H wn rfl (ahv _ _ H.ro l _ 0 0 true false hv hz (by omega) (by omega)) rfl ?_;clear H;rintro v6 G6 a w ⟨ba,bl,bp,rfl,hit⟩ Jg H;exact kH H (ak K2 rfl (LR results44 rfl fun H=>H.rt ⟨ba,bl,bp,rfl,hit⟩))
end
section
open Go.RowKit
theorem lX:Ty prog 38 11 232 [.slice none 0 0,.slice none 0 0,.int .i64 0,.int .i64 0,.slice none 0 0,.slice none 0 0,.slice none 0 0,.slice none 0 0,.slice none 0 0,.slice none 0 0,.slice none 0 0] true:=⟨by kernel_rfl,by kernel_rfl⟩
theorem Rh:∀ args w,(callFunc 44 args).run prog w=.ok (.enter 44 args) w:=enters func44 rfl (by kernel_rfl)
theorem PS:Ty prog 92 4 40 [.slice none 0 0,.bool false,.bool false,.int .i64 0] true:=⟨by kernel_rfl,by kernel_rfl⟩
theorem ahk:dJ prog 92 0 0:=⟨by kernel_rfl⟩
mutual
theorem aoN {note:Bool} {t:Int} {f:jh}:∀ {x:ay},f∈uw note t x→bq f.items < cO x.dat
 | .mk k c i tx h fl r,hf=>by
  have h4:=oW (.mk k c i tx h fl r)
  simp only [ay.text,ay.head,ay.flow,ay.rows] at h4
  rw [uw] at hf
  split at hf
  ·rcases ow.1 hf with rfl|hf
   ·show bq fl < _;omega
   have:=PZ hf;omega
  split at hf
  ·have:=acT hf;omega
  cases hf
theorem PZ {note:Bool} {t:Int} {f:jh}:∀ {l:List ay},f∈iT note t l→bq f.items≤bq l
 | [],hf=>by simp [iT] at hf
 | x :: l,hf=>by
  rw [iT] at hf
  simp only [bq,dV,dZ]
  rcases vO.1 hf with hf|hf
  ·have:=aoN hf;simp only [bq] at this;omega
  have:=PZ hf;simp only [bq] at this;omega
theorem acT {note:Bool} {t:Int} {f:jh}:∀ {l:List bH},f∈mF note t l→bq f.items≤eD l
 | [],hf=>by simp [mF] at hf
 | x :: l,hf=>by
  rw [mF] at hf
  simp only [eD,dV,dZ]
  rcases vO.1 hf with hf|hf
  ·have:=aoP hf;simp only [bq] at *;omega
  have:=acT hf;simp only [bq,eD] at *;omega
theorem aoP {note:Bool} {t:Int} {f:jh}:∀ {x:bH},f∈uy note t x→bq f.items≤cO x.dat
 | .mk h cs,hf=>by
  have h4:=uD (.mk h cs)
  simp only [bH.head,bH.cells] at h4
  rw [uy] at hf;have:=acP hf;omega
theorem acP {note:Bool} {t:Int} {f:jh}:∀ {l:List bD},f∈mR note t l→bq f.items≤iw l
 | [],hf=>by simp [mR] at hf
 | x :: l,hf=>by
  rw [mR] at hf
  simp only [iw,dV,dZ]
  rcases vO.1 hf with hf|hf
  ·have:=aoL hf;simp only [bq] at *;omega
  have:=acP hf;simp only [bq,iw] at *;omega
theorem aoL {note:Bool} {t:Int} {f:jh}:∀ {x:bD},f∈uq note t x→bq f.items≤cO x.dat
 | .mk i h fl,hf=>by
  have h4:=uz (.mk i h fl)
  simp only [bD.head,bD.flow] at h4
  rw [uq] at hf
  rcases ow.1 hf with rfl|hf
  ·show bq fl≤_;omega
  have:=PZ hf;omega
end
theorem RY {f:jh} {l:List ay} (h:f∈dx l):bq f.items≤bq l:=by
 rcases ow.1 h with rfl|h
 ·exact dw _
 exact PZ h
theorem RP {α:Type} {p:α→Bool} {A:List α} {k:Nat} (hk:k < A.length) (h:(A.take k).find? p=none) (hp:p A[k]=false):(A.take (k+1)).find? p=none:=by
 rw [mV hk,List.find?_append,h]
 simp [hp]
theorem NQ {α:Type} {p:α→Bool} {A:List α} {k:Nat} (hk:k < A.length) (h:(A.take k).find? p=none) (hp:p A[k]=true):A.find? p=some A[k]:=by
 have e:A.find? p=(A.take k++A.drop k).find? p:=by rw [List.take_append_drop]
 rw [e,List.find?_append,h,jV hk,List.find?_cons,hp]
 rfl
theorem RO {α:Type} {p:α→Bool} {A:List α} (h:(A.take A.length).find? p=none):A.find? p=none:=by rwa [Eo] at h
theorem IZ {A:List jh} {k:Nat} {args:List aj} {g:GH} (h:yu (A.map Dj) k args g):∃ (hk:k < A.length) (a:Option Addr) (n c:Nat),args=[vi A[k].id,.agg #[.slice a n c,.bool A[k].body,.bool A[k].note,vi A[k].tables]]∧aC g (.sl 11 (A[k].items.map ay.dat)) (.slice a n c):=by
 obtain ⟨p,hp,hargs⟩:=h;rw [qE] at hp;obtain ⟨q,hq,rfl⟩:=oC.1 hp;obtain ⟨hk,rfl⟩:=lG.1 hq;obtain ⟨v,h1,h2⟩:=hargs;obtain ⟨a,n,c,rfl⟩:=h2.form;exact ⟨hk,a,n,c,h1,h2⟩
end
section
open Go.RowKit
def wm (xs:Array aj) (o:Nat):Option Int:=match xs[o]? with|some (.int .i64 n)=>some n|_=>none
def UY (u:Option TypeDesc):Bool:=match u with|some (.int .i64)=>true|_=>false
structure WG (P:Program) (t:TypeId) (Jw:List Nat):Prop where
 und:P.underlying t=some (.struct (P.fieldsOf t))
 held:P.stoodInHeld t=false
 guard:P.eqGuardType P.depth t=false
 KS:(P.fieldsOf t).toList.map (·.offset)=Jw
 ok:(P.fieldsOf t).toList.all (fun f=>decide (f.name ≠ "_") && P.plainKey f.type && UY (P.underlying f.type))=true
theorem abA {P:Program} {w:World} {d:Nat} {xs ys:Array aj}:∀ fs:List Field,fs.all (fun f=>decide (f.name ≠ "_") && P.plainKey f.type && UY (P.underlying f.type))=true →
  (fs.map (·.offset)).all (fun o=>(wm xs o).isSome && (wm ys o).isSome)=true→(Op.eqFields (d+1) xs ys fs).run P w=.ok ((fs.map (·.offset)).all fun o=>wm xs o == wm ys o) w
 | [],_,_=>by simp [Op.eqFields]
 | f :: fs,h1,h2=>by
  simp only [List.all_cons,jr,uH,dV] at h1 h2
  obtain ⟨⟨⟨hn,hp⟩,hi⟩,h1⟩:=h1
  obtain ⟨⟨hx,hy⟩,h2⟩:=h2
  have ih:=abA (w:=w) (d:=d) fs (by simpa using h1) h2
  unfold UY at hi
  split at hi
  ·rename_i hu
   unfold wm at hx hy
   split at hx
   ·rename_i m hxm
    split at hy
    ·rename_i m2 hym
     have e1:wm xs f.offset=some m:=by unfold wm;rw [hxm]
     have e2:wm ys f.offset=some m2:=by unfold wm;rw [hym]
     simp only [Op.eqFields,hn,ne_eq,not_false_eq_true,if_true,fD,run_part_plain w hp hxm,run_part_plain w hp hym,pq,run_equalIn_int w d f.type .i64 .i64 m m2 hu,dV,List.all_cons,e1,e2]
     by_cases e:m=m2
     ·subst e;simp [ih,List.all_map]
     ·simp [e]
    ·simp at hy
   ·simp at hx
  ·simp at hi
section
variable {N:Nat} {D:List Deferred} {w0:World} {F:Nat→Prop} {G0 G:GH} {L:List (Nat × Obj)} {T:List (Nat × aj)}
variable {r:Option Nat} {P:Program} {ops:Array Oper} {Q:Exit→Act→World→Prop} {rest:List Oper} {a:Act} {w:World}
variable {d:Nat} {ty:TypeId} {pos:String} {aR:Array Edge} {g:Option (Nat × Bool)}
theorem amO {t yt:TypeId} {Jw:List Nat} (he:WG P t Jw) {x y:Operand} {xs ys:Array aj} (H:St N D w0 F G0 G L T a w) (hw:Region.wanted ⟨some d,.binOp .eql t x y yt,ty,pos,aR,g⟩ (yielded ops a.tmps)=true) (hx:ev T x=some (.agg xs)) (hy:ev T y=some (.agg ys))
  (hi:Jw.all (fun o=>(wm xs o).isSome && (wm ys o).isSome)=true) (hd:Nat.blt d N=true)
  (k:∀ a',St N D w0 F G0 G L ((d,.bool (Jw.all fun o=>wm xs o == wm ys o)) :: T) a' w→WL r P ops Q rest a' w):WL r P ops Q (⟨some d,.binOp .eql t x y yt,ty,pos,aR,g⟩ :: rest) a w:=by
 refine iF (v:=.bool (Jw.all fun o=>wm xs o == wm ys o)) (w':=w) hw rfl ?_ (k _ (H.put hd _ H.hp))
 have h1:=abA (P:=P) (w:=w) (d:=9998) (xs:=xs) (ys:=ys) _ he.ok (by rw [he.KS];exact hi)
 rw [he.KS] at h1
 simp only [execOp,H.ev hx,H.ev hy,fD,run_eqGuard_agg w .eql t x y xs ys he.guard,pq,run_eql_struct,run_equalIn_struct w 9999 t xs ys he.und he.held,h1]
 rfl
theorem Ia {t yt:TypeId} {x y:Operand} {p q:ByteArray} (H:St N D w0 F G0 G L T a w) (hw:Region.wanted ⟨some d,.binOp .eql t x y yt,ty,pos,aR,g⟩ (yielded ops a.tmps)=true) (hx:ev T x=some (.string p)) (hy:ev T y=some (.string q)) (hd:Nat.blt d N=true)
  (k:∀ a',St N D w0 F G0 G L ((d,.bool (p.toList == q.toList)) :: T) a' w→WL r P ops Q rest a' w):WL r P ops Q (⟨some d,.binOp .eql t x y yt,ty,pos,aR,g⟩ :: rest) a w:=by
 refine iF (v:=.bool (p.toList == q.toList)) (w':=w) hw rfl ?_ (k _ (H.put hd _ H.hp))
 simp [execOp,H.ev hx,H.ev hy,fD,eqGuard,binOp,Op.stringOp]
theorem DL {t yt:TypeId} {x y:Operand} {p q:Int} (z:Int) (H:St N D w0 F G0 G L T a w) (hw:Region.wanted ⟨some d,.binOp .quo t x y yt,ty,pos,aR,g⟩ (yielded ops a.tmps)=true) (hx:ev T x=some (.int .i64 p)) (hy:ev T y=some (.int .i64 q)) (hq:¬ q=0) (hz:p.tdiv q=z) (h1:-9223372036854775808≤z) (h2:z < 9223372036854775808) (hd:Nat.blt d N=true)
  (k:∀ a',St N D w0 F G0 G L ((d,.int .i64 z) :: T) a' w→WL r P ops Q rest a' w):WL r P ops Q (⟨some d,.binOp .quo t x y yt,ty,pos,aR,g⟩ :: rest) a w:=by
 subst hz
 refine iF (v:=.int .i64 (p.tdiv q)) (w':=w) hw rfl ?_ (k _ (H.put hd _ H.hp))
 simp [execOp,H.ev hx,H.ev hy,fD,eqGuard,binOp,Op.intDiv,hq,Jq h1 h2]
end
end
section
open Go.RowKit
theorem Hg {α:Type} {p:α→Bool} {A:List α} {k:Nat} (hk:k < A.length) (h:(A.take k).findIdx? p=none) (hp:p A[k]=false):(A.take (k+1)).findIdx? p=none:=by
 rw [List.findIdx?_eq_none_iff] at h ⊢;rw [mV hk];intro x hx
 rcases vO.1 hx with hx|hx
 ·exact h x hx
 rw [vQ.1 hx];exact hp
theorem za {α:Type} {p:α→Bool} {A:List α} {k:Nat} (hk:k < A.length) (h:(A.take k).findIdx? p=none) (hp:p A[k]=true):A.findIdx? p=some k:=by
 have e:A.findIdx? p=(A.take k++A.drop k).findIdx? p:=by rw [List.take_append_drop]
 rw [e,List.findIdx?_append,h,jV hk,List.findIdx?_cons,hp]
 simp;omega
end
section
open Go.RowKit
theorem VN:Ip prog 287:=⟨by kernel_rfl⟩
theorem aey:prog.cellsOf 5=1:=by kernel_rfl
theorem alu (v:aj) (w:World):(callFunc 246 #[v]).run prog w=.ok (.value v) w:=amE func246 (by kernel_rfl) (by kernel_rfl) (by kernel_rfl) (by kernel_rfl) v w
theorem MC:prog.underlying 285=some (.pointer 287):=by kernel_rfl
theorem acz:prog.underlying 309=some .unsafePointer:=by kernel_rfl
theorem KI:dJ prog 287 0 0:=⟨by kernel_rfl⟩
theorem Mt:Ty prog 285 1 8 [.pointer none] false:=⟨by kernel_rfl,by kernel_rfl⟩
theorem aoo:prog.underlying 311=some (.pointer 5):=by kernel_rfl
theorem IW:dJ prog 287 1 1:=⟨by kernel_rfl⟩
theorem JQ:Ty prog 282 1 24 [.slice none 0 0] false:=⟨by kernel_rfl,by kernel_rfl⟩
theorem Ie:prog.underlying 282=some (.slice 5):=by kernel_rfl
end
section
open Go.RowKit
def Bj (p:Nat→Bool):Nat→Nat→Nat→Nat
 | 0,i,_=>i
 | f+1,i,j=>if i < j then (if p ((i+j) / 2) then Bj p f i ((i+j) / 2) else Bj p f ((i+j) / 2+1) j) else i
theorem akf {p:Nat→Bool} {f i j:Nat} (hf:j - i≤f) (h:i < j):Bj p f i j=if p ((i+j) / 2) then Bj p (f - 1) i ((i+j) / 2) else Bj p (f - 1) ((i+j) / 2+1) j:=by
 match f,hf with
 | 0,hf=>omega
 | f+1,_=>rw [Bj,au h];rfl
theorem akd {p:Nat→Bool} {f i j:Nat} (h:¬ i < j):Bj p f i j=i:=by
 match f with
 | 0=>rfl
 | f+1=>rw [Bj,ah h]
theorem akg {z:Int} (h1:0≤z) (h2:z < 18446744073709551616):IntKind.u64.wrap z=z:=by
 simp only [IntKind.wrap,IntKind.bits,IntKind.signed,sZ,Ir,if_false]
 omega
theorem ake (n:Nat):((n:Nat):Int).fdiv (2 ^ 1)=((n / 2:Nat):Int):=by
 rw [Int.fdiv_eq_ediv_of_nonneg _ (by decide)];omega
def Da (a b:Int):Int:=if a < b then -1 else if b < a then 1 else 0
theorem Ye {a b:Int}:Da a b < 0↔a < b:=by
 unfold Da
 split
 ·simp [*]
 ·split <;> simp_all
theorem aeT {a b:Int}:Da a b=0↔a=b:=by
 unfold Da
 split
 ·omega
 ·split <;> omega
def BO (ks:List Int) (t:Int):Nat:=Bj (fun h=>decide (¬ ks.getD h 0 < t)) ks.length 0 ks.length
def EG (ks:List Int) (t:Int):Bool:=decide (ks[BO ks t]?=some t)
theorem aia {ks:List Int} {t:Int} (h:EG ks t=true):BO ks t < ks.length:=by
 have:=oD h
 exact (lG.1 this).1
theorem ahZ {ks:List Int} {t:Int} {n:Nat} (e:BO ks t=n) (h:n < ks.length):EG ks t=decide (Da ks[n] t=0):=by
 unfold EG
 rw [e,fP h]
 simp [aeT]
theorem aib {ks:List Int} {t:Int} {n:Nat} (e:BO ks t=n) (h:¬ n < ks.length):EG ks t=false:=by
 unfold EG
 rw [e,List.getElem?_eq_none (by omega)]
 simp
theorem getD_map {α:Type} {f:α→Int} {l:List α} {n:Nat} (h:n < l.length):(l.map f).getD n 0=f l[n]:=by
 simp [List.getD,h]
end
section
open Go.RowKit
structure XC (P:Program) (s n off:Nat):Prop where
 h:(match P.underlying s with|some (.struct fs)=>(fs[n]?).bind fun f=>((P.underlying f.type).map (fun|.struct _=>true|.array _ _=>true|_=>false)).map fun g=>(f.offset,g)|_=>none)=some (off,false)
theorem XC.parts {P:Program} {s n off:Nat} (h:XC P s n off):∃ fs fl u,P.underlying s=some (.struct fs)∧fs[n]?=some fl∧P.underlying fl.type=some u∧(match u with|.struct _=>true|.array _ _=>true|_=>false)=false∧fl.offset=off:=by
 obtain ⟨h⟩:=h
 split at h
 ·rename_i fs hs
  obtain ⟨fl,hf,h2⟩:=Option.bind_eq_some_iff.1 h
  obtain ⟨b,hb,h3⟩:=oC.1 h2
  obtain ⟨u,hu,h4⟩:=oC.1 hb
  simp only [iU] at h3
  refine ⟨fs,fl,u,hs,hf,hu,?_,h3.1⟩
  rw [← h3.2,← h4]
  cases u <;> rfl
 ·cases h
section
variable {N:Nat} {D:List Deferred} {w0:World} {F:Nat→Prop} {G0 G:GH} {L Li Lo:OL} {T:List (Nat × aj)}
variable {r:Option Nat} {P:Program} {ops:Array Oper} {Q:Exit→Act→World→Prop} {rest:List Oper} {a:Act} {w:World}
variable {d:Nat} {ty:TypeId} {pos:String} {aR:Array Edge} {g:Option (Nat × Bool)}
theorem VK {t:TypeId} {x y:Operand} {s:ByteArray} {ky:IntKind} {p:Int} (lo:Nat) (ht:P.underlying t=some .string) (H:St N D w0 F G0 G L T a w) (hw:Region.wanted ⟨some d,.slice t x (some y) none none,ty,pos,aR,g⟩ (yielded ops a.tmps)=true) (hx:ev T x=some (.string s)) (hy:ev T y=some (.int ky p)) (hp:p=(lo:Int)) (h1:lo≤s.size) (hd:Nat.blt d N=true)
  (k:∀ a',St N D w0 F G0 G L ((d,.string (s.extract lo s.size)) :: T) a' w→WL r P ops Q rest a' w):WL r P ops Q (⟨some d,.slice t x (some y) none none,ty,pos,aR,g⟩ :: rest) a w:=by
 subst hp
 have hr:=run_slice_string_l (P:=P) w t s ht ky (lo:Int) (by omega) (by omega)
 rw [Int.toNat_natCast] at hr
 refine iF (v:=.string (s.extract lo s.size)) (w':=w) hw rfl ?_ (k _ (H.put hd _ H.hp))
 simp only [execOp,H.ev hx,yE,Option.map_none,H.ev hy,fD,run_sliceAt_string w t _ _ _ _ ht,hr,pq,sW]
theorem amW {t e:TypeId} {sz bytes:Nat} {zero:List aj} {agg:Bool} (hs:P.underlying t=some (.slice e)) (ht:Ty P e sz bytes zero agg) {x y:Operand} {A:Option Addr} {n c:Nat} (lo:Nat) {p:Int} (H:St N D w0 F G0 G L T a w)
  (hw:Region.wanted ⟨some d,.slice t x (some y) none none,ty,pos,aR,g⟩ (yielded ops a.tmps)=true) (hx:ev T x=some (.slice A n c)) (hy:ev T y=some (.int .i64 p)) (hp:p=(lo:Int)) (h1:lo≤n) (hd:Nat.blt d N=true)
  (k:∀ a',St N D w0 F G0 G L ((d,.slice (if c=lo then A else A.map (·.add (lo*sz))) (n - lo) (c - lo)) :: T) a' w→WL r P ops Q rest a' w):WL r P ops Q (⟨some d,.slice t x (some y) none none,ty,pos,aR,g⟩ :: rest) a w:=by
 subst hp
 refine iF (v:=.slice (if c=lo then A else A.map (·.add (lo*sz))) (n - lo) (c - lo)) (w':=w) hw rfl ?_ (k _ (H.put hd _ H.hp))
 simp [execOp,H.ev hx,H.ev hy,Instr.sliceAt,Instr.slice,Instr.sliceBounds,Instr.sliceBound,fD,qx hs,ht.Cx,asIntOf,h1]
end
end
section
open Go.RowKit
theorem MB:prog.underlying 262=some (.slice 224):=by kernel_rfl
theorem vB:Ty prog 224 6 56 [.int .i64 0,.int .i64 0,.int .i64 0,.int .i64 0,.int .i64 0,.string ⟨#[]⟩] true:=⟨by kernel_rfl,by kernel_rfl⟩
theorem abV:sU prog 224 [(0,1),(1,1),(2,1),(3,1),(4,1),(5,1)] [.int .i64 0,.int .i64 0,.int .i64 0,.int .i64 0,.int .i64 0,.string ⟨#[]⟩]:=⟨by kernel_rfl,by kernel_rfl⟩
theorem Yy:∀ args w,(callFunc 173 args).run prog w=.ok (.enter 173 args) w:=enters func173 rfl (by kernel_rfl)
structure kC where
 num:Int
 Ce:Int
 low:Int
 high:Int
 std:Int
 name:ByteArray
def kC.dat (x:kC):List Dat:=[li x.num,li x.Ce,li x.low,li x.high,li x.std,.lf (.string x.name)]
def kC.cells (x:kC):List aj:=[vi x.num,vi x.Ce,vi x.low,vi x.high,vi x.std,.string x.name]
def jL.cells (x:jL):List aj:=[vi x.key,vi x.value]
theorem akG (G:GH) (x:kC):bJ G x.dat x.cells:=by
 simp only [kC.dat,kC.cells,bJ]
 exact ⟨_,_,rfl,by simp [aC,Value.oneCell'],_,_,rfl,by simp [aC,Value.oneCell'],_,_,rfl,by simp [aC,Value.oneCell'],_,_,rfl,by simp [aC,Value.oneCell'],_,_,rfl,by simp [aC,Value.oneCell'],_,_,rfl,by simp [aC,Value.oneCell'],rfl⟩
theorem akF {G:GH} {x:kC} {cs:List aj} (h:bJ G x.dat cs):cs=x.cells:=by
 simp only [kC.dat,bJ,aC] at h
 obtain ⟨v1,_,rfl,⟨rfl,-⟩,v2,_,rfl,⟨rfl,-⟩,v3,_,rfl,⟨rfl,-⟩,v4,_,rfl,⟨rfl,-⟩,v5,_,rfl,⟨rfl,-⟩,v6,_,rfl,⟨rfl,-⟩,rfl⟩:=h
 rfl
theorem amf {G:GH} {x:jL} {cs:List aj} (h:bJ G x.dat cs):cs=x.cells:=by
 simp only [jL.dat,bJ,aC] at h
 obtain ⟨v1,_,rfl,⟨rfl,-⟩,v2,_,rfl,⟨rfl,-⟩,rfl⟩:=h
 rfl
theorem aaK (G:GH):∀ (B A:List kC),ig G 6 (A.map kC.dat) (A.map kC.cells).flatten→ig G 6 ((A++B).map kC.dat) ((A++B).map kC.cells).flatten
 | [],A,h=>by rw [nH];exact h
 | x :: B,A,h=>by
  have h2:=h.snoc (akG G x) rfl;have h3:=aaK G B (A++[x]) (by simpa using h2)
  simpa using h3
theorem akH (G:GH) (A:List kC):ig G 6 (A.map kC.dat) (A.map kC.cells).flatten:=aaK G A [] ig.nil
theorem U1 {G:GH} {l:List kC} {A:Option Addr} {n c k:Nat} (hv:aC G (.sl 6 (l.map kC.dat)) (.slice A n c)) (hk:k < l.length):∃ b o,A=some ⟨b,o,none⟩∧(∀ j u,[vi l[k].num,vi l[k].Ce,vi l[k].low,vi l[k].high,vi l[k].std,.string l[k].name][j]?=some u→aG G b (o+k*6+j)=some u):=by
 obtain ⟨A',c',he,_,_,hg⟩:=hv.slice
 injection he with e1 e2 e3
 subst e1;obtain ⟨b,o,cs,h1,h2,h3,h4⟩:=hg k l[k].dat (by simp [hk]);obtain rfl:=akF h4;exact ⟨b,o,h1,h3⟩
theorem Mi {G:GH} {l:List jL} {A:Option Addr} {n c k:Nat} (hv:aC G (.sl 2 (l.map jL.dat)) (.slice A n c)) (hk:k < l.length):∃ b o,A=some ⟨b,o,none⟩∧(∀ j u,[vi l[k].key,vi l[k].value][j]?=some u→aG G b (o+k*2+j)=some u):=by
 obtain ⟨A',c',he,_,_,hg⟩:=hv.slice
 injection he with e1 e2 e3
 subst e1;obtain ⟨b,o,cs,h1,h2,h3,h4⟩:=hg k l[k].dat (by simp [hk]);obtain rfl:=amf h4;exact ⟨b,o,h1,h3⟩
def Hr:List kC:=[⟨1,1,0,1073741824,0,⟨#[99,104,97,114,97,99,116,101,114,45,115,116,121,108,101]⟩⟩,⟨2,1,0,1,0,⟨#[98,111,108,100]⟩⟩,⟨3,1,0,1,0,⟨#[105,116,97,108,105,99]⟩⟩,⟨4,1,0,3,0,⟨#[117,110,100,101,114,108,105,110,101]⟩⟩,⟨5,1,2,1638,22,⟨#[115,105,122,101]⟩⟩,⟨6,1,0,16777215,0,⟨#[99,111,108,111,114]⟩⟩,⟨7,1,0,63,0,⟨#[102,111,110,116]⟩⟩,⟨8,1,0,255,0,⟨#[108,97,110,103,117,97,103,101]⟩⟩,⟨9,1,-400,400,0,⟨#[114,97,105,115,101]⟩⟩,⟨10,1,0,1,0,⟨#[104,105,100,100,101,110]⟩⟩,⟨20,2,0,1073741824,0,⟨#[112,97,114,97,103,114,97,112,104,45,115,116,121,108,101]⟩⟩,⟨21,2,0,3,0,⟨#[97,108,105,103,110]⟩⟩,⟨22,2,-31680,31680,0,⟨#[108,101,102,116]⟩⟩,⟨23,2,-31680,31680,0,⟨#[114,105,103,104,116]⟩⟩,⟨24,2,-31680,31680,0,⟨#[102,105,114,115,116]⟩⟩,⟨25,2,0,31680,0,⟨#[98,101,102,111,114,101]⟩⟩,⟨26,2,0,31680,0,⟨#[97,102,116,101,114]⟩⟩,⟨27,2,0,31680,0,⟨#[108,101,97,100,105,110,103]⟩⟩,⟨28,2,0,1,0,⟨#[107,101,101,112,45,110,101,120,116]⟩⟩,⟨29,2,0,1,0,⟨#[107,101,101,112,45,108,105,110,101,115]⟩⟩,⟨30,2,0,1,1,⟨#[119,105,100,111,119]⟩⟩,⟨31,2,0,1,0,⟨#[112,97,103,101,45,98,101,102,111,114,101]⟩⟩,⟨32,2,0,9,0,⟨#[111,117,116,108,105,110,101]⟩⟩,⟨33,2,0,1073741824,0,⟨#[108,105,115,116]⟩⟩,⟨34,2,1,9,1,⟨#[108,101,118,101,108]⟩⟩,⟨35,2,0,32767,0,⟨#[114,101,115,116,97,114,116]⟩⟩,⟨36,2,1,31680,720,⟨#[116,97,98,45,115,116,111,112]⟩⟩,⟨37,2,0,1,0,⟨#[104,121,112,104,101,110,97,116,101]⟩⟩,⟨40,3,720,31680,12240,⟨#[112,97,103,101,45,119,105,100,116,104]⟩⟩,⟨41,3,720,31680,15840,⟨#[112,97,103,101,45,104,101,105,103,104,116]⟩⟩,⟨42,3,0,31680,1440,⟨#[116,111,112]⟩⟩,⟨43,3,0,31680,1440,⟨#[98,111,116,116,111,109]⟩⟩,⟨44,3,0,31680,1440,⟨#[105,110,110,101,114]⟩⟩,⟨45,3,0,31680,1440,⟨#[111,117,116,101,114]⟩⟩,⟨46,3,0,32767,0,⟨#[102,105,114,115,116,45,112,97,103,101]⟩⟩,⟨47,3,1,6,1,⟨#[112,97,103,101,45,102,111,114,109,97,116]⟩⟩,⟨50,4,0,1,0,⟨#[104,101,97,100,101,114]⟩⟩,⟨51,4,0,1,0,⟨#[99,97,110,116,45,115,112,108,105,116]⟩⟩,⟨52,4,0,31680,0,⟨#[114,111,119,45,104,101,105,103,104,116]⟩⟩,⟨60,5,1,32,1,⟨#[99,111,108,117,109,110,45,115,112,97,110]⟩⟩,⟨61,5,0,2,0,⟨#[118,101,114,116,105,99,97,108,45,109,101,114,103,101]⟩⟩,⟨62,5,0,31680,0,⟨#[99,101,108,108,45,119,105,100,116,104]⟩⟩,⟨63,5,0,16777215,16777215,⟨#[115,104,97,100,101]⟩⟩,⟨70,6,0,31680,0,⟨#[116,97,98,108,101,45,119,105,100,116,104]⟩⟩,⟨71,6,0,2,0,⟨#[116,97,98,108,101,45,97,108,105,103,110]⟩⟩]
set_option maxRecDepth 20000 in
theorem akI (G:GH) (w0:World) (hG:Hold G w0):Calls prog 203 #[] w0 (bY w0 G fun u G'=>aC G' (.sl 6 (Hr.map kC.dat)) u):=by
 refine eN [] func203 rfl ntmps203 rfl rfl hG ?_;intro a H;refine kP H (SR fun _ K1=>ak K1 rfl (SR fun _ K2=>?_));clear H K1;intro a H;(iterate 45 refine lJ abV [_,_,_,_,_,_] H wn rfl rfl rfl rfl ?_;clear H;intro a H);refine amL MB vB (Hr.map kC.cells) H wn rfl rfl rfl rfl rfl rfl rfl ?_;clear H;intro b46 a w apI H;refine kH H (ak K2 rfl ?_);clear H K2;intro a H;refine lr H results203 rfl ?_;obtain ⟨Gz,hmz,hbz,H⟩:=H.dW;exact H.rt (aC.eZ (n:=45) (cap:=45) hbz rfl (dw _) (show 45≤maxLen by decide) (lZ (dw _)) (akH _ _))
theorem aaH (G:GH) (w0:World) (hG:Hold G w0) (x:Int):Calls prog 173 #[vi x] w0 (bY w0 G fun u G'=>u=.bool false∧G=G'):=by
 refine eN [(0,_)] func173 rfl ntmps173 rfl rfl hG ?_;intro a H;exact kP H (SR fun _ K1=>ak K1 rfl (SR fun _ K2=>Rm rfl (Rm rfl (Rc rfl (ak K2 rfl (LR results173 rfl fun H=>H.rt ⟨by simp,rfl⟩))))))
theorem QL {x y z:Int} (h:(x < y∧z=-1)∨(y < x∧z=1)∨(x=y∧z=0)):z=Da x y:=by
 unfold Da;split
 ·omega
 split <;> omega
theorem aeV (G:GH) (w0:World) (hG:Hold G w0) (x y:Int):Calls prog 206 #[vi x,vi y] w0 (bY w0 G fun u G'=>u=vi (Da x y)):=by
 refine eN [(0,_),(1,_)] func206 rfl ntmps206 rfl rfl hG ?_;intro a H;refine kP H (SR fun _ K1=>ak K1 rfl (SR fun _ K2=>Rm rfl ?_));clear H K1;intro a H;refine s_call Yy H wn rfl (aaH _ _ H.ro x) rfl ?_;clear H;rintro v8 G8 a w ⟨rfl,-⟩ zV H;refine kH H (ak K2 rfl (SR fun _ K3=>Rm rfl ?_));clear H K2;intro a H;refine s_call Yy H wn rfl (aaH _ _ H.ro y) rfl ?_;clear H;rintro v10 WH a w ⟨rfl,-⟩ Oi H;refine kH H (ak K3 rfl (SQ fun _ K4=>SR fun _ K5=>Rm rfl (Kz K5 (Cd rfl ?_ ?_)))) <;> clear H K3 K5
 ·intro h11 a H
  cases h11
 intro h11 a H
 try have xP:=dF h11
 refine kP H (Kc K4 (SQ fun _ K6=>SR fun _ K7=>Rm rfl (Kz K7 (Cd rfl ?_ ?_)))) <;> clear H K4 K7
 ·intro gy a H
  cases gy
 intro gy a H
 try have pO:=dF gy
 refine kP H (Kc K6 (SQ fun _ K8=>SR fun _ K9=>Rm rfl (Rm rfl (Rc rfl (Kz K9 (Cd rfl ?_ ?_)))))) <;> clear H K6 K9
 ·intro h16 a H
  try have p16:=dT h16
  exact kP H (SR fun _ aV=>ak aV rfl (LR results206 rfl fun H=>H.rt (av vi (QL (by omega)))))
 intro h16 a H
 try have p16:=dF h16
 refine kP H (Kc K8 (SQ fun _ bF=>SR fun _ bG=>Rm rfl (Rm rfl (Rc rfl (Kz bG (Cd rfl ?_ ?_)))))) <;> clear H K8 bG
 ·intro h19 a H
  try have wL:=dT h19
  exact kP H (SR fun _ bM=>ak bM rfl (LR results206 rfl fun H=>H.rt (av vi (QL (by omega)))))
 intro h19 a H
 try have wL:=dF h19
 exact kP H (Kc bF (SR fun _ bN=>ak bN rfl (LR results206 rfl fun H=>H.rt (av vi (QL (by omega))))))
end
section
open Go.RowKit
theorem ahd:dJ prog 224 0 0:=⟨by kernel_rfl⟩
theorem agi:∀ args w,(callFunc 206 args).run prog w=.ok (.enter 206 args) w:=enters func206 rfl (by kernel_rfl)
theorem acA:prog.underlying 65=some (.int .u64):=by kernel_rfl
theorem agh:∀ args w,(callFunc 205 args).run prog w=.ok (.enter 205 args) w:=enters func205 rfl (by kernel_rfl)
theorem X5 (G:GH) (w0:World) (hG:Hold G w0) (x:kC) (t:Int):zD prog (.func (.func 205) #[] #[]) [.agg x.cells.toArray,vi t] w0 (bY w0 G fun u G'=>u=vi (Da x.num t)):=by
 refine nK (caps:=[]) agh ?_;refine eN [(0,_),(1,_)] func205 rfl ntmps205 rfl rfl hG ?_;intro a H;refine dh (fun _ K1=>?_);refine fB (cs:=[_,_,_,_,_,_]) H wn rfl rfl rfl ?_;clear H;intro b2 a w hb2 H;refine kH H (ak K1 rfl (SR fun _ K2=>aT ahd aD 0 rfl rfl (Rm rfl ?_)));clear H K1;intro a H;refine s_call agi H wn rfl (aeV _ _ H.ro x.num t) rfl ?_;clear H;rintro v8 G8 a w rfl zV H;exact kH H (ak K2 rfl (LR results205 rfl fun H=>H.rt rfl))
theorem adY (G:GH) (w0:World) (hG:Hold G w0) (l:List kC) (t:Int) (v:aj) (hv:aC G (.sl 6 (l.map kC.dat)) v) (hl:l.length≤4294967296) :
  Calls prog 204 #[v,vi t,.func (.func 205) #[] #[]] w0 (bY w0 G fun u G'=>u=.tuple #[vi (BO (l.map kC.num) t),.bool (EG (l.map kC.num) t)]):=by
 obtain ⟨A,c,rfl,hc1,hc2,-⟩:=hv.slice;rw [bQ] at *;obtain ⟨p,hp⟩:∃ p:Nat→Bool,p=fun h=>decide (¬ (l.map kC.num).getD h 0 < t):=⟨_,rfl⟩
 have hbs:BO (l.map kC.num) t=Bj p l.length 0 l.length:=by rw [hp,BO,bQ]
 refine eN [(0,_),(1,_),(2,_)] func204 rfl ntmps204 rfl rfl hG ?_;intro a H;refine kP H (SR fun _ K1=>Ra rfl (ak K1 rfl (SR fun _ K2=>Rm rfl (Rl MB rfl (ak K2 rfl (SR fun _ K3=>Rm rfl (Ra rfl (ak K3 rfl (SQ fun _ K4=>SB ?_)))))))));clear H K1 K2 K3;intro a H;skip;refine eT (ι:=Nat × Nat × Nat × GH) (Tc:=[(0,_),(1,_),(2,_),(8,_)]) (Lc:=[]) (fun gh=>[(9,vi gh.1),(10,vi gh.2.1)]) (fun gh=>[]) (fun gh=>gh.2.2.2) (fun gh=>gh.1≤gh.2.1∧gh.2.1≤l.length∧gh.2.1 - gh.1≤gh.2.2.1∧Bj p gh.2.2.1 gh.1 gh.2.1=BO (l.map kC.num) t∧(∀ b o,G b=some o→gh.2.2.2 b=some o)) (fun gh=>gh.2.1 - gh.1) ((0,l.length,l.length,G)) (by exact (H).sub ⟨rfl,rfl,rfl,rfl,rfl,rfl,aB⟩) ?_ ?_
 ·exact ⟨gX _,dw _,Nat.sub_le _ _,hbs.symm,fun _ _ h=>h⟩
 clear H;rintro ⟨i,j,f,g⟩ a w hI H;dsimp only at hI H;obtain ⟨hij,hj,hf1,heq,hgm⟩:=hI;have GZ:=hv.mono hgm;dsimp only [lca,aO] at H;refine kP H (SQ fun _ K5=>SR fun _ K6=>Rm rfl (Rm rfl (Rc rfl (Kz K6 (Cd rfl ?_ ?_))))) <;> clear H K6
 ·intro gK a H
  try have mo:=dT gK
  have hlt:i < j:=by omega
  rw [akf hf1 hlt] at heq;obtain ⟨m,hm⟩:∃ m,m=(i+j) / 2:=⟨_,rfl⟩;rw [← hm] at heq
  have hml:m < l.length:=by omega
  obtain ⟨b,o,rfl,hrow⟩:=U1 GZ hml
  have hpm:p m=decide (¬ l[m].num < t):=by rw [hp];dsimp only;rw [getD_map hml]
  rw [hpm] at heq;refine kP H (Kc K5 (SB (SR fun _ K7=>Rm rfl (Rm rfl (Rd rfl ?_)))));clear H K5;intro a H;rw [show ((i:Int)+(j:Int))=((i+j:Nat):Int) by push_cast;rfl] at H;refine JF ((i+j:Nat):Int) acA nZ H wn rfl (akg (by omega) (by omega)) rfl ?_;clear H;intro a H;refine abJ _ H wn rfl rfl rfl (by decide) rfl ?_;clear H;intro a H;rw [ake,← hm] at H;refine JF (m:Int) nZ acA H wn rfl (Jq (by omega) (by omega)) rfl ?_;clear H;intro a H;refine kH H (ak K7 rfl (SR fun _ K8=>Rm rfl (Rm rfl (Rm rfl (Ri MB vB rfl rfl ?_)))));clear H K7;intro a H;refine bP vB (cs:=[_,_,_,_,_,_]) H wn rfl rfl (fun j v hj=>H.hp.aG (hrow j v hj)) rfl ?_;clear H;intro a H;refine kH H (Rm rfl ?_);clear H;intro a H;refine vg H wn rfl rfl (X5 _ _ H.ro l[m] t) rfl ?_;clear H;rintro v30 D5 a w rfl EK H;refine kH H (Rc rfl (Kz K8 (Cd rfl ?_ ?_))) <;> clear H K8
  ·intro h31 a H
   try have p31:=dT h31
   rw [ah (by simpa using Ye.1 p31)] at heq;refine kP H (SC (Rm rfl (Rd rfl (Ra rfl ?_))));clear H;intro a H;refine aJ ?_;refine dH ((m+1,j,f - 1,D5)) (by exact (H).sub ⟨rfl,rfl,rfl,rfl,rfl,rfl,aB⟩) ?_ ?_
   ·(try dsimp only);exact ⟨by omega,hj,by omega,heq,fun b o h=>EK b o (hgm b o h)⟩
   first|omega|(dsimp only;omega)
  intro h31 a H
  try have p31:=dF h31
  rw [au (by simpa using fun h=>p31 (Ye.2 h))] at heq;refine kP H (SC (Rm rfl (Ra rfl ?_)));clear H;intro a H;refine aJ ?_;refine dH ((i,m,f - 1,D5)) (by exact (H).sub ⟨rfl,rfl,rfl,rfl,rfl,rfl,aB⟩) ?_ ?_
  ·(try dsimp only);exact ⟨by omega,by omega,by omega,heq,fun b o h=>EK b o (hgm b o h)⟩
  first|omega|(dsimp only;omega)
 intro gK a H
 try have mo:=dF gK
 refine dR ?_;refine K4 _ _ ?_;clear K4;refine aN (fun _ K9=>?_);rw [akd (by omega)] at heq;refine kP H (SC (Rm rfl (Rm rfl (Rm rfl (Rc rfl (Rm rfl (Sp 39 rfl ?_ ?_))))))) <;> clear H
 ·intro jR a H
  try have p39:=dT jR
  have hil:i < l.length:=by omega
  obtain ⟨b,o,rfl,hrow⟩:=U1 GZ hil;refine kH H (YM jR rfl (YM jR rfl (YM jR rfl (YI MB vB jR rfl rfl ?_))));clear H;intro a H;refine bP vB (cs:=[_,_,_,_,_,_]) H (wg H rfl rfl jR) rfl rfl (fun j v hj=>H.hp.aG (hrow j v hj)) rfl ?_;clear H;intro a H;refine kH H (YM jR rfl ?_);clear H;intro a H;refine vg H (wg H rfl rfl jR) rfl rfl (X5 _ _ H.ro l[i] t) rfl ?_;clear H;rintro v46 Qc a w rfl Dx H;refine kH H (YC jR rfl (Pt jR rfl (Ra rfl (aM K9 rfl ?_))));clear H K9;intro a H;refine dG ?_;refine (gV H results204 (.cons (bB H rfl) (.cons (bB H rfl) .nil)) ?_).1;exact H.rt (by rw [ahZ heq.symm (by rw [bQ];omega),← heq];simp)
 intro jR a H
 try have p39:=dF jR
 refine kH H (aZ jR rfl (aZ jR rfl (aS jR rfl (Pf jR rfl (Ra rfl (aM K9 rfl ?_))))));clear H K9;intro a H;refine dG ?_;refine (gV H results204 (.cons (bB H rfl) (.cons (bB H rfl) .nil)) ?_).1;exact H.rt (by rw [aib heq.symm (by rw [bQ];omega),← heq])
end
section
open Go.RowKit
theorem Rp:∀ args w,(callFunc 84 args).run prog w=.ok (.enter 84 args) w:=enters func84 rfl (by kernel_rfl)
theorem Nv:∀ args w,(callFunc 149 args).run prog w=.ok (.enter 149 args) w:=enters func149 rfl (by kernel_rfl)
theorem ko:Ty prog 48 2 16 [.int .i64 0,.int .i64 0] true:=⟨by kernel_rfl,by kernel_rfl⟩
theorem JN:Ty prog 212 1 8 [.nilFunc] false:=⟨by kernel_rfl,by kernel_rfl⟩
theorem JJ:sU prog 48 [(0,1),(1,1)] [.int .i64 0,.int .i64 0]:=⟨by kernel_rfl,by kernel_rfl⟩
theorem Yw:∀ args w,(callFunc 150 args).run prog w=.ok (.enter 150 args) w:=enters func150 rfl (by kernel_rfl)
theorem Q6:∀ args w,(callFunc 193 args).run prog w=.ok (.enter 193 args) w:=enters func193 rfl (by kernel_rfl)
def rZ (x:ay):Nat:=if x.kind=1 then xu x.text else 1
mutual
def EX (flow at_:Int):ay→List ((Int × Int) × ay)
 | .mk k c i t h f r=>if k=6 then ((flow,at_),.mk k c i t h f r) :: fM i 0 f else if k=7 then ((flow,at_),.mk k c i t h f r) :: rU r else []
/-- The notes and tables of a flow, and those in them, with their positions. -/
def fM (flow:Int):Int→List ay→List ((Int × Int) × ay)
 | _,[]=>[]
 | at_,x :: l=>EX flow at_ x++fM flow (at_+rZ x) l
def rU:List bH→List ((Int × Int) × ay)
 | []=>[]
 | r :: l=>HZ r++rU l
def HZ:bH→List ((Int × Int) × ay)
 | .mk _ cs=>jN cs
def jN:List bD→List ((Int × Int) × ay)
 | []=>[]
 | c :: l=>EW c++jN l
def EW:bD→List ((Int × Int) × ay)
 | .mk i _ f=>fM i 0 f
end
def kJ (x:ay):List bD:=if x.kind=7 then x.rows.flatMap bH.cells else [.mk x.id ⟨[],⟨0,0,[],[]⟩⟩ x.flow]
theorem abm (x:bD):EW x=fM x.id 0 x.flow:=by cases x;simp [EW,bD.id,bD.flow]
theorem abp (x:bH):HZ x=jN x.cells:=by cases x;simp [HZ,bH.cells]
theorem abn:∀ a b:List bD,jN (a++b)=jN a++jN b
 | [],b=>by simp [jN]
 | x :: a,b=>by simp [jN,abn a b]
theorem abq:∀ l:List bH,rU l=jN (l.flatMap bH.cells)
 | []=>by simp [rU,jN]
 | x :: l=>by simp [rU,abp,abn,abq l]
theorem JA (flow at_:Int) (x:ay):EX flow at_ x=if x.kind=6∨x.kind=7 then ((flow,at_),x) :: jN (kJ x) else []:=by
 obtain ⟨k,c,i,t,h,f,r⟩:=x
 simp only [EX,kJ,ay.kind,ay.rows,ay.id,ay.flow]
 by_cases h6:k=6
 ·subst h6;simp [jN,EW]
 by_cases h7:k=7
 ·subst h7;simp [abq]
 simp [h6,h7]
theorem aaF {x:ay} {c:bD} (h:c∈kJ x):bq c.flow < cO x.dat:=by
 have h4:=oW x
 unfold kJ at h
 split at h
 ·obtain ⟨r,hr,hc⟩:=List.mem_flatMap.1 h;have h1:=ado hr;have h2:=adi hc;have h3:=uD r;have h5:=uz c
  omega
 rw [vQ.1 h];show bq x.flow < _;omega
def Aa (a:(Int × Int) × ay):AP:=fun args g=>∃ cs,args=[.agg #[vi a.1.1,vi a.1.2],.agg cs.toArray]∧bJ g a.2.dat cs
theorem Cv {A:List ((Int × Int) × ay)} {k:Nat} {args:List aj} {g:GH} (h:yu (A.map Aa) k args g):∃ (hk:k < A.length) (cs:List aj),args=[.agg #[vi A[k].1.1,vi A[k].1.2],.agg cs.toArray]∧bJ g A[k].2.dat cs:=by
 obtain ⟨p,hp,hargs⟩:=h;rw [qE] at hp;obtain ⟨q,hq,rfl⟩:=oC.1 hp;obtain ⟨hk,rfl⟩:=lG.1 hq;exact ⟨hk,hargs⟩
def Io (n:Nat):Prop:=∀ (G:GH) (l:List ay) (id:Int) (bl bi:Nat) (v:aj),bq l < n→aG G bl 0=some v→aG G bi 0=some (vi id)→aC G (.sl 11 (l.map ay.dat)) v →
 Iter prog G (.func (.func 149) #[] #[(aQ bl 0),(aQ bi 0)]) ((fM id 0 l).map Aa)
theorem Vy {n:Nat} (ih:Io n) (G:GH) (w0:World) (hG:Hold G w0) (l:List ay) (id:Int) (v:aj) (hz:bq l < n) (hv:aC G (.sl 11 (l.map ay.dat)) v) :
  Calls prog 84 #[vi id,v] w0 (bY w0 G fun u G'=>∃ bl bi,u=.func (.func 149) #[] #[(aQ bl 0),(aQ bi 0)]∧Iter prog G' u ((fM id 0 l).map Aa)):=by
 obtain ⟨A,c,rfl,hc1,hc2,hg⟩:=hv.slice;refine eN [(0,_),(1,_)] func84 rfl ntmps84 rfl rfl hG ?_;intro a H;refine dh (fun _ K1=>?_);refine fB (cs:=[_]) H wn rfl rfl rfl ?_;clear H;intro b2 a w hb2 H;refine fB (cs:=[_]) H wn rfl rfl rfl ?_;clear H;intro b3 a w hb3 H;refine kH H (ak K1 rfl (SR fun _ K2=>?_));clear H K1;intro a H;refine pV H wn rfl rfl ?_;clear H;intro a H;refine kH H (ak K2 rfl ?_);clear H K2;intro a H;refine dG ?_;obtain ⟨G2,hm2,hb3,H⟩:=H.dW;obtain ⟨G3,qM,hb2,H⟩:=H.dW;refine lv H results84 rfl ?_;exact H.rt ⟨b3,b2,rfl,ih _ _ _ _ _ _ hz (aH qM (by unfold aG;rw [hb3];rfl)) (by unfold aG;rw [hb2];rfl) (hv.mono fun b o h=>qM _ _ (hm2 _ _ h))⟩
theorem RU:∀ l:List bH,(l.flatMap bH.cells).length≤eD l
 | []=>dw _
 | x :: l=>by
  have h1:=RU l;have h2:=Fq x.cells;have h3:=uD x
  simp only [List.flatMap_cons,jP,eD,dV,dZ] at *;omega
theorem apf (l:List bH) (k:Nat):eD (l.take k)≤eD l:=by
 have h:eD l=eD (l.take k++l.drop k):=by rw [List.take_append_drop]
 rw [h];simp only [eD,mW,PE];omega
theorem Vw (c:bD) (l:List bD):jN (c :: l)=fM c.id 0 c.flow++jN l:=by rw [jN,abm]
set_option maxHeartbeats 1000000 in
theorem aoU {n:Nat} (ih:Io n) (hn:n≤4294967296) {G:GH} {x:ay} {bx:Nat} {cs:List aj} (hsz:cO x.dat≤n) (hb:G bx=some (.cells cs.toArray 68 (0,0))) (hv:bJ G x.dat cs) :
  Iter prog G (.func (.func 193) #[] #[(aQ bx 0)]) ((jN (kJ x)).map Aa):=by
 intro J Jx fv G1 L w0 Du hGi nk hJx hJ hO hcb;refine nK (caps:=[(aQ bx 0)]) Q6 ?_;obtain ⟨pA,pn,pc,dA,dn,dc,yA,yn,yc,fA,fn,fc,rA,rn,rc,rfl,hh,hf,hr⟩:=hv.item;have hsz1:=oW x;have hrn:=hr.len;rw [bQ] at hrn;subst hrn;have hrs:=Fv x.rows
 have hrow:∀ j u,[vi x.kind,vi x.code,vi x.id,.string x.text,.slice pA pn pc,vi x.head.marks.ins,vi x.head.marks.move,.slice dA dn dc,.slice yA yn yc,.slice fA fn fc,.slice rA x.rows.length rc][j]?=some u→aG G1 bx (0+j)=some u:=by
  intro j u hj;refine aH hGi ?_
  unfold aG;rw [hb];simpa using hj
 have hfc:aG G1 bx 0=some (vi x.kind)∧aG G1 bx 2=some (vi x.id)∧aG G1 bx 9=some (.slice fA fn fc)∧aG G1 bx 10=some (.slice rA x.rows.length rc):=⟨hrow 0 _ rfl,hrow 2 _ rfl,hrow 9 _ rfl,hrow 10 _ rfl⟩;obtain ⟨hc0,hc2,hc9,apL⟩:=hfc
 have hml:4294967297≤maxLen:=by decide
 refine lq (N:=50) (T:=[(0,_),(1,_)]) func193 rfl ntmps193 rfl rfl hO ?_;intro a H;refine dh (fun _ K1=>?_);refine fB (cs:=[fv]) H wn rfl Du rfl ?_;clear H;intro b2 a w hb2 H;refine K1 _ _ ?_;clear K1;refine kP H (SR fun _ K2=>Rf uN rfl (Rg aD rfl (by assumption) ?_));clear H;intro a H;refine kH H (Rf Ca rfl (Rg jJ rfl (by assumption) ?_));clear H;intro a H;refine lJ abU [_,_,_,_,_,_,_] H wn rfl rfl rfl rfl ?_;clear H;intro a H;refine jy mE kg [_,_,_,_,_,_,_] [_,_,_,_,_,_,_] H wn rfl rfl rfl rfl rfl (by intro i q h;match i,h with|0,h=>exact h|n+1,h=>simp at h) rfl rfl ?_;clear H;intro b15 a w Tt H;refine kH H (ak K2 rfl (SQ fun _ K3=>SR fun _ K4=>Rf gJ rfl (Rg aD rfl (by assumption) ?_)));clear H K2;intro a H;refine kH H (Rc rfl (Kz K4 (Cd rfl ?_ ?_))) <;> clear H K4
 ·intro h18 a H
  try have xQ:=dT h18
  refine kP H (SR fun _ K5=>ak K5 rfl (SR fun _ K6=>Rf uP rfl (Rg vD rfl (by assumption) ?_)));clear H K5;intro a H;refine kH H (Rl ku rfl (Rm rfl (Kz K6 (SB ?_))));clear H K6;intro a H;skip;refine eT (ι:=Nat × aj × List aj × OL) (Tc:=[(2,_),(20,_),(21,_)]) (Lc:=[(_,_)]) (fun gh=>[(3,gh.2.1),(22,vi gh.1)]) (fun gh=>[]++(L++gh.2.2.2)) (fun gh=>G1) (fun gh=>gh.1≤x.rows.length∧gQ 147 7 gh.2.1 ((x.rows.take gh.1).flatMap bH.cells).length gh.2.2.1 gh.2.2.2∧ig G1 7 (((x.rows.take gh.1).flatMap bH.cells).map bD.dat) gh.2.2.1) (fun gh=>x.rows.length - gh.1) ((0,.slice none 0 0,[],[])) (by exact (St.Vd (A:=[_]) (H.dB (Pl:=[_,_]) (cB:=[_]) [1] (by decide) rfl)).sub ⟨rfl,rfl,rfl,rfl,rfl,aB⟩) ?_ ?_
  ·exact ⟨by omega,gQ.nil,by simpa using ig.nil⟩
  clear H;rintro ⟨rk,v3,xs,Lo⟩ a w hI H;dsimp only at hI H;obtain ⟨Oz,hrw3,rO⟩:=hI;dsimp only [lca,aO] at H;refine kP H (SR fun _ K7=>Rc rfl (Kz K7 (SQ fun _ K8=>Cd rfl ?_ ?_))) <;> clear H K7
  ·intro h23 a H
   try have Cr:=dT h23
   have hk2:rk < x.rows.length:=by omega
   obtain ⟨b,o,qA,qn,qc,eA,en,ec,zA,zn,zc,cA,cn,cc,rfl,hrow,Ck,hcl⟩:=E5 hk2 hr.at_;replace hrow:=fun j u hj=>aH hGi (hrow j u hj);have ZB:=hcl.len;rw [bQ] at ZB;subst ZB;have hsz2:=RU (x.rows.take (rk+1));have GY:=apf x.rows (rk+1);rw [mV hk2,List.flatMap_append,jP,List.flatMap_singleton] at hsz2;rw [mV hk2] at GY;refine kP H (Kc K8 (SQ fun _ K9=>SB (SR fun _ aV=>Ri ku kQ rfl rfl ?_)));clear H K8;intro a H;refine bP kQ (cs:=[_,_,_,_,_,_]) H wn rfl rfl (fun j v hj=>H.hp.aG (hrow j v hj)) rfl ?_;clear H;intro a H;refine eH kQ H wn rfl ?_;clear H;intro b5 a w hb5 H;refine bT kQ 0 (vs:=[_,_,_,_,_,_]) _ H wn rfl rfl rfl rfl rfl rfl rfl rfl ?_;clear H;intro w H;dsimp only [List.set,setRow] at H;refine aV _ _ ?_;clear aV;refine kP H (SC (Rm rfl (aT ru rY 0 rfl rfl ?_)));clear H;intro a H;refine Cz (Li:=[_,_]++L) (Lo:=Lo) mE kg rfl rfl (St.un (A:=[_,_]) H) wn rfl rfl hrw3 (hcl.mono hGi) (by omega) (by omega) rfl ?_;clear H;intro v29 adB news a w ajC hcn H;refine kH H (Ra rfl ?_);clear H;intro a H;refine aJ ?_;replace H:=H.assoc.dB (Pl:=[_,_]) (cB:=[_]) [1] (by decide) rfl;refine K9 _ _ ?_;clear K9;refine kP H (SC (Rd rfl (Rm rfl ?_)));clear H;intro a H;refine aJ ?_;refine dH ((rk+1,v29,xs++news,adB)) (by exact H.sub ⟨rfl,rfl,rfl,rfl,rfl,aB⟩) ?_ ?_
   ·(try dsimp only);exact ⟨by omega,by rw [mV hk2,List.flatMap_append,jP,List.flatMap_singleton];exact ajC,by rw [mV hk2,List.flatMap_append,mW,List.flatMap_singleton];exact rO.append hcn⟩
   first|omega|(dsimp only;omega)
  intro h23 a H
  try have Cr:=dF h23
  have ajy:rk=x.rows.length:=by omega
  subst ajy;rw [Eo] at hrw3 rO;obtain ⟨G3,qM,hin,H⟩:=(St.un (A:=[_]) H).Gf (rows:=((x.rows.flatMap bH.cells)).map bD.dat) hrw3 (by simp) rO
  replace hin:aC G3 (.sl 7 ((kJ x).map bD.dat)) v3:=by rw [kJ,au xQ];exact hin
  obtain ⟨iA,ni,ic,rfl⟩:=hin.form;have Ul:=hin.len;rw [bQ] at Ul
  have hisz:(kJ x).length≤4294967296:=by
   have h1:=RU x.rows;rw [kJ,au xQ];omega
  refine dR ?_;refine K3 _ _ ?_;clear K3;refine kP H (SR fun _ bF=>Rm rfl (Rl mE rfl (Rm rfl (Kz bF (SB ?_)))));clear H bF;intro a H;skip;refine Ng (ι:=Nat × Nat × OL × GH × List Nat) (Tc:=[(2,_),(31,_),(32,_)]) (Lc:=[(_,_)]) (fun gh=>Jv gh.2.2.2.2) (fun gh=>[(33,vi gh.1)]) (fun gh=>[]++(lW gh.2.2.2.2++gh.2.2.1)) (fun gh=>gh.2.2.2.1) (fun gh=>gh.1≤(kJ x).length∧(∀ b o,G3 b=some o→gh.2.2.2.1 b=some o)∧Now ((jN (kJ x)).map Aa) Aa J (jN (kJ x)).length gh.2.1 (jN ((kJ x).drop gh.1)) gh.2.2.2.1 gh.2.2.1) (fun gh=>(kJ x).length - gh.1) ((0,0,L,G3,[])) (by exact (H).sub ⟨rfl,rfl,rfl,rfl,aB⟩) ?_ ?_
  ·exact ⟨by omega,fun _ _ h=>h,⟨nk _ _ _ _ qM hJ,fun i a h=>by rw [nT,qE];rw [jW] at h;rw [h];rfl,by simp⟩⟩
  clear H;rintro ⟨ck,j1,Lt,g,ds⟩ a w hI H;dsimp only at hI H;obtain ⟨hck,hgm,bO⟩:=hI;dsimp only [lca,aO] at H;refine kP H (SR fun _ bG=>Rc rfl (Kz bG (SQ fun _ bM=>Cd rfl ?_ ?_))) <;> clear H bG
  ·intro eG a H
   try have p34:=dT eG
   have hk3:ck < (kJ x).length:=by omega
   obtain ⟨b,o,sA,sn,sc,tA,tn,tc,uA,un,uc,gA,gn,gc,TR,hrow,hch,hcf⟩:=C8 hk3 hin.at_;subst TR;replace hrow:=fun j u hj=>aH hgm (hrow j u hj);rw [jV hk3,Vw] at bO;refine kP H (Kc bM (SQ fun _ bN=>SB (SR fun _ bW=>Ri mE kg rfl rfl ?_)));clear H bM;intro a H;refine bP kg (cs:=[_,_,_,_,_,_,_]) H wn rfl rfl (fun j v hj=>H.hp.aG (hrow j v hj)) rfl ?_;clear H;intro a H;refine eH kg H wn rfl ?_;clear H;intro b7 a w zT H;refine bT kg 0 (vs:=[_,_,_,_,_,_,_]) _ H wn rfl rfl rfl rfl rfl rfl rfl rfl ?_;clear H;intro w H;dsimp only [List.set,setRow] at H;refine bW _ _ ?_;clear bW;refine kP H (SR fun _ cK=>aT Dc aD 0 rfl rfl (aT Df jJ 0 rfl rfl ?_));clear H;intro a H;refine s_call Rp H wn rfl (Vy ih _ _ H.ro (kJ x)[ck].flow (kJ x)[ck].id _ (by have:=aaF (jv hk3);omega) (hcf.mono hgm)) rfl ?_;clear H;rintro v41 J4 a w ⟨bl,bi,rfl,hit⟩ Ci H;refine cK _ _ ?_;clear cK;refine sD ?_;skip;refine BP (ι:=OL) (κ:=OL) (Lc:=[(_,_),(_,_)]) (fun (k:Nat) (gh:OL)=>[]) (fun (k:Nat) (gh:OL)=>(lW ds++gh)) (fun (k:Nat) (gh:OL) (g:GH)=>J (j1+k) g gh) (fun (gx:OL)=>Code.ret) (fun (gx:OL)=>[]) (fun (gx:OL)=>(lW ds++gx)) (fun (gx:OL) (g:GH)=>Jx g gx) (Lt) (by exact H) rfl Nv (hit) (fun _ _ h=>h) rfl (fun k args g h=>by obtain ⟨_,_,rfl,_⟩:=Cv h;rfl) (fun k i G G' hm h=>nk _ _ _ _ hm h) (fun x G G' hm h=>hJx _ _ _ hm h) (nk _ _ _ _ Ci bO.now) ?_ ?_ ?_
   ·clear H;intro l13 uX sw bk k args vJ Ao w13 F13 B13 a TT rQ hI TA Ui UD H;obtain ⟨hk,Nl,rfl,yZ⟩:=Cv TT;obtain ⟨aA,an,ac,bA,bn,bc,Nn,Nr,Np,Ns,ND,Nt,OE,OH,OG,rfl,-⟩:=yZ.item;dsimp only [qX,List.cons_append,List.nil_append] at H;refine dh (fun _ bS=>?_);refine eH ko H wn rfl ?_;clear H;intro b8 a w yT H;refine bT ko 0 (vs:=[_,_]) _ H wn rfl rfl rfl rfl rfl rfl rfl rfl ?_;clear H;intro w H;dsimp only [List.set,setRow] at H;refine bS _ _ ?_;clear bS;refine qG ?_;refine eH fC H wn rfl ?_;clear H;intro b9 a w wD H;refine bT fC 0 (vs:=[_,_,_,_,_,_,_,_,_,_,_]) _ H wn rfl rfl rfl rfl rfl rfl rfl rfl ?_;clear H;intro w H;dsimp only [List.set,setRow] at H;refine aJ ?_;refine TA _ _ _ _ _ _ (by exact H.dB (Pl:=[_,_,_,_,_]) (cB:=[_,_,_,_,_]) [2,0,1,3,4] (by decide) rfl) ?_;clear H;intro w H;refine kP H (SB (SR fun _ dD=>Ro JN 4 rfl ?_));clear H;intro a H;refine bP ko (cs:=[_,_]) H wn rfl rfl (H.hp.gB 2 rfl rfl) rfl ?_;clear H;intro a H;refine bP fC (cs:=[_,_,_,_,_,_,_,_,_,_,_]) H wn rfl rfl (H.hp.gB 1 rfl rfl) rfl ?_;clear H;intro a H;refine uZ (Li:=([_,_,_,_,_]++bk)++lW ds) (L:=vJ) (St.un (A:=[_,_,_,_,_]++bk) (St.un (A:=[_,_,_,_,_]) H)) wn rfl rfl (hcb (j1+k) _ _ _ _ ⟨_,bO.part k _ (fP hk),_,rfl,yZ⟩ (fun b o h=>rQ b o (Ci b o (hgm b o (qM b o h)))) hI (Hp.owns (Li:=([_,_,_,_,_]++bk)++lW ds) (St.un (A:=[_,_,_,_,_]++bk) (St.un (A:=[_,_,_,_,_]) H)).hp)) rfl ?_;clear H;rintro v47 Qd Kh a w ⟨b47,rfl,hb1,hb2⟩ aja H
    simp only [jQ,nS,kD] at H
    refine kH H (Rn rfl (Kz dD (Cd rfl ?_ ?_))) <;> clear H dD
    ·intro h48 a H
     refine dG ?_;refine (UD (Kh) _ _ _ _ _ (by exact H.dB (Pl:=[_,_,_,_,_]) (cB:=[_,_,_]) [0,3,4] (by decide) rfl) ?_).1 rfl;exact hb2 (by simpa using h48)
    intro h48 a H
    refine fF ?_;refine Ui (Kh) _ _ _ _ _ (by exact H.dB (Pl:=[_,_,_,_,_]) (cB:=[_,_,_]) [0,3,4] (by decide) rfl) ?_;exact hb1 (by simpa using h48)
   ·clear H;intro JZ vJ J5 a w rQ hI H;dsimp only [lca,aO] at H;refine bN _ _ ?_;clear bN;refine kP H (SC (Rd rfl (Rm rfl ?_)));clear H;intro a H;refine aJ ?_;refine Hu ((ck+1,j1+(fM (kJ x)[ck].id 0 (kJ x)[ck].flow).length,vJ,J5,JZ :: ds)) (by exact (H.dB (Pl:=[_,_,_]) (cB:=[_,_]) [2,0] (by decide) rfl).sub ⟨rfl,rfl,rfl,rfl,aB⟩) ?_ ?_
    ·(try dsimp only);exact ⟨by omega,fun b o h=>rQ b o (Ci b o (hgm b o h)),bO.jump (by simpa using hI)⟩
    first|omega|(dsimp only;omega)
   clear H;intro JZ Lx J5 a w rQ hI H;dsimp only [lca,aO] at H;refine dG ?_;refine (xL H 0 rfl ?_).1;clear H;intro a w H;dsimp only [List.eraseIdx_cons_succ,List.eraseIdx_cons_zero] at H;refine (zY (Lh:=[_,_]) _ H ?_).1;clear H;intro a w H;dsimp only [lca,aO] at H;refine (leave0 H results193 ?_).1
   first
    | exact H.hp.bR (L':=Lx) (by repeat (first|exact bZ _|apply List.Sublist.cons)) (.inr hI)
    | exact H.hp.bR (L':=Lt) (by repeat (first|exact bZ _|apply List.Sublist.cons)) (.inl (by rw [fI (by omega),jN] at bO;have:=bO.len;simp only [List.length_nil,nR] at this;rw [bQ,← this];exact bO.now))
  intro eG a H
  try have p34:=dF eG
  refine dR ?_;refine (zY (Lh:=[_]) _ H ?_).2;clear H;intro a w H;dsimp only [lca,aO] at H;refine (leave0 H results193 ?_).1
  first
   | exact H.hp.bR (L':=Lx) (by repeat (first|exact bZ _|apply List.Sublist.cons)) (.inr hI)
   | exact H.hp.bR (L':=Lt) (by repeat (first|exact bZ _|apply List.Sublist.cons)) (.inl (by rw [fI (by omega),jN] at bO;have:=bO.len;simp only [List.length_nil,nR] at this;rw [bQ,← this];exact bO.now))
 intro h18 a H
 try have xQ:=dF h18
 obtain ⟨G3,qM,hin,H⟩:=H.NT (sz:=7) (d:=(bD.mk x.id ⟨[],⟨0,0,[],[]⟩⟩ x.flow).dat) rfl (bJ.O1 (x:=bD.mk x.id ⟨[],⟨0,0,[],[]⟩⟩ x.flow) ⟨aC.lD rfl (by decide),aC.lD rfl (by decide),aC.lD rfl (by decide)⟩ (hf.mono hGi))
 replace hin:aC G3 (.sl 7 ((kJ x).map bD.dat)) (.slice (some ⟨b15,0,none⟩) 1 1):=by rw [kJ,ah xQ];exact hin
 obtain ⟨iA,hiA⟩:∃ z,z=some (Addr.mk b15 0 none):=⟨_,rfl⟩;obtain ⟨ni,hni⟩:∃ z,z=1:=⟨_,rfl⟩;obtain ⟨ic,hic⟩:∃ z,z=1:=⟨_,rfl⟩;rw [← hiA] at hin H;have Ul:=hin.len;rw [bQ] at Ul
 have hisz:(kJ x).length≤4294967296:=by omega
 refine kP H (Kc K3 (SR fun _ dO=>Rm rfl (Rl mE rfl (Rm rfl (Kz dO (SB ?_))))));clear H K3 dO;intro a H;skip;refine Ng (ι:=Nat × Nat × OL × GH × List Nat) (Tc:=[(2,_),(31,_),(32,_)]) (Lc:=[(_,_)]) (fun gh=>Jv gh.2.2.2.2) (fun gh=>[(33,vi gh.1)]) (fun gh=>[]++(lW gh.2.2.2.2++gh.2.2.1)) (fun gh=>gh.2.2.2.1) (fun gh=>gh.1≤(kJ x).length∧(∀ b o,G3 b=some o→gh.2.2.2.1 b=some o)∧Now ((jN (kJ x)).map Aa) Aa J (jN (kJ x)).length gh.2.1 (jN ((kJ x).drop gh.1)) gh.2.2.2.1 gh.2.2.1) (fun gh=>(kJ x).length - gh.1) ((0,0,L,G3,[])) (by exact (H).sub ⟨rfl,rfl,rfl,rfl,aB⟩) ?_ ?_
 ·exact ⟨by omega,fun _ _ h=>h,⟨nk _ _ _ _ qM hJ,fun i a h=>by rw [nT,qE];rw [jW] at h;rw [h];rfl,by simp⟩⟩
 clear H;rintro ⟨ck,j1,Lt,g,ds⟩ a w hI H;dsimp only at hI H;obtain ⟨hck,hgm,bO⟩:=hI;dsimp only [lca,aO] at H;refine kP H (SR fun _ dK=>Rc rfl (Kz dK (SQ fun _ dS=>Cd rfl ?_ ?_))) <;> clear H dK
 ·intro eG a H
  try have p34:=dT eG
  have hk3:ck < (kJ x).length:=by omega
  obtain ⟨b,o,sA,sn,sc,tA,tn,tc,uA,un,uc,gA,gn,gc,TR,hrow,hch,hcf⟩:=C8 hk3 hin.at_;subst TR;replace hrow:=fun j u hj=>aH hgm (hrow j u hj);rw [jV hk3,Vw] at bO;refine kP H (Kc dS (SQ fun _ eP=>SB (SR fun _ gG=>Ri mE kg rfl rfl ?_)));clear H dS;intro a H;refine bP kg (cs:=[_,_,_,_,_,_,_]) H wn rfl rfl (fun j v hj=>H.hp.aG (hrow j v hj)) rfl ?_;clear H;intro a H;refine eH kg H wn rfl ?_;clear H;intro b7 a w zT H;refine bT kg 0 (vs:=[_,_,_,_,_,_,_]) _ H wn rfl rfl rfl rfl rfl rfl rfl rfl ?_;clear H;intro w H;dsimp only [List.set,setRow] at H;refine gG _ _ ?_;clear gG;refine kP H (SR fun _ gT=>aT Dc aD 0 rfl rfl (aT Df jJ 0 rfl rfl ?_));clear H;intro a H;refine s_call Rp H wn rfl (Vy ih _ _ H.ro (kJ x)[ck].flow (kJ x)[ck].id _ (by have:=aaF (jv hk3);omega) (hcf.mono hgm)) rfl ?_;clear H;rintro v41 J4 a w ⟨bl,bi,rfl,hit⟩ Ci H;refine gT _ _ ?_;clear gT;refine sD ?_;skip;refine BP (ι:=OL) (κ:=OL) (Lc:=[(_,_),(_,_)]) (fun (k:Nat) (gh:OL)=>[]) (fun (k:Nat) (gh:OL)=>(lW ds++gh)) (fun (k:Nat) (gh:OL) (g:GH)=>J (j1+k) g gh) (fun (gx:OL)=>Code.ret) (fun (gx:OL)=>[]) (fun (gx:OL)=>(lW ds++gx)) (fun (gx:OL) (g:GH)=>Jx g gx) (Lt) (by exact H) rfl Nv (hit) (fun _ _ h=>h) rfl (fun k args g h=>by obtain ⟨_,_,rfl,_⟩:=Cv h;rfl) (fun k i G G' hm h=>nk _ _ _ _ hm h) (fun x G G' hm h=>hJx _ _ _ hm h) (nk _ _ _ _ Ci bO.now) ?_ ?_ ?_
  ·clear H;intro l13 uX sw bk k args vJ Ao w13 F13 B13 a TT rQ hI TA Ui UD H;obtain ⟨hk,Nl,rfl,yZ⟩:=Cv TT;obtain ⟨aA,an,ac,bA,bn,bc,Nn,Nr,Np,Ns,ND,Nt,OE,OH,OG,rfl,-⟩:=yZ.item;dsimp only [qX,List.cons_append,List.nil_append] at H;refine dh (fun _ gM=>?_);refine eH ko H wn rfl ?_;clear H;intro b8 a w yT H;refine bT ko 0 (vs:=[_,_]) _ H wn rfl rfl rfl rfl rfl rfl rfl rfl ?_;clear H;intro w H;dsimp only [List.set,setRow] at H;refine gM _ _ ?_;clear gM;refine qG ?_;refine eH fC H wn rfl ?_;clear H;intro b9 a w wD H;refine bT fC 0 (vs:=[_,_,_,_,_,_,_,_,_,_,_]) _ H wn rfl rfl rfl rfl rfl rfl rfl rfl ?_;clear H;intro w H;dsimp only [List.set,setRow] at H;refine aJ ?_;refine TA _ _ _ _ _ _ (by exact H.dB (Pl:=[_,_,_,_,_]) (cB:=[_,_,_,_,_]) [2,0,1,3,4] (by decide) rfl) ?_;clear H;intro w H;refine kP H (SB (SR fun _ jf=>Ro JN 4 rfl ?_));clear H;intro a H;refine bP ko (cs:=[_,_]) H wn rfl rfl (H.hp.gB 2 rfl rfl) rfl ?_;clear H;intro a H;refine bP fC (cs:=[_,_,_,_,_,_,_,_,_,_,_]) H wn rfl rfl (H.hp.gB 1 rfl rfl) rfl ?_;clear H;intro a H;refine uZ (Li:=([_,_,_,_,_]++bk)++lW ds) (L:=vJ) (St.un (A:=[_,_,_,_,_]++bk) (St.un (A:=[_,_,_,_,_]) H)) wn rfl rfl (hcb (j1+k) _ _ _ _ ⟨_,bO.part k _ (fP hk),_,rfl,yZ⟩ (fun b o h=>rQ b o (Ci b o (hgm b o (qM b o h)))) hI (Hp.owns (Li:=([_,_,_,_,_]++bk)++lW ds) (St.un (A:=[_,_,_,_,_]++bk) (St.un (A:=[_,_,_,_,_]) H)).hp)) rfl ?_;clear H;rintro v47 Qd Kh a w ⟨b47,rfl,hb1,hb2⟩ aja H
   simp only [jQ,nS,kD] at H
   refine kH H (Rn rfl (Kz jf (Cd rfl ?_ ?_))) <;> clear H jf
   ·intro h48 a H
    refine dG ?_;refine (UD (Kh) _ _ _ _ _ (by exact H.dB (Pl:=[_,_,_,_,_]) (cB:=[_,_,_]) [0,3,4] (by decide) rfl) ?_).1 rfl;exact hb2 (by simpa using h48)
   intro h48 a H
   refine fF ?_;refine Ui (Kh) _ _ _ _ _ (by exact H.dB (Pl:=[_,_,_,_,_]) (cB:=[_,_,_]) [0,3,4] (by decide) rfl) ?_;exact hb1 (by simpa using h48)
  ·clear H;intro JZ vJ J5 a w rQ hI H;dsimp only [lca,aO] at H;refine eP _ _ ?_;clear eP;refine kP H (SC (Rd rfl (Rm rfl ?_)));clear H;intro a H;refine aJ ?_;refine Hu ((ck+1,j1+(fM (kJ x)[ck].id 0 (kJ x)[ck].flow).length,vJ,J5,JZ :: ds)) (by exact (H.dB (Pl:=[_,_,_]) (cB:=[_,_]) [2,0] (by decide) rfl).sub ⟨rfl,rfl,rfl,rfl,aB⟩) ?_ ?_
   ·(try dsimp only);exact ⟨by omega,fun b o h=>rQ b o (Ci b o (hgm b o h)),bO.jump (by simpa using hI)⟩
   first|omega|(dsimp only;omega)
  clear H;intro JZ Lx J5 a w rQ hI H;dsimp only [lca,aO] at H;refine dG ?_;refine (xL H 0 rfl ?_).1;clear H;intro a w H;dsimp only [List.eraseIdx_cons_succ,List.eraseIdx_cons_zero] at H;refine (zY (Lh:=[_,_]) _ H ?_).1;clear H;intro a w H;dsimp only [lca,aO] at H;refine (leave0 H results193 ?_).1
  first
   | exact H.hp.bR (L':=Lx) (by repeat (first|exact bZ _|apply List.Sublist.cons)) (.inr hI)
   | exact H.hp.bR (L':=Lt) (by repeat (first|exact bZ _|apply List.Sublist.cons)) (.inl (by rw [fI (by omega),jN] at bO;have:=bO.len;simp only [List.length_nil,nR] at this;rw [bQ,← this];exact bO.now))
 intro eG a H
 try have p34:=dF eG
 refine dR ?_;refine (zY (Lh:=[_]) _ H ?_).2;clear H;intro a w H;dsimp only [lca,aO] at H;refine (leave0 H results193 ?_).1
 first
  | exact H.hp.bR (L':=Lx) (by repeat (first|exact bZ _|apply List.Sublist.cons)) (.inr hI)
  | exact H.hp.bR (L':=Lt) (by repeat (first|exact bZ _|apply List.Sublist.cons)) (.inl (by rw [fI (by omega),jN] at bO;have:=bO.len;simp only [List.length_nil,nR] at this;rw [bQ,← this];exact bO.now))
theorem acZ {n:Nat} (ih:Io n) (hn:n≤4294967296) (G:GH) (w0:World) (hG:Hold G w0) (x:ay) (cs:List aj) (hsz:cO x.dat≤n) (hv:bJ G x.dat cs) :
  Calls prog 150 #[.agg cs.toArray] w0 (bY w0 G fun u G'=>∃ bx,u=.func (.func 193) #[] #[(aQ bx 0)]∧Iter prog G' u ((jN (kJ x)).map Aa)):=by
 obtain ⟨pA,pn,pc,dA,dn,dc,yA,yn,yc,fA,fn,fc,rA,rn,rc,hcs,-⟩:=hv.item;have hv2:=hv;rw [hcs] at hv2 ⊢;refine eN [(0,_)] func150 rfl ntmps150 rfl rfl hG ?_;intro a H;refine dh (fun _ K1=>?_);refine fB (cs:=[_,_,_,_,_,_,_,_,_,_,_]) H wn rfl rfl rfl ?_;clear H;intro b1 a w hb1 H;refine kH H (ak K1 rfl (SR fun _ K2=>?_));clear H K1;intro a H;refine pV H wn rfl rfl ?_;clear H;intro a H;refine kH H (ak K2 rfl ?_);clear H K2;intro a H;refine dG ?_;obtain ⟨G2,hm2,hb1,H⟩:=H.dW;refine lv H results150 rfl ?_;exact H.rt ⟨b1,rfl,aoU ih hn hsz hb1 (hv2.mono hm2)⟩
theorem adI (x:ay):rZ x < cO x.dat:=by
 have h1:=oW x;have h2:=Es x.text
 unfold rZ;split <;> omega
set_option maxHeartbeats 1000000 in
theorem alX {n:Nat} (ih:Io n) (hn:n≤4294967296):Io (n+1):=by
 intro G l id bl bi v hz hbl hbi hv J Jx fv G1 L w0 Du hGi nk hJx hJ hO hcb;refine nK (caps:=[(aQ bl 0),(aQ bi 0)]) Nv ?_;obtain ⟨A,c,rfl,hc1,hc2,hg⟩:=hv.slice;rw [bQ] at *;have hll:=Fu l;replace hbl:=aH hGi hbl;replace hbi:=aH hGi hbi;refine lq (N:=55) (T:=[(0,_),(1,_),(2,_)]) func149 rfl ntmps149 rfl rfl hO ?_;intro a H;refine dh (fun _ K1=>?_);refine fB (cs:=[fv]) H wn rfl Du rfl ?_;clear H;intro b3 a w hb3 H;refine K1 _ _ ?_;clear K1;refine kP H (SR fun _ K2=>ak K2 rfl (SR fun _ K3=>Rg jJ rfl (by assumption) ?_));clear H K2;intro a H;refine kH H (Rl kr rfl (Rm rfl (Kz K3 (SB ?_))));clear H K3;intro a H;skip;refine Ng (ι:=Nat × Int × Nat × OL × GH × List Nat) (Tc:=[(2,_),(3,_),(12,_),(13,_)]) (Lc:=[(_,_)]) (fun gh=>Jv gh.2.2.2.2.2) (fun gh=>[(4,vi gh.2.1),(14,vi gh.1)]) (fun gh=>[]++(lW gh.2.2.2.2.2++gh.2.2.2.1)) (fun gh=>gh.2.2.2.2.1) (fun gh=>gh.1≤l.length∧(∀ b o,G1 b=some o→gh.2.2.2.2.1 b=some o)∧Now ((fM id 0 l).map Aa) Aa J (fM id 0 l).length gh.2.2.1 (fM id gh.2.1 (l.drop gh.1)) gh.2.2.2.2.1 gh.2.2.2.1∧0≤gh.2.1∧gh.2.1+bq (l.drop gh.1)≤n) (fun gh=>l.length - gh.1) ((0,0,0,L,G1,[])) (by exact (H).sub ⟨rfl,rfl,rfl,rfl,rfl,rfl,aB⟩) ?_ ?_
 ·exact ⟨by omega,fun _ _ h=>h,⟨hJ,fun i a h=>by rw [nT,qE];rw [jW] at h;rw [h];rfl,by simp⟩,Int.le_refl _,by simp;omega⟩
 clear H;rintro ⟨k,at_,j1,Lt,g,ds⟩ a w hI H;dsimp only at hI H;obtain ⟨hk,hgm,bO,apw,hat⟩:=hI;dsimp only [lca,aO] at H;refine kP H (SR fun _ K4=>Rc rfl (Kz K4 (SQ fun _ K5=>Cd rfl ?_ ?_))) <;> clear H K4
 ·intro jI a H
  try have pQ:=dT jI
  have hk2:k < l.length:=by omega
  obtain ⟨b,o,pA,pn,pc,dA,dn,dc,yA,yn,yc,fA,fn,fc,rA,rn,rc,rfl,hrow,hhd,hfl,hrw⟩:=Dl hk2 hg;have oP:∀ b o,G b=some o→g b=some o:=fun b o h=>hgm b o (hGi b o h);replace hrow:=fun j u hj=>aH oP (hrow j u hj);have apK:=aH hgm hbi;have hsz1:=oW l[k];have hsz2:=MJ (jv hk2);have apv:=adI l[k];rw [jV hk2] at bO hat;rw [bq,dV,dZ] at hat;rw [fM] at bO;refine kP H (Kc K5 (SQ fun _ K6=>SB (SR fun _ K7=>Ri kr fC rfl rfl ?_)));clear H K5;intro a H;refine bP fC (cs:=[_,_,_,_,_,_,_,_,_,_,_]) H wn rfl rfl (fun j v hj=>H.hp.aG (hrow j v hj)) rfl ?_;clear H;intro a H;refine eH fC H wn rfl ?_;clear H;intro b6 a w hb6 H;refine bT fC 0 (vs:=[_,_,_,_,_,_,_,_,_,_,_]) _ H wn rfl rfl rfl rfl rfl rfl rfl rfl ?_;clear H;intro w H;dsimp only [List.set,setRow] at H;refine K7 _ _ ?_;clear K7;refine kP H (SR fun _ K8=>Rg aD rfl (by assumption) ?_);clear H;intro a H;refine kH H (Rm rfl ?_);clear H;intro a H;refine lJ JJ [_,_] H wn rfl rfl rfl rfl ?_;clear H;intro a H;refine eH ko H wn rfl ?_;clear H;intro b7 a w zT H;refine bT ko 0 (vs:=[_,_]) _ H wn rfl rfl rfl rfl rfl rfl rfl rfl ?_;clear H;intro w H;dsimp only [List.set,setRow] at H;refine K8 _ _ ?_;clear K8;refine kP H (SR fun _ K9=>Rm rfl (Rd rfl (ak K9 rfl (SR fun _ aV=>aT gJ aD 1 rfl rfl (Kz aV (SB (SR fun _ bF=>Rc rfl (ak bF rfl (Cd rfl ?_ ?_))))))))) <;> clear H K9 aV bF
  ·intro gN a H
   try have p25:=dT gN
   have hcl:=Es l[k].text;refine kP H (SR fun _ bG=>aT uO gW 1 rfl rfl ?_);clear H;intro a H;refine s_call NC H wn rfl (Nk _ _ H.ro _ (by omega)) rfl ?_;clear H;rintro v30 D5 a w ⟨rfl,rfl⟩ EK H;refine kH H (Rm rfl ?_);clear H;intro a H;(iterate 2 refine nA H wn rfl rfl rfl ?_;clear H;intro a H);refine kH H (Ra rfl (ak bG rfl (SC (Rm rfl (Rm rfl (Rs rfl (Rd rfl (Ra rfl ?_))))))));clear H bG;intro a H
   have e:at_+1+((xu l[k].text:Int) - 1)=at_+(rZ l[k]:Int):=by rw [rZ,au p25];omega
   rw [e] at H;refine kH H (Kn K6 (SC (Rd rfl (Rm rfl ?_))));clear H K6;intro a H;refine aJ ?_;refine Hu ((k+1,at_+rZ l[k],j1,Lt,g,ds)) (by exact (H.dB (Pl:=[_,_,_]) (cB:=[_]) [2] (by decide) rfl).sub ⟨rfl,rfl,rfl,rfl,rfl,rfl,aB⟩) ?_ ?_
   ·(try dsimp only);exact ⟨by omega,hgm,by rw [JA,ah (by omega),kD] at bO;exact bO,by omega,by show at_+(rZ l[k]:Int)+(dZ ((l.drop (k+1)).map ay.dat):Nat)≤n;omega⟩
   first|omega|(dsimp only;omega)
  intro gN a H
  try have p25:=dF gN
  have e:at_+1=at_+(rZ l[k]:Int):=by rw [rZ,ah p25];rfl
  rw [e] at H;refine kP H (SQ fun _ bM=>SR fun _ bN=>Rc rfl (ak bN rfl (Cd rfl ?_ ?_))) <;> clear H bN
  ·intro h37 a H
   try have p37:=dT h37
   have Ba:l[k].kind=6∨l[k].kind=7:=by first|exact .inl p37|exact .inr p37
   rw [JA,au Ba] at bO;refine kP H (Kc bM (Ct rfl h37 (SQ fun _ bW=>SR fun _ cK=>Ro JN 2 rfl ?_)));clear H bM;intro a H;refine bP ko (cs:=[_,_]) H wn rfl rfl (H.hp.gB 0 rfl rfl) rfl ?_;clear H;intro a H;refine bP fC (cs:=[_,_,_,_,_,_,_,_,_,_,_]) H wn rfl rfl (H.hp.gB 1 rfl rfl) rfl ?_;clear H;intro a H;refine uZ (Li:=[_,_,_]++lW ds) (L:=Lt) (St.un (A:=[_,_,_]) H) wn rfl rfl (hcb j1 _ _ _ _ ⟨_,bO.head,_,rfl,bJ.mkItem (hhd.mono oP) (hfl.mono oP) (hrw.mono oP)⟩ hgm bO.now (Hp.owns (Li:=[_,_,_]++lW ds) (St.un (A:=[_,_,_]) H).hp)) rfl ?_;clear H;rintro v43 Ap Ef a w ⟨M7,rfl,hb1,hb2⟩ nu H
   simp only [jQ,nS,kD] at H
   refine kH H (Rn rfl (Kz cK (Cd rfl ?_ ?_))) <;> clear H cK
   ·intro kN a H
    try have p44:=dT kN
    refine dG ?_;refine (zY (Lh:=[_,_,_]) _ H ?_).1;clear H;intro a w H;dsimp only [lca,aO] at H;refine (leave0 H results149 ?_).1
    first
     | exact H.hp.bR (L':=Lx) (by repeat (first|exact bZ _|apply List.Sublist.cons)) (.inr hI)
     | exact H.hp.bR (L':=Ef) (by repeat (first|exact bZ _|apply List.Sublist.cons)) (.inr (hb2 (by simpa using kN)))
     | exact H.hp.bR (L':=Lt) (by repeat (first|exact bZ _|apply List.Sublist.cons)) (.inl (by rw [fI (by omega),fM] at bO;have:=bO.len;simp only [List.length_nil,nR] at this;(try rw [bQ]);rw [← this];exact bO.now))
   intro kN a H
   try have p44:=dF kN
   have yY:=bO.step (hb1 (by simpa using kN));refine fF ?_;refine bW _ _ ?_;clear bW;refine dh (fun _ bS=>?_);refine bP fC (cs:=[_,_,_,_,_,_,_,_,_,_,_]) H wn rfl rfl (H.hp.gB 1 rfl rfl) rfl ?_;clear H;intro a H;refine s_call Yw H wn rfl (acZ ih hn _ _ H.ro l[k] _ (by omega) (bJ.mkItem (hhd.mono fun b o h=>nu b o (oP b o h)) (hfl.mono fun b o h=>nu b o (oP b o h)) (hrw.mono fun b o h=>nu b o (oP b o h)))) rfl ?_;clear H;rintro v46 Qc a w ⟨bx,rfl,hit⟩ Dx H;refine bS _ _ ?_;clear bS;refine sD ?_;skip;refine BP (ι:=OL) (κ:=OL) (Lc:=[(_,_),(_,_),(_,_)]) (fun (k:Nat) (gh:OL)=>[]) (fun (k:Nat) (gh:OL)=>(lW ds++gh)) (fun (k:Nat) (gh:OL) (g:GH)=>J (j1+1+k) g gh) (fun (gx:OL)=>Code.ret) (fun (gx:OL)=>[]) (fun (gx:OL)=>(lW ds++gx)) (fun (gx:OL) (g:GH)=>Jx g gx) (Ef) (by exact H) rfl Q6 (hit) (fun _ _ h=>h) rfl (fun k args g h=>by obtain ⟨_,_,rfl,_⟩:=Cv h;rfl) (fun k i G G' hm h=>nk _ _ _ _ hm h) (fun x G G' hm h=>hJx _ _ _ hm h) (nk _ _ _ _ Dx yY.now) ?_ ?_ ?_
   ·clear H;intro l15 uX sw bk k args vJ Fx w15 F15 B15 a TU yU hI TB Uj UE H;obtain ⟨TW,Nl,rfl,yZ⟩:=Cv TU;obtain ⟨aA,an,ac,bA,bn,bc,Nn,Nr,Np,Ns,ND,Nt,OE,OH,OG,rfl,-⟩:=yZ.item;dsimp only [qX,List.cons_append,List.nil_append] at H;refine dh (fun _ dD=>?_);refine eH ko H wn rfl ?_;clear H;intro b10 a w I9 H;refine bT ko 0 (vs:=[_,_]) _ H wn rfl rfl rfl rfl rfl rfl rfl rfl ?_;clear H;intro w H;dsimp only [List.set,setRow] at H;refine dD _ _ ?_;clear dD;refine qG ?_;refine eH fC H wn rfl ?_;clear H;intro b11 a w Gw H;refine bT fC 0 (vs:=[_,_,_,_,_,_,_,_,_,_,_]) _ H wn rfl rfl rfl rfl rfl rfl rfl rfl ?_;clear H;intro w H;dsimp only [List.set,setRow] at H;refine aJ ?_;refine TB _ _ _ _ _ _ (by exact H.dB (Pl:=[_,_,_,_,_,_]) (cB:=[_,_,_,_,_,_]) [2,0,1,3,4,5] (by decide) rfl) ?_;clear H;intro w H;refine kP H (SB (SR fun _ dO=>Ro JN 5 rfl ?_));clear H;intro a H;refine bP ko (cs:=[_,_]) H wn rfl rfl (H.hp.gB 2 rfl rfl) rfl ?_;clear H;intro a H;refine bP fC (cs:=[_,_,_,_,_,_,_,_,_,_,_]) H wn rfl rfl (H.hp.gB 1 rfl rfl) rfl ?_;clear H;intro a H;refine uZ (Li:=([_,_,_,_,_,_]++bk)++lW ds) (L:=vJ) (St.un (A:=[_,_,_,_,_,_]++bk) (St.un (A:=[_,_,_,_,_,_]) H)) wn rfl rfl (hcb (j1+1+k) _ _ _ _ ⟨_,yY.part k _ (fP TW),_,rfl,yZ⟩ (fun b o h=>yU b o (Dx b o (nu b o (hgm b o h)))) hI (Hp.owns (Li:=([_,_,_,_,_,_]++bk)++lW ds) (St.un (A:=[_,_,_,_,_,_]++bk) (St.un (A:=[_,_,_,_,_,_]) H)).hp)) rfl ?_;clear H;rintro v52 Qf Ki a w ⟨b52,rfl,hb3,hb4⟩ Ud H
    simp only [jQ,nS,kD] at H
    refine kH H (Rn rfl (Kz dO (Cd rfl ?_ ?_))) <;> clear H dO
    ·intro gL a H
     refine dG ?_;refine (UE (Ki) _ _ _ _ _ (by exact H.dB (Pl:=[_,_,_,_,_,_]) (cB:=[_,_,_,_]) [0,3,4,5] (by decide) rfl) ?_).1 rfl;exact hb4 (by simpa using gL)
    intro gL a H
    refine fF ?_;refine Uj (Ki) _ _ _ _ _ (by exact H.dB (Pl:=[_,_,_,_,_,_]) (cB:=[_,_,_,_]) [0,3,4,5] (by decide) rfl) ?_;exact hb3 (by simpa using gL)
   ·clear H;intro J2 vJ J6 a w yU hI H;dsimp only [lca,aO] at H;refine K6 _ _ ?_;clear K6;refine kP H (SC (Rd rfl (Rm rfl ?_)));clear H;intro a H;refine aJ ?_;refine Hu ((k+1,at_+rZ l[k],j1+1+(jN (kJ l[k])).length,vJ,J6,J2 :: ds)) (by exact (H.dB (Pl:=[_,_,_,_]) (cB:=[_,_]) [3,0] (by decide) rfl).sub ⟨rfl,rfl,rfl,rfl,rfl,rfl,aB⟩) ?_ ?_
    ·(try dsimp only);exact ⟨by omega,fun b o h=>yU b o (Dx b o (nu b o (hgm b o h))),yY.jump (by simpa using hI),by omega,by show at_+(rZ l[k]:Int)+(dZ ((l.drop (k+1)).map ay.dat):Nat)≤n;omega⟩
    first|omega|(dsimp only;omega)
   clear H;intro J2 Lx J6 a w yU hI H;dsimp only [lca,aO] at H;refine dG ?_;refine (xL H 0 rfl ?_).1;clear H;intro a w H;dsimp only [List.eraseIdx_cons_succ,List.eraseIdx_cons_zero] at H;refine (zY (Lh:=[_,_,_]) _ H ?_).1;clear H;intro a w H;dsimp only [lca,aO] at H;refine (leave0 H results149 ?_).1
   first
    | exact H.hp.bR (L':=Lx) (by repeat (first|exact bZ _|apply List.Sublist.cons)) (.inr hI)
    | exact H.hp.bR (L':=Ef) (by repeat (first|exact bZ _|apply List.Sublist.cons)) (.inr (hb2 (by simpa using kN)))
    | exact H.hp.bR (L':=Lt) (by repeat (first|exact bZ _|apply List.Sublist.cons)) (.inl (by rw [fI (by omega),fM] at bO;have:=bO.len;simp only [List.length_nil,nR] at this;(try rw [bQ]);rw [← this];exact bO.now))
  intro h37 a H
  try have p37:=dF h37
  first
   | (have hn6:¬ l[k].kind=6:=p37)
   | (have Oq:¬ l[k].kind=7:=p37)
  refine kP H (SC (Rc rfl (aM bM rfl (Cd rfl ?_ ?_)))) <;> clear H bM
  ·intro h37 a H
   try have p37:=dT h37
   have Ba:l[k].kind=6∨l[k].kind=7:=by first|exact .inl p37|exact .inr p37
   rw [JA,au Ba] at bO;refine kP H (SQ fun _ dK=>SR fun _ dS=>Ro JN 2 rfl ?_);clear H;intro a H;refine bP ko (cs:=[_,_]) H wn rfl rfl (H.hp.gB 0 rfl rfl) rfl ?_;clear H;intro a H;refine bP fC (cs:=[_,_,_,_,_,_,_,_,_,_,_]) H wn rfl rfl (H.hp.gB 1 rfl rfl) rfl ?_;clear H;intro a H;refine uZ (Li:=[_,_,_]++lW ds) (L:=Lt) (St.un (A:=[_,_,_]) H) wn rfl rfl (hcb j1 _ _ _ _ ⟨_,bO.head,_,rfl,bJ.mkItem (hhd.mono oP) (hfl.mono oP) (hrw.mono oP)⟩ hgm bO.now (Hp.owns (Li:=[_,_,_]++lW ds) (St.un (A:=[_,_,_]) H).hp)) rfl ?_;clear H;rintro v43 Ap Ef a w ⟨M7,rfl,hb1,hb2⟩ nu H
   simp only [jQ,nS,kD] at H
   refine kH H (Rn rfl (Kz dS (Cd rfl ?_ ?_))) <;> clear H dS
   ·intro kN a H
    try have p44:=dT kN
    refine dG ?_;refine (zY (Lh:=[_,_,_]) _ H ?_).1;clear H;intro a w H;dsimp only [lca,aO] at H;refine (leave0 H results149 ?_).1
    first
     | exact H.hp.bR (L':=Lx) (by repeat (first|exact bZ _|apply List.Sublist.cons)) (.inr hI)
     | exact H.hp.bR (L':=Ef) (by repeat (first|exact bZ _|apply List.Sublist.cons)) (.inr (hb2 (by simpa using kN)))
     | exact H.hp.bR (L':=Lt) (by repeat (first|exact bZ _|apply List.Sublist.cons)) (.inl (by rw [fI (by omega),fM] at bO;have:=bO.len;simp only [List.length_nil,nR] at this;(try rw [bQ]);rw [← this];exact bO.now))
   intro kN a H
   try have p44:=dF kN
   have yY:=bO.step (hb1 (by simpa using kN));refine fF ?_;refine dK _ _ ?_;clear dK;refine dh (fun _ eP=>?_);refine bP fC (cs:=[_,_,_,_,_,_,_,_,_,_,_]) H wn rfl rfl (H.hp.gB 1 rfl rfl) rfl ?_;clear H;intro a H;refine s_call Yw H wn rfl (acZ ih hn _ _ H.ro l[k] _ (by omega) (bJ.mkItem (hhd.mono fun b o h=>nu b o (oP b o h)) (hfl.mono fun b o h=>nu b o (oP b o h)) (hrw.mono fun b o h=>nu b o (oP b o h)))) rfl ?_;clear H;rintro v46 Qc a w ⟨bx,rfl,hit⟩ Dx H;refine eP _ _ ?_;clear eP;refine sD ?_;skip;refine BP (ι:=OL) (κ:=OL) (Lc:=[(_,_),(_,_),(_,_)]) (fun (k:Nat) (gh:OL)=>[]) (fun (k:Nat) (gh:OL)=>(lW ds++gh)) (fun (k:Nat) (gh:OL) (g:GH)=>J (j1+1+k) g gh) (fun (gx:OL)=>Code.ret) (fun (gx:OL)=>[]) (fun (gx:OL)=>(lW ds++gx)) (fun (gx:OL) (g:GH)=>Jx g gx) (Ef) (by exact H) rfl Q6 (hit) (fun _ _ h=>h) rfl (fun k args g h=>by obtain ⟨_,_,rfl,_⟩:=Cv h;rfl) (fun k i G G' hm h=>nk _ _ _ _ hm h) (fun x G G' hm h=>hJx _ _ _ hm h) (nk _ _ _ _ Dx yY.now) ?_ ?_ ?_
   ·clear H;intro l15 uX sw bk k args vJ Fx w15 F15 B15 a TU yU hI TB Uj UE H;obtain ⟨TW,Nl,rfl,yZ⟩:=Cv TU;obtain ⟨aA,an,ac,bA,bn,bc,Nn,Nr,Np,Ns,ND,Nt,OE,OH,OG,rfl,-⟩:=yZ.item;dsimp only [qX,List.cons_append,List.nil_append] at H;refine dh (fun _ gG=>?_);refine eH ko H wn rfl ?_;clear H;intro b10 a w I9 H;refine bT ko 0 (vs:=[_,_]) _ H wn rfl rfl rfl rfl rfl rfl rfl rfl ?_;clear H;intro w H;dsimp only [List.set,setRow] at H;refine gG _ _ ?_;clear gG;refine qG ?_;refine eH fC H wn rfl ?_;clear H;intro b11 a w Gw H;refine bT fC 0 (vs:=[_,_,_,_,_,_,_,_,_,_,_]) _ H wn rfl rfl rfl rfl rfl rfl rfl rfl ?_;clear H;intro w H;dsimp only [List.set,setRow] at H;refine aJ ?_;refine TB _ _ _ _ _ _ (by exact H.dB (Pl:=[_,_,_,_,_,_]) (cB:=[_,_,_,_,_,_]) [2,0,1,3,4,5] (by decide) rfl) ?_;clear H;intro w H;refine kP H (SB (SR fun _ gT=>Ro JN 5 rfl ?_));clear H;intro a H;refine bP ko (cs:=[_,_]) H wn rfl rfl (H.hp.gB 2 rfl rfl) rfl ?_;clear H;intro a H;refine bP fC (cs:=[_,_,_,_,_,_,_,_,_,_,_]) H wn rfl rfl (H.hp.gB 1 rfl rfl) rfl ?_;clear H;intro a H;refine uZ (Li:=([_,_,_,_,_,_]++bk)++lW ds) (L:=vJ) (St.un (A:=[_,_,_,_,_,_]++bk) (St.un (A:=[_,_,_,_,_,_]) H)) wn rfl rfl (hcb (j1+1+k) _ _ _ _ ⟨_,yY.part k _ (fP TW),_,rfl,yZ⟩ (fun b o h=>yU b o (Dx b o (nu b o (hgm b o h)))) hI (Hp.owns (Li:=([_,_,_,_,_,_]++bk)++lW ds) (St.un (A:=[_,_,_,_,_,_]++bk) (St.un (A:=[_,_,_,_,_,_]) H)).hp)) rfl ?_;clear H;rintro v52 Qf Ki a w ⟨b52,rfl,hb3,hb4⟩ Ud H
    simp only [jQ,nS,kD] at H
    refine kH H (Rn rfl (Kz gT (Cd rfl ?_ ?_))) <;> clear H gT
    ·intro gL a H
     refine dG ?_;refine (UE (Ki) _ _ _ _ _ (by exact H.dB (Pl:=[_,_,_,_,_,_]) (cB:=[_,_,_,_]) [0,3,4,5] (by decide) rfl) ?_).1 rfl;exact hb4 (by simpa using gL)
    intro gL a H
    refine fF ?_;refine Uj (Ki) _ _ _ _ _ (by exact H.dB (Pl:=[_,_,_,_,_,_]) (cB:=[_,_,_,_]) [0,3,4,5] (by decide) rfl) ?_;exact hb3 (by simpa using gL)
   ·clear H;intro J2 vJ J6 a w yU hI H;dsimp only [lca,aO] at H;refine K6 _ _ ?_;clear K6;refine kP H (SC (Rd rfl (Rm rfl ?_)));clear H;intro a H;refine aJ ?_;refine Hu ((k+1,at_+rZ l[k],j1+1+(jN (kJ l[k])).length,vJ,J6,J2 :: ds)) (by exact (H.dB (Pl:=[_,_,_,_]) (cB:=[_,_]) [3,0] (by decide) rfl).sub ⟨rfl,rfl,rfl,rfl,rfl,rfl,aB⟩) ?_ ?_
    ·(try dsimp only);exact ⟨by omega,fun b o h=>yU b o (Dx b o (nu b o (hgm b o h))),yY.jump (by simpa using hI),by omega,by show at_+(rZ l[k]:Int)+(dZ ((l.drop (k+1)).map ay.dat):Nat)≤n;omega⟩
    first|omega|(dsimp only;omega)
   clear H;intro J2 Lx J6 a w yU hI H;dsimp only [lca,aO] at H;refine dG ?_;refine (xL H 0 rfl ?_).1;clear H;intro a w H;dsimp only [List.eraseIdx_cons_succ,List.eraseIdx_cons_zero] at H;refine (zY (Lh:=[_,_,_]) _ H ?_).1;clear H;intro a w H;dsimp only [lca,aO] at H;refine (leave0 H results149 ?_).1
   first
    | exact H.hp.bR (L':=Lx) (by repeat (first|exact bZ _|apply List.Sublist.cons)) (.inr hI)
    | exact H.hp.bR (L':=Ef) (by repeat (first|exact bZ _|apply List.Sublist.cons)) (.inr (hb2 (by simpa using kN)))
    | exact H.hp.bR (L':=Lt) (by repeat (first|exact bZ _|apply List.Sublist.cons)) (.inl (by rw [fI (by omega),fM] at bO;have:=bO.len;simp only [List.length_nil,nR] at this;(try rw [bQ]);rw [← this];exact bO.now))
  intro h37 a H
  try have p37:=dF h37
  first
   | (have hn6:¬ l[k].kind=6:=p37)
   | (have Oq:¬ l[k].kind=7:=p37)
  refine kP H (Kc K6 (SC (Rd rfl (Rm rfl ?_))));clear H K6;intro a H;refine aJ ?_;refine Hu ((k+1,at_+rZ l[k],j1,Lt,g,ds)) (by exact (H.dB (Pl:=[_,_,_]) (cB:=[_]) [2] (by decide) rfl).sub ⟨rfl,rfl,rfl,rfl,rfl,rfl,aB⟩) ?_ ?_
  ·(try dsimp only);exact ⟨by omega,hgm,by rw [JA,ah (by omega),kD] at bO;exact bO,by omega,by show at_+(rZ l[k]:Int)+(dZ ((l.drop (k+1)).map ay.dat):Nat)≤n;omega⟩
  first|omega|(dsimp only;omega)
 intro jI a H
 try have pQ:=dF jI
 refine dR ?_;refine (zY (Lh:=[_]) _ H ?_).2;clear H;intro a w H;dsimp only [lca,aO] at H;refine (leave0 H results149 ?_).1
 first
  | exact H.hp.bR (L':=Lx) (by repeat (first|exact bZ _|apply List.Sublist.cons)) (.inr hI)
  | exact H.hp.bR (L':=Ef) (by repeat (first|exact bZ _|apply List.Sublist.cons)) (.inr (hb2 (by simpa using kN)))
  | exact H.hp.bR (L':=Lt) (by repeat (first|exact bZ _|apply List.Sublist.cons)) (.inl (by rw [fI (by omega),fM] at bO;have:=bO.len;simp only [List.length_nil,nR] at this;(try rw [bQ]);rw [← this];exact bO.now))
theorem abu:∀ n:Nat,n≤4294967297→Io n
 | 0,_=>fun _ _ _ _ _ _ h=>absurd h (by omega)
 | n+1,hn=>alX (abu n (by omega)) (by omega)
theorem alW (G:GH) (w0:World) (hG:Hold G w0) (l:List ay) (id:Int) (v:aj) (hz:bq l≤4294967296) (hv:aC G (.sl 11 (l.map ay.dat)) v) :
  Calls prog 84 #[vi id,v] w0 (bY w0 G fun u G'=>∃ bl bi,u=.func (.func 149) #[] #[(aQ bl 0),(aQ bi 0)]∧Iter prog G' u ((fM id 0 l).map Aa)) :=
 Vy (abu 4294967297 (by omega)) G w0 hG l id v (by omega) hv
end
section
open Go.RowKit
theorem afE:∀ args w,(callFunc 151 args).run prog w=.ok (.enter 151 args) w:=enters func151 rfl (by kernel_rfl)
theorem afF:∀ args w,(callFunc 152 args).run prog w=.ok (.enter 152 args) w:=enters func152 rfl (by kernel_rfl)
theorem agQ:∀ args w,(callFunc 87 args).run prog w=.ok (.enter 87 args) w:=enters func87 rfl (by kernel_rfl)
theorem agO:∀ args w,(callFunc 85 args).run prog w=.ok (.enter 85 args) w:=enters func85 rfl (by kernel_rfl)
theorem agR:∀ args w,(callFunc 88 args).run prog w=.ok (.enter 88 args) w:=enters func88 rfl (by kernel_rfl)
theorem agP:∀ args w,(callFunc 86 args).run prog w=.ok (.enter 86 args) w:=enters func86 rfl (by kernel_rfl)
def vN (fv:aj) (G:GH) (d:List Dat) (b:Bool):Prop:=∀ (G1:GH) (w1:World) (cs:List aj),(∀ b o,G b=some o→G1 b=some o)→Hold G1 w1→bJ G1 d cs →
 zD prog fv [.agg cs.toArray] w1 (bY w1 G1 fun u G'=>u=.bool b)
def qp (o:Option Nat):Int:=match o with|some i=>i|none=>-1
theorem akp (G:GH) (w0:World) (hG:Hold G w0) (l:List bH) (p:bH→Bool) (v fv:aj) (hv:aC G (.sl 6 (l.map bH.dat)) v) (hf:∀ x∈l,vN fv G x.dat (p x)) :
  Calls prog 151 #[v,fv] w0 (bY w0 G fun u G'=>u=vi (qp (l.findIdx? p))):=by
 obtain ⟨A,c,rfl,hc1,hc2,hg⟩:=hv.slice;have hml:maxLen=9223372036854775807:=rfl;rw [bQ] at *;refine eN [(0,_),(1,_)] func151 rfl ntmps151 rfl rfl hG ?_;intro a H;refine kP H (SR fun _ K1=>ak K1 rfl (SQ fun _ K2=>SR fun _ K3=>Rm rfl (Rl ku rfl (Rm rfl (Kz K3 (SB ?_))))));clear H K1 K3;intro a H;skip;refine eT (ι:=Nat × GH) (Tc:=[(0,_),(1,_),(7,_)]) (Lc:=[]) (fun gh=>[(8,vi gh.1)]) (fun gh=>[]) (fun gh=>gh.2) (fun gh=>gh.1≤l.length∧(l.take gh.1).findIdx? p=none∧(∀ b o,G b=some o→gh.2 b=some o)) (fun gh=>l.length - gh.1) ((0,G)) (by exact (H).sub ⟨rfl,rfl,rfl,rfl,aB⟩) ?_ ?_
 ·exact ⟨by omega,rfl,fun _ _ h=>h⟩
 clear H;rintro ⟨k,g⟩ a w hI H;dsimp only at hI H;obtain ⟨hk,hno,hgm⟩:=hI;dsimp only [lca,aO] at H;refine kP H (SR fun _ K4=>Rc rfl (Kz K4 (SQ fun _ K5=>Cd rfl ?_ ?_))) <;> clear H K4
 ·intro h9 a H
  try have p9:=dT h9
  have hk2:k < l.length:=by omega
  obtain ⟨b,o,cs,rfl,hcl,hrow,hrep⟩:=hg k l[k].dat (by simp [hk2]);obtain ⟨pA,pn,pc,dA,dn,dc,yA,yn,yc,fA,fn,fc,rfl,-⟩:=hrep.row;replace hrow:=fun j u hj=>aH hgm (hrow j u hj);refine kP H (Kc K5 (SQ fun _ K6=>SB (SR fun _ K7=>Rm rfl (ak K7 rfl (SR fun _ K8=>Rm rfl (Rm rfl (Rm rfl (Ri ku kQ rfl rfl ?_))))))));clear H K5 K7;intro a H;refine bP kQ (cs:=[_,_,_,_,_,_]) H wn rfl rfl (fun j v hj=>H.hp.aG (hrow j v hj)) rfl ?_;clear H;intro a H;refine vg H wn rfl rfl (hf _ (jv hk2) _ _ _ hgm H.ro (hrep.mono hgm)) rfl ?_;clear H;rintro v16 yx a w rfl uT H;refine K8 _ _ ?_;clear K8;refine qF H rfl ?_ ?_
  ·intro h16
   try have p16:=dT h16
   refine kP H (SR fun _ K9=>Rm rfl (ak K9 rfl ?_));clear H K9;intro a H;refine lr H results151 rfl ?_
   first
    | exact H.rt (by rw [za hk2 hno h16];rfl)
    | exact H.rt (by rw [show l.take k=l from lZ (by omega)] at hno;rw [hno];rfl)
  intro h16
  try have p16:=dF h16
  refine kP H (Kc K6 (SC (Rd rfl (Rm rfl ?_))));clear H K6;intro a H;refine aJ ?_;refine dH ((k+1,yx)) (by exact (H).sub ⟨rfl,rfl,rfl,rfl,aB⟩) ?_ ?_
  ·(try dsimp only);exact ⟨by omega,Hg hk2 hno h16,fun b o h=>uT b o (hgm b o h)⟩
  first|omega|(dsimp only;omega)
 intro h9 a H
 try have p9:=dF h9
 refine dR ?_;refine K2 _ _ ?_;clear K2;refine kP H (SR fun _ aV=>ak aV rfl ?_);clear H aV;intro a H;refine lr H results151 rfl ?_
 first
  | exact H.rt (by rw [za hk2 hno h16];rfl)
  | exact H.rt (by rw [show l.take k=l from lZ (by omega)] at hno;rw [hno];rfl)
theorem aeY (G:GH) (w0:World) (hG:Hold G w0) (l:List bH) (p:bH→Bool) (v fv:aj) (hv:aC G (.sl 6 (l.map bH.dat)) v) (hf:∀ x∈l,vN fv G x.dat (p x)) :
  Calls prog 85 #[v,fv] w0 (bY w0 G fun u G'=>u=.bool (l.findIdx? p).isSome):=by
 refine eN [(0,_),(1,_)] func85 rfl ntmps85 rfl rfl hG ?_;intro a H;refine kP H (SR fun _ K1=>ak K1 rfl (SR fun _ K2=>Rm rfl (Rm rfl ?_)));clear H K1;intro a H;refine s_call afE H wn rfl (akp _ _ H.ro l p _ _ hv hf) rfl ?_;clear H;rintro v7 G7 a w rfl xI H;refine kH H (Rc rfl (ak K2 rfl ?_));clear H K2;intro a H;refine lr H results85 rfl ?_
 exact H.rt (by cases h:l.findIdx? p <;> simp [qp])
theorem ako (G:GH) (w0:World) (hG:Hold G w0) (l:List bD) (p:bD→Bool) (v fv:aj) (hv:aC G (.sl 7 (l.map bD.dat)) v) (hf:∀ x∈l,vN fv G x.dat (p x)) :
  Calls prog 152 #[v,fv] w0 (bY w0 G fun u G'=>u=vi (qp (l.findIdx? p))):=by
 obtain ⟨A,c,rfl,hc1,hc2,hg⟩:=hv.slice;have hml:maxLen=9223372036854775807:=rfl;rw [bQ] at *;refine eN [(0,_),(1,_)] func152 rfl ntmps152 rfl rfl hG ?_;intro a H;refine kP H (SR fun _ K1=>ak K1 rfl (SQ fun _ K2=>SR fun _ K3=>Rm rfl (Rl mE rfl (Rm rfl (Kz K3 (SB ?_))))));clear H K1 K3;intro a H;skip;refine eT (ι:=Nat × GH) (Tc:=[(0,_),(1,_),(7,_)]) (Lc:=[]) (fun gh=>[(8,vi gh.1)]) (fun gh=>[]) (fun gh=>gh.2) (fun gh=>gh.1≤l.length∧(l.take gh.1).findIdx? p=none∧(∀ b o,G b=some o→gh.2 b=some o)) (fun gh=>l.length - gh.1) ((0,G)) (by exact (H).sub ⟨rfl,rfl,rfl,rfl,aB⟩) ?_ ?_
 ·exact ⟨by omega,rfl,fun _ _ h=>h⟩
 clear H;rintro ⟨k,g⟩ a w hI H;dsimp only at hI H;obtain ⟨hk,hno,hgm⟩:=hI;dsimp only [lca,aO] at H;refine kP H (SR fun _ K4=>Rc rfl (Kz K4 (SQ fun _ K5=>Cd rfl ?_ ?_))) <;> clear H K4
 ·intro h9 a H
  try have p9:=dT h9
  have hk2:k < l.length:=by omega
  obtain ⟨b,o,cs,rfl,hcl,hrow,hrep⟩:=hg k l[k].dat (by simp [hk2]);obtain ⟨pA,pn,pc,dA,dn,dc,yA,yn,yc,fA,fn,fc,rfl,-⟩:=hrep.cell;replace hrow:=fun j u hj=>aH hgm (hrow j u hj);refine kP H (Kc K5 (SQ fun _ K6=>SB (SR fun _ K7=>Rm rfl (ak K7 rfl (SR fun _ K8=>Rm rfl (Rm rfl (Rm rfl (Ri mE kg rfl rfl ?_))))))));clear H K5 K7;intro a H;refine bP kg (cs:=[_,_,_,_,_,_,_]) H wn rfl rfl (fun j v hj=>H.hp.aG (hrow j v hj)) rfl ?_;clear H;intro a H;refine vg H wn rfl rfl (hf _ (jv hk2) _ _ _ hgm H.ro (hrep.mono hgm)) rfl ?_;clear H;rintro v16 yx a w rfl uT H;refine K8 _ _ ?_;clear K8;refine qF H rfl ?_ ?_
  ·intro h16
   try have p16:=dT h16
   refine kP H (SR fun _ K9=>Rm rfl (ak K9 rfl ?_));clear H K9;intro a H;refine lr H results152 rfl ?_
   first
    | exact H.rt (by rw [za hk2 hno h16];rfl)
    | exact H.rt (by rw [show l.take k=l from lZ (by omega)] at hno;rw [hno];rfl)
  intro h16
  try have p16:=dF h16
  refine kP H (Kc K6 (SC (Rd rfl (Rm rfl ?_))));clear H K6;intro a H;refine aJ ?_;refine dH ((k+1,yx)) (by exact (H).sub ⟨rfl,rfl,rfl,rfl,aB⟩) ?_ ?_
  ·(try dsimp only);exact ⟨by omega,Hg hk2 hno h16,fun b o h=>uT b o (hgm b o h)⟩
  first|omega|(dsimp only;omega)
 intro h9 a H
 try have p9:=dF h9
 refine dR ?_;refine K2 _ _ ?_;clear K2;refine kP H (SR fun _ aV=>ak aV rfl ?_);clear H aV;intro a H;refine lr H results152 rfl ?_
 first
  | exact H.rt (by rw [za hk2 hno h16];rfl)
  | exact H.rt (by rw [show l.take k=l from lZ (by omega)] at hno;rw [hno];rfl)
theorem aeX (G:GH) (w0:World) (hG:Hold G w0) (l:List bD) (p:bD→Bool) (v fv:aj) (hv:aC G (.sl 7 (l.map bD.dat)) v) (hf:∀ x∈l,vN fv G x.dat (p x)) :
  Calls prog 87 #[v,fv] w0 (bY w0 G fun u G'=>u=.bool (l.findIdx? p).isSome):=by
 refine eN [(0,_),(1,_)] func87 rfl ntmps87 rfl rfl hG ?_;intro a H;refine kP H (SR fun _ K1=>ak K1 rfl (SR fun _ K2=>Rm rfl (Rm rfl ?_)));clear H K1;intro a H;refine s_call afF H wn rfl (ako _ _ H.ro l p _ _ hv hf) rfl ?_;clear H;rintro v7 G7 a w rfl xI H;refine kH H (Rc rfl (ak K2 rfl ?_));clear H K2;intro a H;refine lr H results87 rfl ?_
 exact H.rt (by cases h:l.findIdx? p <;> simp [qp])
def OI (id:Int) (r:bH):Bool:=(r.cells.findIdx? fun c=>decide (c.id=id)).isSome
def Js (id:Int) (x:ay):Bool:=decide (x.id=id) || (x.rows.findIdx? (OI id)).isSome
theorem alU {G:GH} {bi:Nat} {id:Int} (hb:aG G bi 0=some (vi id)) (c:bD):vN (.func (.func 88) #[] #[(aQ bi 0)]) G c.dat (decide (c.id=id)):=by
 intro G1 w0 cs hm hG hr;refine nK (caps:=[(aQ bi 0)]) agR ?_;obtain ⟨pA,pn,pc,dA,dn,dc,yA,yn,yc,fA,fn,fc,rfl,-⟩:=hr.cell;replace hb:=aH hm hb;refine eN [(0,_),(1,_)] func88 rfl ntmps88 rfl rfl hG ?_;intro a H;refine dh (fun _ K1=>?_);refine fB (cs:=[_,_,_,_,_,_,_]) H wn rfl rfl rfl ?_;clear H;intro b2 a w hb2 H;refine kH H (ak K1 rfl (SR fun _ K2=>aT Dc aD 0 rfl rfl (Rg aD rfl (by assumption) ?_)));clear H K1;intro a H;exact kH H (Rc rfl (ak K2 rfl (LR results88 rfl fun H=>H.rt rfl)))
theorem alT {G:GH} {bi:Nat} {id:Int} (hb:aG G bi 0=some (vi id)) (r:bH):vN (.func (.func 86) #[] #[(aQ bi 0)]) G r.dat (OI id r):=by
 intro G1 w0 cs hm hG hr;refine nK (caps:=[(aQ bi 0)]) agP ?_;obtain ⟨pA,pn,pc,dA,dn,dc,yA,yn,yc,fA,fn,fc,rfl,-,hcl⟩:=hr.row;replace hb:=aH hm hb;refine eN [(0,_),(1,_)] func86 rfl ntmps86 rfl rfl hG ?_;intro a H;refine dh (fun _ K1=>?_);refine fB (cs:=[_,_,_,_,_,_]) H wn rfl rfl rfl ?_;clear H;intro b2 a w hb2 H;refine kH H (ak K1 rfl (SR fun _ K2=>aT ru rY 0 rfl rfl ?_));clear H K1;intro a H;refine pV H wn rfl rfl ?_;clear H;intro a H;refine s_call agQ H wn rfl (aeX _ _ H.ro r.cells (fun c=>decide (c.id=id)) _ _ hcl (fun c _=>alU hb c)) rfl ?_;clear H;rintro v7 G7 a w rfl xI H;exact kH H (ak K2 rfl (LR results86 rfl fun H=>H.rt rfl))
def Cw (l:List ay) (id:Int):Option (Int × Int):=((fM 0 0 l).find? fun a=>Js id a.2).map (·.1)
theorem alV (G:GH) (w0:World) (hG:Hold G w0) (D:jT) (l:List ay) (id:Int) (hv:aC G (.sl 11 (l.map ay.dat)) (bU D.f)) (hz:bq l≤4294967296) :
  Calls prog 37 #[D.val,vi id] w0 (bY w0 G fun u G'=>u=.tuple #[.agg #[vi ((Cw l id).getD (0,0)).1,vi ((Cw l id).getD (0,0)).2],.bool (Cw l id).isSome]):=by
 refine eN [(0,_),(1,_)] func37 rfl ntmps37 rfl rfl hG ?_;intro a H;refine dh (fun _ K1=>?_);refine fB (cs:=[_,_,_,_,_,_,_,_,_,_,_]) H wn rfl rfl rfl ?_;clear H;intro b2 a w hb2 H;refine fB (cs:=[_]) H wn rfl rfl rfl ?_;clear H;intro b3 a w hb3 H;refine eH ko H wn rfl ?_;clear H;intro b4 a w hb4 H;refine eH qQ H wn rfl ?_;clear H;intro b5 a w hb5 H;refine K1 _ _ ?_;clear K1;refine aN (fun _ K2=>?_);refine aN (fun _ K3=>?_);have H:=H.dB (Pl:=[_,_,_,_]) (cB:=[_,_,_,_]) [2,0,1,3] (by decide) rfl;obtain ⟨Ga,hma,hb3,H⟩:=H.dW
 have hbi:aG Ga b3 0=some (vi id):=by unfold aG;rw [hb3];rfl
 refine kP H (SC (aT BZ jJ 2 rfl rfl ?_));clear H;intro a H;refine s_call Rp H wn rfl (alW _ _ H.ro l 0 _ hz (hv.mono hma)) rfl ?_;clear H;rintro v11 zG a w ⟨bl,bi,rfl,hit⟩ GK H;refine aJ ?_;refine K3 _ _ ?_;clear K3;refine sD ?_;skip;refine BP (ι:=Unit) (κ:=Int × Int) (Lc:=[(_,_)]) (fun (k:Nat) (gh:Unit)=>[(b4,.cells #[vi 0,vi 0] 48 (0,0)),(b5,.cells #[.bool false] 4 (0,0))]) (fun (k:Nat) (gh:Unit)=>[]) (fun (k:Nat) (gh:Unit) (g:GH)=>((fM 0 0 l).take k).find? (fun a=>Js id a.2)=none) (fun (gx:Int × Int)=>Code.ret) (fun (gx:Int × Int)=>[(b4,.cells #[vi gx.1,vi gx.2] 48 (0,0)),(b5,.cells #[.bool true] 4 (0,0))]) (fun (gx:Int × Int)=>[]) (fun (gx:Int × Int) (g:GH)=>Cw l id=some gx) (()) (by exact H.dB (Pl:=[_,_,_]) (cB:=[_,_,_]) [2,1,0] (by decide) rfl) rfl Nv (hit) (fun _ _ h=>h) rfl (fun k args g h=>by obtain ⟨_,_,rfl,_⟩:=Cv h;rfl) (fun _ _ _ _ _ h=>h) (fun _ _ _ _ h=>h) (rfl) ?_ ?_ ?_
 ·clear H;intro l2 uX sw bk k args gh G2 w2 F2 B2 a hk2 hm2 hI TD Uk LP H;obtain ⟨hk,Nl,rfl,yZ⟩:=Cv hk2;obtain ⟨aA,an,ac,bA,bn,bc,Nn,Nr,Np,Ns,ND,Nt,OE,OH,OG,rfl,hh8,hf8,hr8⟩:=yZ.item;dsimp only [qX,List.cons_append,List.nil_append] at H;replace hbi:=aH hm2 (aH GK hbi);refine dh (fun _ K4=>?_);refine eH ko H wn rfl ?_;clear H;intro b6 a w hb6 H;refine bT ko 0 (vs:=[_,_]) _ H wn rfl rfl rfl rfl rfl rfl rfl rfl ?_;clear H;intro w H;dsimp only [List.set,setRow] at H;refine K4 _ _ ?_;clear K4;refine qG ?_;refine eH fC H wn rfl ?_;clear H;intro b7 a w zT H;refine bT fC 0 (vs:=[_,_,_,_,_,_,_,_,_,_,_]) _ H wn rfl rfl rfl rfl rfl rfl rfl rfl ?_;clear H;intro w H;dsimp only [List.set,setRow] at H;refine aJ ?_;refine TD _ _ _ _ _ _ (by exact H.dB (Pl:=[_,_,_,_,_,_]) (cB:=[_,_,_,_,_,_]) [2,0,1,3,4,5] (by decide) rfl) ?_;clear H;intro w H;refine kP H (SB (SR fun _ K5=>aT uP vD 1 rfl rfl ?_));clear H;intro a H;refine pV H wn rfl rfl ?_;clear H;intro a H;refine s_call agO H wn rfl (aeY _ _ H.ro _ (OI id) _ _ hr8 (fun r _=>alT hbi r)) rfl ?_;clear H;rintro v17 G17 a w rfl GL H;replace hbi:=aH GL hbi;refine kH H (ak K5 rfl (SR fun _ K6=>aT uN aD 1 rfl rfl (Rg aD rfl (by assumption) ?_)));clear H K5;intro a H;refine kH H (Rc rfl (Rm rfl (Sp 22 rfl ?_ ?_))) <;> clear H
  ·intro h22 a H
   try have jE:=dT h22
   refine kH H (Ks h22 rfl (Pt h22 rfl (Kz K6 (Ct rfl rfl (SR fun _ K7=>?_)))));clear H K6;intro a H;refine bP ko (cs:=[_,_]) H wn rfl rfl (H.hp.gB 2 rfl rfl) rfl ?_;clear H;intro a H;refine bT ko 4 (vs:=[_,_]) _ H wn rfl rfl rfl rfl rfl rfl rfl rfl ?_;clear H;intro w H;dsimp only [List.set,setRow] at H;refine bT qQ 5 (vs:=[_]) _ H wn rfl rfl rfl rfl rfl rfl rfl rfl ?_;clear H;intro w H;dsimp only [List.set,setRow] at H;refine K7 _ _ ?_;clear K7;refine dG ?_;refine (LP ((fM 0 0 l)[k].1) _ _ _ _ _ (by exact H.dB (Pl:=[_,_,_,_,_,_]) (cB:=[_,_,_,_]) [0,3,4,5] (by decide) rfl) ?_).1 rfl;exact (by unfold Cw;rw [NQ hk hI (by unfold Js;simp_all)];rfl)
  intro h22 a H
  try have jE:=dF h22
  refine kH H (YM h22 rfl (Pf h22 rfl (Kz K6 (Cd rfl ?_ ?_)))) <;> clear H K6
  ·intro fJ a H
   try have nO:=dT fJ
   refine dh (fun _ K8=>?_);refine bP ko (cs:=[_,_]) H wn rfl rfl (H.hp.gB 2 rfl rfl) rfl ?_;clear H;intro a H;refine bT ko 4 (vs:=[_,_]) _ H wn rfl rfl rfl rfl rfl rfl rfl rfl ?_;clear H;intro w H;dsimp only [List.set,setRow] at H;refine bT qQ 5 (vs:=[_]) _ H wn rfl rfl rfl rfl rfl rfl rfl rfl ?_;clear H;intro w H;dsimp only [List.set,setRow] at H;refine K8 _ _ ?_;clear K8;refine dG ?_;refine (LP ((fM 0 0 l)[k].1) _ _ _ _ _ (by exact H.dB (Pl:=[_,_,_,_,_,_]) (cB:=[_,_,_,_]) [0,3,4,5] (by decide) rfl) ?_).1 rfl;exact (by unfold Cw;rw [NQ hk hI (by unfold Js;simp_all)];rfl)
  intro fJ a H
  try have nO:=dF fJ
  refine fF ?_;refine Uk (()) _ _ _ _ _ (by exact H.dB (Pl:=[_,_,_,_,_,_]) (cB:=[_,_,_,_]) [0,3,4,5] (by decide) rfl) ?_;exact RP hk hI (by unfold Js;simp_all)
 ·clear H;intro P7 gh Qh a w hm2 hI H;dsimp only [lca,aO] at H;refine K2 _ _ ?_;clear K2;refine dh (fun _ K9=>?_);refine lJ JJ [_,_] H wn rfl rfl rfl rfl ?_;clear H;intro a H;refine bT ko 2 (vs:=[_,_]) _ H wn rfl rfl rfl rfl rfl rfl rfl rfl ?_;clear H;intro w H;dsimp only [List.set,setRow] at H;refine bT qQ 3 (vs:=[_]) _ H wn rfl rfl rfl rfl rfl rfl rfl rfl ?_;clear H;intro w H;dsimp only [List.set,setRow] at H;refine K9 _ _ ?_;clear K9;refine dG ?_;refine (xL H 0 rfl ?_).1;clear H;intro a w H;dsimp only [List.eraseIdx_cons_succ,List.eraseIdx_cons_zero] at H;refine (gV H results37 (.cons (Mk ko (cs:=[_,_]) H rfl rfl (H.hp.gB 1 rfl rfl)) (.cons (zq qQ H rfl (H.hp.qN 2 rfl rfl)) .nil)) ?_).1
  have h:Cw l id=none:=by unfold Cw;rw [RO (by simpa using hI)];rfl
  exact H.rt (by rw [h];rfl)
 clear H;intro P7 x Qh a w hm2 hI H;dsimp only [lca,aO] at H;refine dG ?_;refine (xL H 0 rfl ?_).1;clear H;intro a w H;dsimp only [List.eraseIdx_cons_succ,List.eraseIdx_cons_zero] at H;refine (gV H results37 (.cons (Mk ko (cs:=[_,_]) H rfl rfl (H.hp.gB 1 rfl rfl)) (.cons (zq qQ H rfl (H.hp.qN 2 rfl rfl)) .nil)) ?_).1;exact H.rt (by rw [hI];rfl)
end
section
open Go.RowKit
theorem agd:∀ args w,(callFunc 203 args).run prog w=.ok (.enter 203 args) w:=enters func203 rfl (by kernel_rfl)
theorem agf:∀ args w,(callFunc 204 args).run prog w=.ok (.enter 204 args) w:=enters func204 rfl (by kernel_rfl)
theorem lT:prog.underlying 52=some (.slice 3):=by kernel_rfl
theorem afC:∀ args w,(callFunc 141 args).run prog w=.ok (.enter 141 args) w:=enters func141 rfl (by kernel_rfl)
theorem Yx:∀ args w,(callFunc 158 args).run prog w=.ok (.enter 158 args) w:=enters func158 rfl (by kernel_rfl)
theorem afK:∀ args w,(callFunc 159 args).run prog w=.ok (.enter 159 args) w:=enters func159 rfl (by kernel_rfl)
theorem ahe:dJ prog 224 1 1:=⟨by kernel_rfl⟩
theorem agN:∀ args w,(callFunc 77 args).run prog w=.ok (.enter 77 args) w:=enters func77 rfl (by kernel_rfl)
theorem ahf:dJ prog 224 2 2:=⟨by kernel_rfl⟩
theorem ahg:dJ prog 224 3 3:=⟨by kernel_rfl⟩
def kz:kC:=⟨0,0,0,0,0,⟨#[]⟩⟩
def Hq:List Int:=Hr.map kC.num
def nL (k:Int):kC × Bool:=if EG Hq k=true then (Hr.getD (BO Hq k) kz,true) else (kz,false)
theorem find_spec (G:GH) (w0:World) (hG:Hold G w0) (k:Int):Calls prog 158 #[vi k] w0 (bY w0 G fun u G'=>u=.tuple #[.agg (nL k).1.cells.toArray,.bool (nL k).2]):=by
 refine eN [(0,_)] func158 rfl ntmps158 rfl rfl hG ?_;intro a H;refine dh (fun _ K1=>?_);refine eH vB H wn rfl ?_;clear H;intro b2 a w hb2 H;refine kH H (ak K1 rfl (SR fun _ K2=>?_));clear H K1;intro a H;refine s_call agd H wn rfl (akI _ _ H.ro) rfl ?_;clear H;rintro v7 G7 a w hv7 xI H;obtain ⟨A,c,rfl,hc1,hc2,-⟩:=hv7.slice;rw [bQ] at *;refine kH H (ak K2 rfl (SR fun _ K3=>Rm rfl (Rm rfl ?_)));clear H K2;intro a H;refine s_call agf H wn rfl (adY _ _ H.ro Hr k _ hv7 (by decide)) rfl ?_;clear H;rintro v11 zG a w rfl GK H;have hv7:=hv7.mono GK;have hkn:Hr.map kC.num=Hq:=rfl;rw [hkn] at H;obtain ⟨n,hn⟩:∃ n,n=BO Hq k:=⟨_,rfl⟩;obtain ⟨q,hq⟩:∃ q,q=EG Hq k:=⟨_,rfl⟩;rw [← hn,← hq] at H;refine kH H (Rm rfl ?_);clear H;intro a H;(iterate 2 refine nA H wn rfl rfl rfl ?_;clear H;intro a H);refine kH H (Ra rfl (ak K3 rfl (SQ fun _ K4=>SR fun _ K5=>Rm rfl (Rn rfl (Kz K5 (Cd rfl ?_ ?_)))))) <;> clear H K3 K5
 ·intro jI a H
  refine dh (fun _ K6=>?_);refine lJ abV [_,_,_,_,_,_] H wn rfl rfl rfl rfl ?_;clear H;intro a H;refine bT vB 0 (vs:=[_,_,_,_,_,_]) _ H wn rfl rfl rfl rfl rfl rfl rfl rfl ?_;clear H;intro w H;dsimp only [List.set,setRow] at H;refine kH H (ak K6 rfl ?_);clear H K6;intro a H;refine dG ?_;refine (gV H results158 (.cons (Mk vB (cs:=[_,_,_,_,_,_]) H rfl rfl (H.hp.gB 0 rfl rfl)) (.cons (bB H rfl) .nil)) ?_).1;exact H.rt (by rw [nL,ah (by rw [← hq];simpa using jI)];rfl)
 intro jI a H
 try have pQ:=dF jI
 have hlt:n < Hr.length:=by have:=aia (ks:=Hq) (t:=k) (by rw [← hq];simpa using jI);rw [← hn] at this;simpa [Hq] using this
 obtain ⟨b,o,rfl,hrow⟩:=U1 hv7 hlt;refine kP H (Kc K4 (SR fun _ K7=>Rm rfl (Rm rfl (Ri MB vB rfl rfl ?_))));clear H K4;intro a H;refine bP vB (cs:=[_,_,_,_,_,_]) H wn rfl rfl (fun j v hj=>H.hp.aG (hrow j v hj)) rfl ?_;clear H;intro a H;refine bT vB 0 (vs:=[_,_,_,_,_,_]) _ H wn rfl rfl rfl rfl rfl rfl rfl rfl ?_;clear H;intro w H;dsimp only [List.set,setRow] at H;refine kH H (ak K7 rfl ?_);clear H K7;intro a H;refine dG ?_;refine (gV H results158 (.cons (Mk vB (cs:=[_,_,_,_,_,_]) H rfl rfl (H.hp.gB 0 rfl rfl)) (.cons (bB H rfl) .nil)) ?_).1;exact H.rt (by rw [nL,au (by rw [← hq];simpa using jI),← hn,List.getD_eq_getElem?_getD,fP hlt];rfl)
def eB (e:Int):List Int:=if e=1∨e=4∨e=5∨e=6 then [1] else if e=2 then [1,2] else if e=3 then [3] else if e=7 then [6] else if e=9 then [4] else if e=10 then [5] else []
theorem fQ (G:GH) (A:List Int):ig G 1 (A.map fun k=>[li k]) (A.map vi):=by
 refine ⟨A.map fun k=>[vi k],?_,by simp,fun j r cs hr hc=>?_⟩
 ·induction A with
  | nil=>rfl
  | cons a A ih=>simpa using ih
 rw [qE] at hr hc
 cases h:A[j]? with
 | none=>rw [h] at hr;cases hr
 | some x =>
  rw [h] at hr hc
  cases hr;cases hc
  exact ⟨by simp only [bJ];exact ⟨_,_,rfl,by simp [aC,Value.oneCell'],rfl⟩,rfl⟩
theorem ahB (G:GH) (w0:World) (hG:Hold G w0) (e:Int):Calls prog 159 #[vi e] w0 (bY w0 G fun u G'=>aC G' (.sl 1 ((eB e).map fun k=>[li k])) u):=by
  refine eN [(0,_)] func159 rfl ntmps159 rfl rfl hG ?_;intro a H;refine kP H (SR fun _ K1=>ak K1 rfl (SQ fun _ K2=>SR fun _ K3=>Rm rfl (Kz K3 (SB (SQ fun _ K4=>SR fun _ K5=>Rc rfl (ak K5 rfl (Cd rfl ?_ ?_))))))) <;> clear H K1 K3 K5
  · intro h4 a H
    try have p4:=dT h4
    refine kP H (Kc K4 (Ct rfl h4 (SR fun _ K6=>?_)));clear H K4;intro a H;refine jy lT aD [_] [_] H wn rfl rfl rfl rfl rfl (by intro i q h;match i,h with|0,h=>exact h|n+1,h=>simp at h) rfl rfl ?_;clear H;intro b9 a w wD H;refine kH H (ak K6 rfl ?_);clear H K6;intro a H;refine lr H results159 rfl ?_
    first
      | exact H.rt (by rw [eB,ah (by omega),ah (by omega),ah (by omega),ah (by omega),ah (by omega),ah (by omega)];exact aC.lD rfl (by decide))
      | (obtain ⟨Gz,hmz,hbz,H⟩:=H.dW
         first
           | exact H.rt (by rw [eB,au (by omega)];exact aC.eZ (n:=1) (cap:=1) hbz rfl (dw _) (show 1≤maxLen by decide) rfl (fQ _ [1]))
           | exact H.rt (by rw [eB,ah (by omega),au (by omega)];exact aC.eZ (n:=2) (cap:=2) hbz rfl (dw _) (show 2≤maxLen by decide) rfl (fQ _ [1,2]))
           | exact H.rt (by rw [eB,ah (by omega),ah (by omega),au (by omega)];exact aC.eZ (n:=1) (cap:=1) hbz rfl (dw _) (show 1≤maxLen by decide) rfl (fQ _ [3]))
           | exact H.rt (by rw [eB,ah (by omega),ah (by omega),ah (by omega),au (by omega)];exact aC.eZ (n:=1) (cap:=1) hbz rfl (dw _) (show 1≤maxLen by decide) rfl (fQ _ [6]))
           | exact H.rt (by rw [eB,ah (by omega),ah (by omega),ah (by omega),ah (by omega),au (by omega)];exact aC.eZ (n:=1) (cap:=1) hbz rfl (dw _) (show 1≤maxLen by decide) rfl (fQ _ [4]))
           | exact H.rt (by rw [eB,ah (by omega),ah (by omega),ah (by omega),ah (by omega),ah (by omega),au (by omega)];exact aC.eZ (n:=1) (cap:=1) hbz rfl (dw _) (show 1≤maxLen by decide) rfl (fQ _ [5])))
  intro h4 a H
  try have p4:=dF h4
  refine kP H (SR fun _ K7=>Rc rfl (ak K7 rfl (Cd rfl ?_ ?_))) <;> clear H K7
  · intro h4 a H
    try have p4:=dT h4
    refine kP H (Kc K4 (Ct rfl h4 (SR fun _ K8=>?_)));clear H K4;intro a H;refine jy lT aD [_] [_] H wn rfl rfl rfl rfl rfl (by intro i q h;match i,h with|0,h=>exact h|n+1,h=>simp at h) rfl rfl ?_;clear H;intro b9 a w wD H;refine kH H (ak K8 rfl ?_);clear H K8;intro a H;refine lr H results159 rfl ?_
    first
      | exact H.rt (by rw [eB,ah (by omega),ah (by omega),ah (by omega),ah (by omega),ah (by omega),ah (by omega)];exact aC.lD rfl (by decide))
      | (obtain ⟨Gz,hmz,hbz,H⟩:=H.dW
         first
           | exact H.rt (by rw [eB,au (by omega)];exact aC.eZ (n:=1) (cap:=1) hbz rfl (dw _) (show 1≤maxLen by decide) rfl (fQ _ [1]))
           | exact H.rt (by rw [eB,ah (by omega),au (by omega)];exact aC.eZ (n:=2) (cap:=2) hbz rfl (dw _) (show 2≤maxLen by decide) rfl (fQ _ [1,2]))
           | exact H.rt (by rw [eB,ah (by omega),ah (by omega),au (by omega)];exact aC.eZ (n:=1) (cap:=1) hbz rfl (dw _) (show 1≤maxLen by decide) rfl (fQ _ [3]))
           | exact H.rt (by rw [eB,ah (by omega),ah (by omega),ah (by omega),au (by omega)];exact aC.eZ (n:=1) (cap:=1) hbz rfl (dw _) (show 1≤maxLen by decide) rfl (fQ _ [6]))
           | exact H.rt (by rw [eB,ah (by omega),ah (by omega),ah (by omega),ah (by omega),au (by omega)];exact aC.eZ (n:=1) (cap:=1) hbz rfl (dw _) (show 1≤maxLen by decide) rfl (fQ _ [4]))
           | exact H.rt (by rw [eB,ah (by omega),ah (by omega),ah (by omega),ah (by omega),ah (by omega),au (by omega)];exact aC.eZ (n:=1) (cap:=1) hbz rfl (dw _) (show 1≤maxLen by decide) rfl (fQ _ [5])))
  intro h4 a H
  try have p4:=dF h4
  refine kP H (SR fun _ K9=>Rc rfl (ak K9 rfl (Cd rfl ?_ ?_))) <;> clear H K9
  · intro h4 a H
    try have p4:=dT h4
    refine kP H (Kc K4 (Ct rfl h4 (SR fun _ aV=>?_)));clear H K4;intro a H;refine jy lT aD [_] [_] H wn rfl rfl rfl rfl rfl (by intro i q h;match i,h with|0,h=>exact h|n+1,h=>simp at h) rfl rfl ?_;clear H;intro b9 a w wD H;refine kH H (ak aV rfl ?_);clear H aV;intro a H;refine lr H results159 rfl ?_
    first
      | exact H.rt (by rw [eB,ah (by omega),ah (by omega),ah (by omega),ah (by omega),ah (by omega),ah (by omega)];exact aC.lD rfl (by decide))
      | (obtain ⟨Gz,hmz,hbz,H⟩:=H.dW
         first
           | exact H.rt (by rw [eB,au (by omega)];exact aC.eZ (n:=1) (cap:=1) hbz rfl (dw _) (show 1≤maxLen by decide) rfl (fQ _ [1]))
           | exact H.rt (by rw [eB,ah (by omega),au (by omega)];exact aC.eZ (n:=2) (cap:=2) hbz rfl (dw _) (show 2≤maxLen by decide) rfl (fQ _ [1,2]))
           | exact H.rt (by rw [eB,ah (by omega),ah (by omega),au (by omega)];exact aC.eZ (n:=1) (cap:=1) hbz rfl (dw _) (show 1≤maxLen by decide) rfl (fQ _ [3]))
           | exact H.rt (by rw [eB,ah (by omega),ah (by omega),ah (by omega),au (by omega)];exact aC.eZ (n:=1) (cap:=1) hbz rfl (dw _) (show 1≤maxLen by decide) rfl (fQ _ [6]))
           | exact H.rt (by rw [eB,ah (by omega),ah (by omega),ah (by omega),ah (by omega),au (by omega)];exact aC.eZ (n:=1) (cap:=1) hbz rfl (dw _) (show 1≤maxLen by decide) rfl (fQ _ [4]))
           | exact H.rt (by rw [eB,ah (by omega),ah (by omega),ah (by omega),ah (by omega),ah (by omega),au (by omega)];exact aC.eZ (n:=1) (cap:=1) hbz rfl (dw _) (show 1≤maxLen by decide) rfl (fQ _ [5])))
  intro h4 a H
  try have p4:=dF h4
  refine kP H (SC (Rc rfl (aM K4 rfl (Cd rfl ?_ ?_)))) <;> clear H K4
  · intro h4 a H
    try have p4:=dT h4
    refine dh (fun _ bF=>?_);refine jy lT aD [_] [_] H wn rfl rfl rfl rfl rfl (by intro i q h;match i,h with|0,h=>exact h|n+1,h=>simp at h) rfl rfl ?_;clear H;intro b9 a w wD H;refine kH H (ak bF rfl ?_);clear H bF;intro a H;refine lr H results159 rfl ?_
    first
      | exact H.rt (by rw [eB,ah (by omega),ah (by omega),ah (by omega),ah (by omega),ah (by omega),ah (by omega)];exact aC.lD rfl (by decide))
      | (obtain ⟨Gz,hmz,hbz,H⟩:=H.dW
         first
           | exact H.rt (by rw [eB,au (by omega)];exact aC.eZ (n:=1) (cap:=1) hbz rfl (dw _) (show 1≤maxLen by decide) rfl (fQ _ [1]))
           | exact H.rt (by rw [eB,ah (by omega),au (by omega)];exact aC.eZ (n:=2) (cap:=2) hbz rfl (dw _) (show 2≤maxLen by decide) rfl (fQ _ [1,2]))
           | exact H.rt (by rw [eB,ah (by omega),ah (by omega),au (by omega)];exact aC.eZ (n:=1) (cap:=1) hbz rfl (dw _) (show 1≤maxLen by decide) rfl (fQ _ [3]))
           | exact H.rt (by rw [eB,ah (by omega),ah (by omega),ah (by omega),au (by omega)];exact aC.eZ (n:=1) (cap:=1) hbz rfl (dw _) (show 1≤maxLen by decide) rfl (fQ _ [6]))
           | exact H.rt (by rw [eB,ah (by omega),ah (by omega),ah (by omega),ah (by omega),au (by omega)];exact aC.eZ (n:=1) (cap:=1) hbz rfl (dw _) (show 1≤maxLen by decide) rfl (fQ _ [4]))
           | exact H.rt (by rw [eB,ah (by omega),ah (by omega),ah (by omega),ah (by omega),ah (by omega),au (by omega)];exact aC.eZ (n:=1) (cap:=1) hbz rfl (dw _) (show 1≤maxLen by decide) rfl (fQ _ [5])))
  intro h4 a H
  try have p4:=dF h4
  refine kP H (SR fun _ bG=>Rc rfl (ak bG rfl (Cd rfl ?_ ?_))) <;> clear H bG
  · intro h10 a H
    try have uf:=dT h10
    refine dh (fun _ bM=>?_);refine jy lT aD [_,_] [_,_] H wn rfl rfl rfl rfl rfl (by intro i q h;match i,h with|0,h=>exact h|1,h=>exact h|n+2,h=>simp at h) rfl rfl ?_;clear H;intro b12 a w EH H;refine kH H (ak bM rfl ?_);clear H bM;intro a H;refine lr H results159 rfl ?_
    first
      | exact H.rt (by rw [eB,ah (by omega),ah (by omega),ah (by omega),ah (by omega),ah (by omega),ah (by omega)];exact aC.lD rfl (by decide))
      | (obtain ⟨Gz,hmz,hbz,H⟩:=H.dW
         first
           | exact H.rt (by rw [eB,au (by omega)];exact aC.eZ (n:=1) (cap:=1) hbz rfl (dw _) (show 1≤maxLen by decide) rfl (fQ _ [1]))
           | exact H.rt (by rw [eB,ah (by omega),au (by omega)];exact aC.eZ (n:=2) (cap:=2) hbz rfl (dw _) (show 2≤maxLen by decide) rfl (fQ _ [1,2]))
           | exact H.rt (by rw [eB,ah (by omega),ah (by omega),au (by omega)];exact aC.eZ (n:=1) (cap:=1) hbz rfl (dw _) (show 1≤maxLen by decide) rfl (fQ _ [3]))
           | exact H.rt (by rw [eB,ah (by omega),ah (by omega),ah (by omega),au (by omega)];exact aC.eZ (n:=1) (cap:=1) hbz rfl (dw _) (show 1≤maxLen by decide) rfl (fQ _ [6]))
           | exact H.rt (by rw [eB,ah (by omega),ah (by omega),ah (by omega),ah (by omega),au (by omega)];exact aC.eZ (n:=1) (cap:=1) hbz rfl (dw _) (show 1≤maxLen by decide) rfl (fQ _ [4]))
           | exact H.rt (by rw [eB,ah (by omega),ah (by omega),ah (by omega),ah (by omega),ah (by omega),au (by omega)];exact aC.eZ (n:=1) (cap:=1) hbz rfl (dw _) (show 1≤maxLen by decide) rfl (fQ _ [5])))
  intro h10 a H
  try have uf:=dF h10
  refine kP H (SR fun _ bN=>Rc rfl (ak bN rfl (Cd rfl ?_ ?_))) <;> clear H bN
  · intro gy a H
    try have pO:=dT gy
    refine dh (fun _ bW=>?_);refine jy lT aD [_] [_] H wn rfl rfl rfl rfl rfl (by intro i q h;match i,h with|0,h=>exact h|n+1,h=>simp at h) rfl rfl ?_;clear H;intro b15 a w Tt H;refine kH H (ak bW rfl ?_);clear H bW;intro a H;refine lr H results159 rfl ?_
    first
      | exact H.rt (by rw [eB,ah (by omega),ah (by omega),ah (by omega),ah (by omega),ah (by omega),ah (by omega)];exact aC.lD rfl (by decide))
      | (obtain ⟨Gz,hmz,hbz,H⟩:=H.dW
         first
           | exact H.rt (by rw [eB,au (by omega)];exact aC.eZ (n:=1) (cap:=1) hbz rfl (dw _) (show 1≤maxLen by decide) rfl (fQ _ [1]))
           | exact H.rt (by rw [eB,ah (by omega),au (by omega)];exact aC.eZ (n:=2) (cap:=2) hbz rfl (dw _) (show 2≤maxLen by decide) rfl (fQ _ [1,2]))
           | exact H.rt (by rw [eB,ah (by omega),ah (by omega),au (by omega)];exact aC.eZ (n:=1) (cap:=1) hbz rfl (dw _) (show 1≤maxLen by decide) rfl (fQ _ [3]))
           | exact H.rt (by rw [eB,ah (by omega),ah (by omega),ah (by omega),au (by omega)];exact aC.eZ (n:=1) (cap:=1) hbz rfl (dw _) (show 1≤maxLen by decide) rfl (fQ _ [6]))
           | exact H.rt (by rw [eB,ah (by omega),ah (by omega),ah (by omega),ah (by omega),au (by omega)];exact aC.eZ (n:=1) (cap:=1) hbz rfl (dw _) (show 1≤maxLen by decide) rfl (fQ _ [4]))
           | exact H.rt (by rw [eB,ah (by omega),ah (by omega),ah (by omega),ah (by omega),ah (by omega),au (by omega)];exact aC.eZ (n:=1) (cap:=1) hbz rfl (dw _) (show 1≤maxLen by decide) rfl (fQ _ [5])))
  intro gy a H
  try have pO:=dF gy
  refine kP H (SR fun _ cK=>Rc rfl (ak cK rfl (Cd rfl ?_ ?_))) <;> clear H cK
  · intro h16 a H
    try have p16:=dT h16
    refine dh (fun _ bS=>?_);refine jy lT aD [_] [_] H wn rfl rfl rfl rfl rfl (by intro i q h;match i,h with|0,h=>exact h|n+1,h=>simp at h) rfl rfl ?_;clear H;intro b18 a w aij H;refine kH H (ak bS rfl ?_);clear H bS;intro a H;refine lr H results159 rfl ?_
    first
      | exact H.rt (by rw [eB,ah (by omega),ah (by omega),ah (by omega),ah (by omega),ah (by omega),ah (by omega)];exact aC.lD rfl (by decide))
      | (obtain ⟨Gz,hmz,hbz,H⟩:=H.dW
         first
           | exact H.rt (by rw [eB,au (by omega)];exact aC.eZ (n:=1) (cap:=1) hbz rfl (dw _) (show 1≤maxLen by decide) rfl (fQ _ [1]))
           | exact H.rt (by rw [eB,ah (by omega),au (by omega)];exact aC.eZ (n:=2) (cap:=2) hbz rfl (dw _) (show 2≤maxLen by decide) rfl (fQ _ [1,2]))
           | exact H.rt (by rw [eB,ah (by omega),ah (by omega),au (by omega)];exact aC.eZ (n:=1) (cap:=1) hbz rfl (dw _) (show 1≤maxLen by decide) rfl (fQ _ [3]))
           | exact H.rt (by rw [eB,ah (by omega),ah (by omega),ah (by omega),au (by omega)];exact aC.eZ (n:=1) (cap:=1) hbz rfl (dw _) (show 1≤maxLen by decide) rfl (fQ _ [6]))
           | exact H.rt (by rw [eB,ah (by omega),ah (by omega),ah (by omega),ah (by omega),au (by omega)];exact aC.eZ (n:=1) (cap:=1) hbz rfl (dw _) (show 1≤maxLen by decide) rfl (fQ _ [4]))
           | exact H.rt (by rw [eB,ah (by omega),ah (by omega),ah (by omega),ah (by omega),ah (by omega),au (by omega)];exact aC.eZ (n:=1) (cap:=1) hbz rfl (dw _) (show 1≤maxLen by decide) rfl (fQ _ [5])))
  intro h16 a H
  try have p16:=dF h16
  refine kP H (SR fun _ dD=>Rc rfl (ak dD rfl (Cd rfl ?_ ?_))) <;> clear H dD
  · intro h19 a H
    try have wL:=dT h19
    refine dh (fun _ dO=>?_);refine jy lT aD [_] [_] H wn rfl rfl rfl rfl rfl (by intro i q h;match i,h with|0,h=>exact h|n+1,h=>simp at h) rfl rfl ?_;clear H;intro b21 a w apz H;refine kH H (ak dO rfl ?_);clear H dO;intro a H;refine lr H results159 rfl ?_
    first
      | exact H.rt (by rw [eB,ah (by omega),ah (by omega),ah (by omega),ah (by omega),ah (by omega),ah (by omega)];exact aC.lD rfl (by decide))
      | (obtain ⟨Gz,hmz,hbz,H⟩:=H.dW
         first
           | exact H.rt (by rw [eB,au (by omega)];exact aC.eZ (n:=1) (cap:=1) hbz rfl (dw _) (show 1≤maxLen by decide) rfl (fQ _ [1]))
           | exact H.rt (by rw [eB,ah (by omega),au (by omega)];exact aC.eZ (n:=2) (cap:=2) hbz rfl (dw _) (show 2≤maxLen by decide) rfl (fQ _ [1,2]))
           | exact H.rt (by rw [eB,ah (by omega),ah (by omega),au (by omega)];exact aC.eZ (n:=1) (cap:=1) hbz rfl (dw _) (show 1≤maxLen by decide) rfl (fQ _ [3]))
           | exact H.rt (by rw [eB,ah (by omega),ah (by omega),ah (by omega),au (by omega)];exact aC.eZ (n:=1) (cap:=1) hbz rfl (dw _) (show 1≤maxLen by decide) rfl (fQ _ [6]))
           | exact H.rt (by rw [eB,ah (by omega),ah (by omega),ah (by omega),ah (by omega),au (by omega)];exact aC.eZ (n:=1) (cap:=1) hbz rfl (dw _) (show 1≤maxLen by decide) rfl (fQ _ [4]))
           | exact H.rt (by rw [eB,ah (by omega),ah (by omega),ah (by omega),ah (by omega),ah (by omega),au (by omega)];exact aC.eZ (n:=1) (cap:=1) hbz rfl (dw _) (show 1≤maxLen by decide) rfl (fQ _ [5])))
  intro h19 a H
  try have wL:=dF h19
  refine kP H (SR fun _ dK=>Rc rfl (ak dK rfl (Cd rfl ?_ ?_))) <;> clear H dK
  · intro h22 a H
    try have jE:=dT h22
    refine dh (fun _ dS=>?_);refine jy lT aD [_] [_] H wn rfl rfl rfl rfl rfl (by intro i q h;match i,h with|0,h=>exact h|n+1,h=>simp at h) rfl rfl ?_;clear H;intro b24 a w apB H;refine kH H (ak dS rfl ?_);clear H dS;intro a H;refine lr H results159 rfl ?_
    first
      | exact H.rt (by rw [eB,ah (by omega),ah (by omega),ah (by omega),ah (by omega),ah (by omega),ah (by omega)];exact aC.lD rfl (by decide))
      | (obtain ⟨Gz,hmz,hbz,H⟩:=H.dW
         first
           | exact H.rt (by rw [eB,au (by omega)];exact aC.eZ (n:=1) (cap:=1) hbz rfl (dw _) (show 1≤maxLen by decide) rfl (fQ _ [1]))
           | exact H.rt (by rw [eB,ah (by omega),au (by omega)];exact aC.eZ (n:=2) (cap:=2) hbz rfl (dw _) (show 2≤maxLen by decide) rfl (fQ _ [1,2]))
           | exact H.rt (by rw [eB,ah (by omega),ah (by omega),au (by omega)];exact aC.eZ (n:=1) (cap:=1) hbz rfl (dw _) (show 1≤maxLen by decide) rfl (fQ _ [3]))
           | exact H.rt (by rw [eB,ah (by omega),ah (by omega),ah (by omega),au (by omega)];exact aC.eZ (n:=1) (cap:=1) hbz rfl (dw _) (show 1≤maxLen by decide) rfl (fQ _ [6]))
           | exact H.rt (by rw [eB,ah (by omega),ah (by omega),ah (by omega),ah (by omega),au (by omega)];exact aC.eZ (n:=1) (cap:=1) hbz rfl (dw _) (show 1≤maxLen by decide) rfl (fQ _ [4]))
           | exact H.rt (by rw [eB,ah (by omega),ah (by omega),ah (by omega),ah (by omega),ah (by omega),au (by omega)];exact aC.eZ (n:=1) (cap:=1) hbz rfl (dw _) (show 1≤maxLen by decide) rfl (fQ _ [5])))
  intro h22 a H
  try have jE:=dF h22
  refine kP H (Kc K2 (SR fun _ eP=>ak eP rfl ?_));clear H K2 eP;intro a H;refine lr H results159 rfl ?_
  first
    | exact H.rt (by rw [eB,ah (by omega),ah (by omega),ah (by omega),ah (by omega),ah (by omega),ah (by omega)];exact aC.lD rfl (by decide))
    | (obtain ⟨Gz,hmz,hbz,H⟩:=H.dW
       first
         | exact H.rt (by rw [eB,au (by omega)];exact aC.eZ (n:=1) (cap:=1) hbz rfl (dw _) (show 1≤maxLen by decide) rfl (fQ _ [1]))
         | exact H.rt (by rw [eB,ah (by omega),au (by omega)];exact aC.eZ (n:=2) (cap:=2) hbz rfl (dw _) (show 2≤maxLen by decide) rfl (fQ _ [1,2]))
         | exact H.rt (by rw [eB,ah (by omega),ah (by omega),au (by omega)];exact aC.eZ (n:=1) (cap:=1) hbz rfl (dw _) (show 1≤maxLen by decide) rfl (fQ _ [3]))
         | exact H.rt (by rw [eB,ah (by omega),ah (by omega),ah (by omega),au (by omega)];exact aC.eZ (n:=1) (cap:=1) hbz rfl (dw _) (show 1≤maxLen by decide) rfl (fQ _ [6]))
         | exact H.rt (by rw [eB,ah (by omega),ah (by omega),ah (by omega),ah (by omega),au (by omega)];exact aC.eZ (n:=1) (cap:=1) hbz rfl (dw _) (show 1≤maxLen by decide) rfl (fQ _ [4]))
         | exact H.rt (by rw [eB,ah (by omega),ah (by omega),ah (by omega),ah (by omega),ah (by omega),au (by omega)];exact aC.eZ (n:=1) (cap:=1) hbz rfl (dw _) (show 1≤maxLen by decide) rfl (fQ _ [5])))
theorem aky {G:GH} {l:List Int} {A:Option Addr} {n c k:Nat} (hv:aC G (.sl 1 (l.map fun k=>[li k])) (.slice A n c)) (hk:k < l.length):∃ b o,A=some ⟨b,o,none⟩∧aG G b (o+k*1)=some (vi l[k]):=by
 obtain ⟨A',c',he,_,_,hg⟩:=hv.slice
 injection he with e1 e2 e3
 subst e1;obtain ⟨b,o,cs,h1,h2,h3,h4⟩:=hg k [li l[k]] (by simp [hk])
 simp only [bJ,aC] at h4
 obtain ⟨v1,_,rfl,⟨rfl,-⟩,rfl⟩:=h4;exact ⟨b,o,h1,h3 0 _ rfl⟩
theorem akq (G:GH) (w0:World) (hG:Hold G w0) (l:List Int) (t:Int) (v:aj) (hv:aC G (.sl 1 (l.map fun k=>[li k])) v) :
  Calls prog 141 #[v,vi t] w0 (bY w0 G fun u G'=>u=vi (qp (l.findIdx? fun x=>decide (t=x)))):=by
 obtain ⟨A,c,rfl,hc1,hc2,-⟩:=hv.slice;have hml:maxLen=9223372036854775807:=rfl;rw [bQ] at *;refine eN [(0,_),(1,_)] func141 rfl ntmps141 rfl rfl hG ?_;intro a H;refine kP H (SR fun _ K1=>ak K1 rfl (SQ fun _ K2=>SR fun _ K3=>Rm rfl (Rl lT rfl (Rm rfl (Kz K3 (SB ?_))))));clear H K1 K3;intro a H;skip;refine eT (ι:=Nat) (Tc:=[(0,_),(1,_),(7,_)]) (Lc:=[]) (fun gh=>[(8,vi gh)]) (fun gh=>[]) (fun gh=>G) (fun gh=>gh≤l.length∧(l.take gh).findIdx? (fun x=>decide (t=x))=none) (fun gh=>l.length - gh) (0) (by exact (H).sub ⟨rfl,rfl,rfl,rfl,aB⟩) ?_ ?_
 ·exact ⟨gX _,rfl⟩
 clear H;intro k a w hI H;obtain ⟨hk,hno⟩:=hI;dsimp only [lca,aO] at H;refine kP H (SR fun _ K4=>Rc rfl (Kz K4 (SQ fun _ K5=>Cd rfl ?_ ?_))) <;> clear H K4
 ·intro h9 a H
  try have p9:=dT h9
  have hk2:k < l.length:=by omega
  obtain ⟨b,o,rfl,hrow⟩:=aky hv hk2;refine kP H (Kc K5 (SQ fun _ K6=>SB (SR fun _ K7=>Rm rfl (ak K7 rfl (SR fun _ K8=>Rm rfl (Rm rfl (Rm rfl (Ri lT aD rfl rfl (Rg aD rfl (by assumption) ?_)))))))));clear H K5 K7;intro a H;refine kH H (Rc rfl (Kz K8 (Cd rfl ?_ ?_))) <;> clear H K8
  ·intro h16 a H
   try have p16:=dT h16
   exact kP H (SR fun _ K9=>Rm rfl (ak K9 rfl (LR results141 rfl fun H=>H.rt (by rw [za hk2 hno (by simpa using p16)];rfl))))
  intro h16 a H
  try have p16:=dF h16
  refine kP H (Kc K6 (SC (Rd rfl (Rm rfl ?_))));clear H K6;intro a H;refine aJ ?_;refine dH ((k+1)) (by exact (H).sub ⟨rfl,rfl,rfl,rfl,aB⟩) ?_ ?_
  ·exact ⟨by omega,Hg hk2 hno (by simpa using p16)⟩
  first|omega|(dsimp only;omega)
 intro h9 a H
 try have p9:=dF h9
 refine dR ?_;refine K2 _ _ ?_;clear K2;exact kP H (SR fun _ aV=>ak aV rfl (LR results141 rfl fun H=>H.rt (by rw [show l.take k=l from lZ (by omega)] at hno;rw [hno];rfl)))
theorem aeZ (G:GH) (w0:World) (hG:Hold G w0) (l:List Int) (t:Int) (v:aj) (hv:aC G (.sl 1 (l.map fun k=>[li k])) v) :
  Calls prog 77 #[v,vi t] w0 (bY w0 G fun u G'=>u=.bool (decide (t∈l))):=by
 obtain ⟨A,c,rfl,hc1,hc2,-⟩:=hv.slice;rw [bQ] at *;refine eN [(0,_),(1,_)] func77 rfl ntmps77 rfl rfl hG ?_;intro a H;refine kP H (SR fun _ K1=>ak K1 rfl (SR fun _ K2=>Rm rfl (Rm rfl ?_)));clear H K1;intro a H;refine s_call afC H wn rfl (akq _ _ H.ro l t _ hv) rfl ?_;clear H;rintro v7 G7 a w rfl xI H;refine kH H (Rc rfl (ak K2 rfl ?_));clear H K2;intro a H;refine lr H results77 rfl ?_
 exact H.rt (by
  congr 1
  cases h:l.findIdx? (fun x=>decide (t=x)) with
  | none =>
   rw [List.findIdx?_eq_none_iff] at h;have:t∉l:=fun hm=>absurd (h t hm) (by simp)
   simp [qp,this]
  | some i =>
   obtain ⟨hi,he,-⟩:=List.findIdx?_eq_some_iff_getElem.1 h
   have:t∈l:=by rw [oD he];exact jv _
   simp [qp,this])
def AQ (e k:Int):Bool:=(nL k).2 && decide ((nL k).1.Ce∈eB e)
theorem RQ (G:GH) (w0:World) (hG:Hold G w0) (e k:Int):Calls prog 98 #[vi e,vi k] w0 (bY w0 G fun u G'=>u=.bool (AQ e k)):=by
 refine eN [(0,_),(1,_)] func98 rfl ntmps98 rfl rfl hG ?_;intro a H;refine kP H (SR fun _ K1=>ak K1 rfl (SR fun _ K2=>Rm rfl ?_));clear H K1;intro a H;refine s_call Yx H wn rfl (find_spec _ _ H.ro k) rfl ?_;clear H;rintro v9 G9 a w rfl Jh H;dsimp only [kC.cells] at H;refine kH H (Rm rfl ?_);clear H;intro a H;(iterate 2 refine nA H wn rfl rfl rfl ?_;clear H;intro a H);refine eH vB H wn rfl ?_;clear H;intro b5 a w hb5 H;refine bT vB 0 (vs:=[_,_,_,_,_,_]) _ H wn rfl rfl rfl rfl rfl rfl rfl rfl ?_;clear H;intro w H;dsimp only [List.set,setRow] at H;refine kH H (ak K2 rfl (SQ fun _ K3=>?_));clear H K2;intro a H
 by_cases c0:(nL k).2=true
 ·skip
  have Dy:∀ (iy:Nat) (v:aj) (G G':GH),(∀ k o,G k=some o→G' k=some o)→(fun (iy:Nat) (v:aj) (G:GH)=>match iy with|0=>v=.bool (nL k).2|1=>v=.bool (decide ((nL k).2=true))|2=>v=vi e|3=>(nL k).2=true→aC G (.sl 1 ((eB e).map fun k=>[li k])) v|4=>v=(aQ b5 1)|5=>v=vi (nL k).1.Ce|6=>v=.bool (decide ((nL k).1.Ce∈eB e))|7=>v=.bool (AQ e k)|_=>True) iy v G→(fun (iy:Nat) (v:aj) (G:GH)=>match iy with|0=>v=.bool (nL k).2|1=>v=.bool (decide ((nL k).2=true))|2=>v=vi e|3=>(nL k).2=true→aC G (.sl 1 ((eB e).map fun k=>[li k])) v|4=>v=(aQ b5 1)|5=>v=vi (nL k).1.Ce|6=>v=.bool (decide ((nL k).1.Ce∈eB e))|7=>v=.bool (AQ e k)|_=>True) iy v G':=by
   intro iy v G G' hm h
   match iy,h with
   | 0,h=>exact h
   | 1,h=>exact h
   | 2,h=>exact h
   | 3,h=>exact fun hf=>(h hf).mono hm
   | 4,h=>exact h
   | 5,h=>exact h
   | 6,h=>exact h
   | 7,h=>exact h
   | 8,h=>exact trivial
   | _+9,h=>exact trivial
  refine Nf (hmx) [[],[0],[0,1],[0,1,2],[0,1],[0,1,4],(ra 0 6),(ra 0 7),(ra 0 8)] [8] (by kernel_rfl) (by kernel_rfl) (fun (iy:Nat) (v:aj) (G:GH)=>match iy with|0=>v=.bool (nL k).2|1=>v=.bool (decide ((nL k).2=true))|2=>v=vi e|3=>(nL k).2=true→aC G (.sl 1 ((eB e).map fun k=>[li k])) v|4=>v=(aQ b5 1)|5=>v=vi (nL k).1.Ce|6=>v=.bool (decide ((nL k).1.Ce∈eB e))|7=>v=.bool (AQ e k)|_=>True) Dy H ?_ ?_
  ·clear H;refine aI ?_ ?_ ?_ ?_ (aI ?_ ?_ ?_ ?_ (bC (cu rfl) dN))
   ·refine jZ [] rfl trivial (by kernel_rfl) Dy rfl rfl ?_;intro fV a w G1 hG HT H fin;exact kH H (Rm rfl fun _ H=>fin H iJ rfl)
   ·refine jZ [(0,12,_)] rfl ⟨fun _ _ h=>h,aB⟩ (by kernel_rfl) Dy rfl rfl ?_;intro fV a w G1 hG HT H fin;refine kH H (Rm rfl ?_);clear H;intro a H;exact fin H iJ (by simp)
   ·refine jZ [(1,13,_)] rfl ⟨fun _ _ h=>h,aB⟩ (by kernel_rfl) Dy rfl rfl ?_;intro fV a w G1 hG HT H fin;exact kH H (YM (aF c0) rfl fun _ H=>fin H iJ rfl)
   ·refine jZ [(2,14,_),(1,13,_)] rfl ⟨fun _ _ h=>h,fun _ _ h=>h,aB⟩ (by kernel_rfl) Dy rfl rfl ?_;intro fV a w G1 hG HT H fin;refine s_call afK H (wg H rfl rfl (aF c0)) rfl (ahB _ _ H.ro e) rfl ?_;clear H;rintro v15 Fx a w EO Gn H;exact fin H Gn (by first|exact fun _=>EO|rfl)
   ·refine jZ [(1,13,_)] rfl ⟨fun _ _ h=>h,aB⟩ (by kernel_rfl) Dy rfl rfl ?_;intro fV a w G1 hG HT H fin;exact kH H (YF ahe (aF c0) rfl fun _ H=>fin H iJ rfl)
   ·refine jZ [(4,16,_),(1,13,_)] rfl ⟨fun _ _ h=>h,fun _ _ h=>h,aB⟩ (by kernel_rfl) Dy rfl rfl ?_;intro fV a w G1 hG HT H fin;exact kH H (YO aD 0 (aF c0) rfl fun _ H=>fin H iJ rfl)
   ·intro fV a w G1 _ dP hc hG HT hv;have H:=HT;clear dP;obtain ⟨u15,ajQ,EO⟩:=hv 3 15 (hc 3 (by decide)) rfl;(try dsimp only at EO);have H:=H.qV ajQ;have H:=H.bg (hv 5 17 (hc 5 (by decide)) rfl) rfl;have H:=H.bg (hv 1 13 (hc 1 (by decide)) rfl) rfl;have Hb:=H.full;have H:=Hb;clear hc;refine s_call agN H (wg H rfl rfl (aF c0)) rfl (aeZ _ _ H.ro _ _ _ (EO c0)) rfl ?_;clear H;rintro v18 G18 a w rfl ahG H;refine aJ ⟨rfl,?_⟩;exact nU (by kernel_rfl) Dy rfl rfl HT Hb hG hv ahG (rfl) H
   refine jZ [(1,13,_),(6,18,_)] rfl ⟨fun _ _ h=>h,fun _ _ h=>h,aB⟩ (by kernel_rfl) Dy rfl rfl ?_;intro fV a w G1 hG HT H fin;refine kH H (Pt (aF c0) rfl ?_);clear H;intro a H;exact fin H iJ (by unfold AQ;simp_all)
  clear H;intro a w G Gp H hv;have H:=H.bg (hv 7 19 rfl rfl) rfl;clear hv;refine kH H (Ra rfl ?_);clear H;intro a H;refine aJ ⟨rfl,?_⟩;refine K3 _ _ ?_;clear K3;refine lr H results98 rfl ?_;exact H.rt rfl
 skip;refine dI hmx [[],[0],[0,1],[0,1,2],[0,1],[0,1,4],(ra 0 6),(ra 0 7),(ra 0 8)] [8] (by kernel_rfl) [_,.bool (decide ((nL k).2=true)),undef,undef,undef,undef,undef,.bool (AQ e k)] H (aI (Z0 rfl (Rm rfl)) ?_ (aW (j:=1) (by kernel_rfl) (fun _ _ _ _ _ h=>h) rfl rfl rfl rfl rfl (fun _ _ h=>aY h (aL (aP c0))) rfl (fun _=>rfl)) ?_ (aI (aW (j:=1) (by kernel_rfl) (fun _ _ _ _ _ h=>h) rfl rfl rfl rfl rfl (fun _ _ h=>aY h (aL (aP c0))) rfl (fun _=>rfl)) (aW (j:=1) (by kernel_rfl) (fun _ _ _ _ _ h=>h) rfl rfl rfl rfl rfl (fun _ _ h=>aY h (aL (aP c0))) rfl (fun _=>rfl)) (aW (j:=1) (by kernel_rfl) (fun _ _ _ _ _ h=>h) rfl rfl rfl rfl rfl (fun _ _ h=>aY h (aL (aP c0))) rfl (fun _=>rfl)) ?_ (bC (cu rfl) dN))) ?_
 ·refine eF 0 12 rfl rfl fun _ a w G1 hG HT H fin=>?_;refine kH H (Rm rfl ?_);clear H;intro a H;exact fin H iJ (by show _=_;simp)
 ·intro fV a w G1 _ dP hc hG HT hv;have H:=HT;clear dP;have H:=H.bg (hv 2 14 (hc 2 (by decide)) rfl) rfl;have H:=H.bg (hv 1 13 (hc 1 (by decide)) rfl) rfl;have Hb:=H.full;have H:=Hb;clear hc;refine kH H (Ks (aP c0) rfl ?_);clear H;intro a H;refine aJ ⟨rfl,?_⟩;exact nU (by kernel_rfl) (fun _ _ _ _ _ h=>h) rfl rfl HT Hb hG hv (fun _ _ h=>h) (by first|exact fun _=>EO|rfl) H
 ·refine eU 1 13 6 18 rfl rfl fun _ a w G1 hG HT H fin=>?_;refine kH H (Pf (aP c0) rfl ?_);clear H;intro a H;exact fin H iJ (by show _=_;unfold AQ;simp_all)
 clear H;intro a w G Gp H hv;have H:=H.bg (hv 7 19 rfl rfl) rfl;clear hv;refine kH H (Ra rfl ?_);clear H;intro a H;refine aJ ⟨rfl,?_⟩;refine K3 _ _ ?_;clear K3;refine lr H results98 rfl ?_;exact H.rt rfl
def sF (k v:Int):Int:=if (nL k).2=false then 4 else if v < (nL k).1.low∨(nL k).1.high < v then 5 else 0
theorem F4 (G:GH) (w0:World) (hG:Hold G w0) (k x:Int):Calls prog 99 #[vi k,vi x] w0 (bY w0 G fun u G'=>u=vi (sF k x)):=by
 refine eN [(0,_),(1,_)] func99 rfl ntmps99 rfl rfl hG ?_;intro a H;refine kP H (SR fun _ K1=>ak K1 rfl (SR fun _ K2=>Rm rfl ?_));clear H K1;intro a H;refine s_call Yx H wn rfl (find_spec _ _ H.ro k) rfl ?_;clear H;rintro v9 G9 a w rfl Jh H;dsimp only [kC.cells] at H;refine kH H (Rm rfl ?_);clear H;intro a H;(iterate 2 refine nA H wn rfl rfl rfl ?_;clear H;intro a H);refine eH vB H wn rfl ?_;clear H;intro b5 a w hb5 H;refine bT vB 0 (vs:=[_,_,_,_,_,_]) _ H wn rfl rfl rfl rfl rfl rfl rfl rfl ?_;clear H;intro w H;dsimp only [List.set,setRow] at H;refine kH H (ak K2 rfl (SQ fun _ K3=>SB (SR fun _ K4=>Rm rfl (Rn rfl (ak K4 rfl (Cd rfl ?_ ?_)))))) <;> clear H K2 K4
 ·intro h12 a H
  try have pK:=dT h12
  exact kP H (SR fun _ K5=>ak K5 rfl (LR results99 rfl fun H=>H.rt (by unfold sF;simp_all)))
 intro h12 a H
 try have pK:=dF h12
 refine kP H (SR fun _ K6=>Rm rfl (aT ahf aD 0 rfl rfl (Rc rfl (Rm rfl (Sp 20 rfl ?_ ?_))))) <;> clear H
 ·intro h20 a H
  try have qw:=dT h20
  exact kH H (aS h20 rfl (aS h20 rfl (Pt h20 rfl (ak K6 rfl (Ct rfl rfl (SR fun _ K7=>ak K7 rfl (LR results99 rfl fun H=>H.rt (by unfold sF;simp_all))))))))
 intro h20 a H
 try have qw:=dF h20
 refine kH H (YM h20 rfl (YF ahg h20 rfl (YO aD 0 h20 rfl (YC h20 rfl (Pf h20 rfl (ak K6 rfl (Cd rfl ?_ ?_))))))) <;> clear H K6
 ·intro jI a H
  try have pQ:=dT jI
  exact kP H (SR fun _ K8=>ak K8 rfl (LR results99 rfl fun H=>H.rt (by unfold sF;simp_all)))
 intro jI a H
 try have pQ:=dF jI
 exact kP H (Kc K3 (SR fun _ K9=>ak K9 rfl (LR results99 rfl fun H=>H.rt (by unfold sF;simp_all))))
end
section
open Go.RowKit
theorem xB:dJ prog 171 0 0:=⟨by kernel_rfl⟩
theorem Ru:∀ args w,(callFunc 98 args).run prog w=.ok (.enter 98 args) w:=enters func98 rfl (by kernel_rfl)
theorem RD:dJ prog 171 1 1:=⟨by kernel_rfl⟩
theorem F6:∀ args w,(callFunc 99 args).run prog w=.ok (.enter 99 args) w:=enters func99 rfl (by kernel_rfl)
def Ju (q:Option Int) (k:Int):Bool:=match q with|some j=>decide (k < j)|none=>false
def C9 (e:Int):Option Int→List jL→Int
 | _,[]=>0
 | q,p :: r=>if AQ e p.key=false then 4 else if q=some p.key then 7 else if Ju q p.key=true then 6 else if sF p.key p.value=0 then C9 e (some p.key) r else sF p.key p.value
def Bt (l:List jL) (k:Nat):Option Int:=if k=0 then none else l[k - 1]?.map jL.key
def iO (e:Int) (l:List jL):Int:=if e < 1∨10 < e then 3 else C9 e none l
theorem aeN {e:Int} {l:List jL} {k:Nat} (h:k < l.length):C9 e (Bt l k) (l.drop k)=if AQ e l[k].key=false then 4 else if Bt l k=some l[k].key then 7 else if Ju (Bt l k) l[k].key=true then 6 else if sF l[k].key l[k].value=0 then C9 e (Bt l (k+1)) (l.drop (k+1)) else sF l[k].key l[k].value:=by
 rw [jV h,C9]
 have:Bt l (k+1)=some l[k].key:=by rw [Bt,ah (by omega),Nat.add_sub_cancel,fP h];rfl
 rw [this]
theorem Pg {l:List jL} {k:Nat} (h:k=0):Bt l k=none:=au h
theorem Vz (G:GH) (w0:World) (hG:Hold G w0) (e:Int) (l:List jL) (v:aj) (hv:aC G (.sl 2 (l.map jL.dat)) v) :
  Calls prog 95 #[vi e,v] w0 (bY w0 G fun u G'=>u=vi (iO e l)):=by
 obtain ⟨A,c,rfl,hc1,hc2,-⟩:=hv.slice;have hml:maxLen=9223372036854775807:=rfl;rw [bQ] at *;refine eN [(0,_),(1,_)] func95 rfl ntmps95 rfl rfl hG ?_;intro a H;refine kP H (SR fun _ K1=>ak K1 rfl (SQ fun _ K2=>SR fun _ K3=>Rm rfl (Rc rfl (Rm rfl (Sp 10 rfl ?_ ?_))))) <;> clear H K1
 ·intro h10 a H
  try have uf:=dT h10
  refine kH H (aS h10 rfl (Pt h10 rfl (Kz K3 (Ct rfl rfl (SR fun _ K4=>ak K4 rfl ?_)))));clear H K3 K4;intro a H;refine lr H results95 rfl ?_
  first
   | exact H.rt (av vi (by rw [ah (by simpa using p61)] at heq;rw [iO,ah (by omega)];exact heq))
   | exact H.rt (av vi (by rw [au (by simpa using h21)] at heq;rw [iO,ah (by omega)];exact heq))
   | exact H.rt (av vi (by rw [iO,ah (by omega)];exact heq))
   | exact H.rt (av vi (by rw [iO,ah (by omega),← heq,show l.drop k=[] from fI (by omega)];rfl))
   | exact H.rt (av vi (by rw [iO,au (by omega)]))
 intro h10 a H
 try have uf:=dF h10
 refine kH H (YM h10 rfl (YC h10 rfl (Pf h10 rfl (Kz K3 (Cd rfl ?_ ?_))))) <;> clear H K3
 ·intro gy a H
  try have pO:=dT gy
  refine kP H (SR fun _ K5=>ak K5 rfl ?_);clear H K5;intro a H;refine lr H results95 rfl ?_
  first
   | exact H.rt (av vi (by rw [ah (by simpa using p61)] at heq;rw [iO,ah (by omega)];exact heq))
   | exact H.rt (av vi (by rw [au (by simpa using h21)] at heq;rw [iO,ah (by omega)];exact heq))
   | exact H.rt (av vi (by rw [iO,ah (by omega)];exact heq))
   | exact H.rt (av vi (by rw [iO,ah (by omega),← heq,show l.drop k=[] from fI (by omega)];rfl))
   | exact H.rt (av vi (by rw [iO,au (by omega)]))
 intro gy a H
 try have pO:=dF gy
 refine kP H (Kc K2 (SQ fun _ K6=>SR fun _ K7=>Rm rfl (Rl sQ rfl (Rm rfl (Kz K7 (SB ?_))))));clear H K2 K7;intro a H;skip;refine eT (ι:=Nat × GH) (Tc:=[(0,_),(1,_),(14,_),(15,_)]) (Lc:=[]) (fun gh=>[(16,vi gh.1)]) (fun gh=>[]) (fun gh=>gh.2) (fun gh=>gh.1≤l.length∧C9 e (Bt l gh.1) (l.drop gh.1)=C9 e none l∧(∀ b o,G b=some o→gh.2 b=some o)) (fun gh=>l.length - gh.1) ((0,G)) (by exact (H).sub ⟨rfl,rfl,rfl,rfl,rfl,aB⟩) ?_ ?_
 ·exact ⟨gX _,rfl,fun _ _ h=>h⟩
 clear H;rintro ⟨k,g⟩ a w hI H;dsimp only at hI H;obtain ⟨hk,heq,hgm⟩:=hI;dsimp only [lca,aO] at H;refine kP H (SR fun _ K8=>Rc rfl (Kz K8 (SQ fun _ K9=>Cd rfl ?_ ?_))) <;> clear H K8
 ·intro gK a H
  try have mo:=dT gK
  have hk2:k < l.length:=by omega
  have GZ:=hv.mono hgm;obtain ⟨b,o,rfl,hrow⟩:=Mi GZ hk2
  obtain ⟨pk,hpk⟩:∃ pk,0 < k→aG g b (o+(k - 1)*2+0)=some (vi pk)∧Bt l k=some pk:=by
   by_cases h0:0 < k
   ·obtain ⟨b',o',he,hr'⟩:=Mi GZ (show k - 1 < l.length by omega)
    injection he with he
    injection he with e1 e2 e3
    subst e1;subst e2;exact ⟨_,fun _=>⟨hr' 0 _ rfl,by rw [Bt,ah (by omega),fP (by omega)];rfl⟩⟩
   exact ⟨0,fun h=>absurd h h0⟩
  rw [aeN hk2] at heq;have apP:=heq;refine kP H (Kc K9 (SQ fun _ aV=>SB (SR fun _ bF=>Rm rfl (Ri sQ sP rfl rfl ?_))));clear H K9;intro a H;refine bP sP (cs:=[_,_]) H wn rfl rfl (fun j v hj=>H.hp.aG (hrow j v hj)) rfl ?_;clear H;intro a H;refine eH sP H wn rfl ?_;clear H;intro b6 a w hb6 H;refine kH H (Ra rfl ?_);clear H;intro a H;refine bT sP 0 (vs:=[_,_]) _ H wn rfl rfl rfl rfl rfl rfl rfl rfl ?_;clear H;intro w H;dsimp only [List.set,setRow] at H;refine bF _ _ ?_;clear bF;refine oF (ι:=GH) (Tc:=[(0,_),(1,_),(6,_),(14,_),(15,_),(16,_)]) (Lc:=[(_,_)]) (fun gh=>[]) (fun gh=>[]) (fun gh=>gh) (fun gh=>(if sF l[k].key l[k].value=0 then C9 e (Bt l (k+1)) (l.drop (k+1)) else sF l[k].key l[k].value)=C9 e none l∧(∀ b o,g b=some o→gh b=some o)) (by exact (H).sub ⟨rfl,rfl,rfl,rfl,rfl,rfl,aB⟩) ?_ ?_
  ·skip;refine kP H (SB (SR fun _ bG=>Rm rfl (aT xB aD 0 rfl rfl ?_)));clear H;intro a H;refine s_call Ru H wn rfl (RQ _ _ H.ro e l[k].key) rfl ?_;clear H;rintro v25 Ii a w rfl Bf H;replace hrow:=fun j u hj=>aH Bf (hrow j u hj);refine kH H (Rn rfl (ak bG rfl (Cd rfl ?_ ?_))) <;> clear H bG
   ·intro h21 a H
    try have nX:=dT h21
    refine kP H (SR fun _ bM=>ak bM rfl ?_);clear H bM;intro a H;refine lr H results95 rfl ?_
    first
     | exact H.rt (av vi (by rw [ah (by simpa using p61)] at heq;rw [iO,ah (by omega)];exact heq))
     | exact H.rt (av vi (by rw [au (by simpa using h21)] at heq;rw [iO,ah (by omega)];exact heq))
     | exact H.rt (av vi (by rw [iO,ah (by omega)];exact heq))
     | exact H.rt (av vi (by rw [iO,ah (by omega),← heq,show l.drop k=[] from fI (by omega)];rfl))
     | exact H.rt (av vi (by rw [iO,au (by omega)]))
   intro h21 a H
   try have nX:=dF h21
   rw [ah (by simpa using h21)] at heq;refine aN (fun _ bN=>?_)
   by_cases c0:0 < (k:Int)
   ·skip
    by_cases c1:l[k].key=pk
    ·skip;refine dI hmx [[],[0],[0,1],[0,1,2],(ra 0 4),[0,1,2],[0,1,2],[0,1,2,6],[0,1,2,5,6,7],[0,1,2,5,6,7,8],[0,1,2,5,6,7,8,9],(ra 0 11),(ra 0 12),(ra 0 13)] [13] (by kernel_rfl) [_,_,_,_,vi l[k].key,_,_,vi ((k - 1:Nat):Int),_,_,_,_,_] H (aI (Z0 rfl (Rm rfl)) (Z1 0 28 rfl (Rc rfl)) (Z1 1 29 rfl (Rm rfl)) (Z1 2 30 rfl (YF xB (aF c0) rfl)) (aI (Z2 3 31 2 30 rfl (YO aD 0 (aF c0) rfl)) (Z1 2 30 rfl (YM (aF c0) rfl)) (Z1 2 30 rfl (YM (aF c0) rfl)) ?_ (aI (Z3 5 33 7 35 2 30 rfl (YI sQ sP (aF c0) rfl rfl)) (Z2 8 36 2 30 rfl (YF xB (aF c0) rfl)) (X2 9 37 2 30 rfl fun hG=>YR aD (aF c0) rfl (aH hG (aH Bf (hpk (by omega)).1))) (Z3 4 32 10 38 2 30 rfl (YC (aF c0) rfl)) (bC (Z2 2 30 11 39 rfl (Pt (aF c0) rfl)) (bC (cu rfl) dN))))) ?_
     ·refine eU 6 34 2 30 rfl rfl fun _ a w G1 hG HT H fin=>?_;refine mD _ H (wg H rfl rfl (aF c0)) rfl rfl rfl (by omega) (by omega) rfl ?_;clear H;intro a H;exact fin H iJ (by show _=_;first|rfl|exact av vi (by omega))
     clear H;intro a w G zR H hv;have H:=H.bg (hv 12 40 rfl rfl) rfl;clear hv;refine kH H (Ra rfl ?_);clear H;intro a H;refine aJ ⟨rfl,?_⟩;refine bN _ _ ?_;clear bN;refine Ay H rfl (aF c1) ?_;refine aN (fun _ bW=>?_);rw [au (by rw [(hpk (by omega)).2,c1])] at heq;refine kP H (SC (aM bW rfl ?_));clear H bW;intro a H;refine lr H results95 rfl ?_
     first
      | exact H.rt (av vi (by rw [ah (by simpa using p61)] at heq;rw [iO,ah (by omega)];exact heq))
      | exact H.rt (av vi (by rw [au (by simpa using h21)] at heq;rw [iO,ah (by omega)];exact heq))
      | exact H.rt (av vi (by rw [iO,ah (by omega)];exact heq))
      | exact H.rt (av vi (by rw [iO,ah (by omega),← heq,show l.drop k=[] from fI (by omega)];rfl))
      | exact H.rt (av vi (by rw [iO,au (by omega)]))
    skip;refine dI hmx [[],[0],[0,1],[0,1,2],(ra 0 4),[0,1,2],[0,1,2],[0,1,2,6],[0,1,2,5,6,7],[0,1,2,5,6,7,8],[0,1,2,5,6,7,8,9],(ra 0 11),(ra 0 12),(ra 0 13)] [13] (by kernel_rfl) [_,_,_,_,vi l[k].key,_,_,vi ((k - 1:Nat):Int),_,_,_,_,_] H (aI (Z0 rfl (Rm rfl)) (Z1 0 28 rfl (Rc rfl)) (Z1 1 29 rfl (Rm rfl)) (Z1 2 30 rfl (YF xB (aF c0) rfl)) (aI (Z2 3 31 2 30 rfl (YO aD 0 (aF c0) rfl)) (Z1 2 30 rfl (YM (aF c0) rfl)) (Z1 2 30 rfl (YM (aF c0) rfl)) ?_ (aI (Z3 5 33 7 35 2 30 rfl (YI sQ sP (aF c0) rfl rfl)) (Z2 8 36 2 30 rfl (YF xB (aF c0) rfl)) (X2 9 37 2 30 rfl fun hG=>YR aD (aF c0) rfl (aH hG (aH Bf (hpk (by omega)).1))) (Z3 4 32 10 38 2 30 rfl (YC (aF c0) rfl)) (bC (Z2 2 30 11 39 rfl (Pt (aF c0) rfl)) (bC (cu rfl) dN))))) ?_
    ·refine eU 6 34 2 30 rfl rfl fun _ a w G1 hG HT H fin=>?_;refine mD _ H (wg H rfl rfl (aF c0)) rfl rfl rfl (by omega) (by omega) rfl ?_;clear H;intro a H;exact fin H iJ (by show _=_;first|rfl|exact av vi (by omega))
    clear H;intro a w G zR H hv;have H:=H.bg (hv 12 40 rfl rfl) rfl;clear hv;refine kH H (Ra rfl ?_);clear H;intro a H;refine aJ ⟨rfl,?_⟩;refine bN _ _ ?_;clear bN;refine oh H rfl (aP c1) ?_;refine aN (fun _ cK=>?_)
    have q1:¬ (0 < (k:Int)∧l[k].key=pk):=by first|exact fun h=>c1 h.2|exact fun h=>c0 h.1
    rw [ah (fun h=>q1 (by
     by_cases h0:0 < k
     ·rw [(hpk h0).2] at h
      injection h with h
      exact ⟨by omega,h.symm⟩
     rw [Pg (by omega)] at h
     cases h))] at heq
    by_cases c3:l[k].key < pk
    ·skip;refine dI hmx [[],[0],[0,1],[0,1,2],(ra 0 4),[0,1,2],[0,1,2],[0,1,2,6],[0,1,2,5,6,7],[0,1,2,5,6,7,8],[0,1,2,5,6,7,8,9],(ra 0 11),(ra 0 12),(ra 0 13)] [13] (by kernel_rfl) [_,_,_,_,vi l[k].key,_,_,vi ((k - 1:Nat):Int),_,_,vi pk,_,_] H (aI (Z0 rfl (Rm rfl)) (Z1 0 42 rfl (Rc rfl)) (Z1 1 43 rfl (Rm rfl)) (Z1 2 44 rfl (YF xB (aF c0) rfl)) (aI (Z2 3 45 2 44 rfl (YO aD 0 (aF c0) rfl)) (Z1 2 44 rfl (YM (aF c0) rfl)) (Z1 2 44 rfl (YM (aF c0) rfl)) ?_ (aI (Z3 5 47 7 49 2 44 rfl (YI sQ sP (aF c0) rfl rfl)) (Z2 8 50 2 44 rfl (YF xB (aF c0) rfl)) ?_ (Z3 4 46 10 52 2 44 rfl (YC (aF c0) rfl)) (bC (Z2 2 44 11 53 rfl (Pt (aF c0) rfl)) (bC (cu rfl) dN))))) ?_
     ·refine eU 6 48 2 44 rfl rfl fun _ a w G1 hG HT H fin=>?_;refine mD _ H (wg H rfl rfl (aF c0)) rfl rfl rfl (by omega) (by omega) rfl ?_;clear H;intro a H;exact fin H iJ (by show _=_;first|rfl|exact av vi (by omega))
     ·refine eU 9 51 2 44 rfl rfl fun _ a w G1 hG HT H fin=>?_;refine zu aD H (wg H rfl rfl (aF c0)) rfl (H.hp.aG (aH hG (aH zR (aH Bf (hpk (by omega)).1)))) rfl ?_;clear H;intro a H;exact fin H iJ rfl
     clear H;intro a w G rM H hv;have H:=H.bg (hv 12 54 rfl rfl) rfl;clear hv;refine kH H (Ra rfl ?_);clear H;intro a H;refine aJ ⟨rfl,?_⟩;refine cK _ _ ?_;clear cK;refine Ay H rfl (aF c3) ?_;refine aN (fun _ bS=>?_);rw [au (by rw [(hpk (by omega)).2];exact aF c3)] at heq;refine kP H (SC (aM bS rfl ?_));clear H bS;intro a H;refine lr H results95 rfl ?_
     first
      | exact H.rt (av vi (by rw [ah (by simpa using p61)] at heq;rw [iO,ah (by omega)];exact heq))
      | exact H.rt (av vi (by rw [au (by simpa using h21)] at heq;rw [iO,ah (by omega)];exact heq))
      | exact H.rt (av vi (by rw [iO,ah (by omega)];exact heq))
      | exact H.rt (av vi (by rw [iO,ah (by omega),← heq,show l.drop k=[] from fI (by omega)];rfl))
      | exact H.rt (av vi (by rw [iO,au (by omega)]))
    skip;refine dI hmx [[],[0],[0,1],[0,1,2],(ra 0 4),[0,1,2],[0,1,2],[0,1,2,6],[0,1,2,5,6,7],[0,1,2,5,6,7,8],[0,1,2,5,6,7,8,9],(ra 0 11),(ra 0 12),(ra 0 13)] [13] (by kernel_rfl) [_,_,_,_,vi l[k].key,_,_,vi ((k - 1:Nat):Int),_,_,vi pk,_,_] H (aI (Z0 rfl (Rm rfl)) (Z1 0 42 rfl (Rc rfl)) (Z1 1 43 rfl (Rm rfl)) (Z1 2 44 rfl (YF xB (aF c0) rfl)) (aI (Z2 3 45 2 44 rfl (YO aD 0 (aF c0) rfl)) (Z1 2 44 rfl (YM (aF c0) rfl)) (Z1 2 44 rfl (YM (aF c0) rfl)) ?_ (aI (Z3 5 47 7 49 2 44 rfl (YI sQ sP (aF c0) rfl rfl)) (Z2 8 50 2 44 rfl (YF xB (aF c0) rfl)) ?_ (Z3 4 46 10 52 2 44 rfl (YC (aF c0) rfl)) (bC (Z2 2 44 11 53 rfl (Pt (aF c0) rfl)) (bC (cu rfl) dN))))) ?_
    ·refine eU 6 48 2 44 rfl rfl fun _ a w G1 hG HT H fin=>?_;refine mD _ H (wg H rfl rfl (aF c0)) rfl rfl rfl (by omega) (by omega) rfl ?_;clear H;intro a H;exact fin H iJ (by show _=_;first|rfl|exact av vi (by omega))
    ·refine eU 9 51 2 44 rfl rfl fun _ a w G1 hG HT H fin=>?_;refine zu aD H (wg H rfl rfl (aF c0)) rfl (H.hp.aG (aH hG (aH zR (aH Bf (hpk (by omega)).1)))) rfl ?_;clear H;intro a H;exact fin H iJ rfl
    clear H;intro a w G rM H hv;have H:=H.bg (hv 12 54 rfl rfl) rfl;clear hv;refine kH H (Ra rfl ?_);clear H;intro a H;refine aJ ⟨rfl,?_⟩;refine cK _ _ ?_;clear cK;refine oh H rfl (aP c3) ?_;refine fF ?_;refine ⟨_,by exact (H).sub ⟨rfl,rfl,rfl,rfl,rfl,rfl,aB⟩,?_⟩
    have q2:¬ (0 < (k:Int)∧l[k].key < pk):=by first|exact fun h=>c3 h.2|exact fun h=>c0 h.1
    rw [ah (fun h=>q2 (by
     by_cases h0:0 < k
     ·rw [(hpk h0).2] at h;exact ⟨by omega,oD h⟩
     rw [Pg (by omega)] at h
     cases h))] at heq
    exact ⟨heq,fun b o h=>rM b o (zR b o (Bf b o h))⟩
   skip;refine dI hmx [[],[0],[0,1],[0,1,2],(ra 0 4),[0,1,2],[0,1,2],[0,1,2,6],[0,1,2,5,6,7],[0,1,2,5,6,7,8],[0,1,2,5,6,7,8,9],(ra 0 11),(ra 0 12),(ra 0 13)] [13] (by kernel_rfl) [_,_,_,undef,undef,undef,undef,undef,undef,undef,undef,undef,_] H (aI (Z0 rfl (Rm rfl)) (Z1 0 28 rfl (Rc rfl)) (Z1 1 29 rfl (Rm rfl)) (aW (j:=2) (by kernel_rfl) (fun _ _ _ _ _ h=>h) rfl rfl rfl rfl rfl (fun _ _ h=>aY h (aL (aP c0))) rfl (fun _=>rfl)) (aI (aW (j:=2) (by kernel_rfl) (fun _ _ _ _ _ h=>h) rfl rfl rfl rfl rfl (fun _ _ h=>aY h (aL (aP c0))) rfl (fun _=>rfl)) (aW (j:=2) (by kernel_rfl) (fun _ _ _ _ _ h=>h) rfl rfl rfl rfl rfl (fun _ _ h=>aY h (aL (aP c0))) rfl (fun _=>rfl)) (aW (j:=2) (by kernel_rfl) (fun _ _ _ _ _ h=>h) rfl rfl rfl rfl rfl (fun _ _ h=>aY h (aL (aP c0))) rfl (fun _=>rfl)) (aW (j:=2) (by kernel_rfl) (fun _ _ _ _ _ h=>h) rfl rfl rfl rfl rfl (fun _ _ h=>aY h (aL (aP c0))) rfl (fun _=>rfl)) (aI (aW (j:=2) (by kernel_rfl) (fun _ _ _ _ _ h=>h) rfl rfl rfl rfl rfl (fun _ _ h=>aY h (aL (aP c0))) rfl (fun _=>rfl)) (aW (j:=2) (by kernel_rfl) (fun _ _ _ _ _ h=>h) rfl rfl rfl rfl rfl (fun _ _ h=>aY h (aL (aP c0))) rfl (fun _=>rfl)) (aW (j:=2) (by kernel_rfl) (fun _ _ _ _ _ h=>h) rfl rfl rfl rfl rfl (fun _ _ h=>aY h (aL (aP c0))) rfl (fun _=>rfl)) (aW (j:=2) (by kernel_rfl) (fun _ _ _ _ _ h=>h) rfl rfl rfl rfl rfl (fun _ _ h=>aY h (aL (aP c0))) rfl (fun _=>rfl)) (bC (Z2 2 30 11 39 rfl (Pf (aP c0) rfl)) (bC (cu rfl) dN))))) ?_
   clear H;intro a w G zR H hv;have H:=H.bg (hv 12 40 rfl rfl) rfl;clear hv;refine kH H (Ra rfl ?_);clear H;intro a H;refine aJ ⟨rfl,?_⟩;refine bN _ _ ?_;clear bN;refine oh H rfl rfl ?_;refine aN (fun _ dD=>?_)
   have q1:¬ (0 < (k:Int)∧l[k].key=pk):=by first|exact fun h=>c1 h.2|exact fun h=>c0 h.1
   rw [ah (fun h=>q1 (by
    by_cases h0:0 < k
    ·rw [(hpk h0).2] at h
     injection h with h
     exact ⟨by omega,h.symm⟩
    rw [Pg (by omega)] at h
    cases h))] at heq
   refine dI hmx [[],[0],[0,1],[0,1,2],(ra 0 4),[0,1,2],[0,1,2],[0,1,2,6],[0,1,2,5,6,7],[0,1,2,5,6,7,8],[0,1,2,5,6,7,8,9],(ra 0 11),(ra 0 12),(ra 0 13)] [13] (by kernel_rfl) [_,_,_,undef,undef,undef,undef,undef,undef,undef,undef,undef,_] H (aI (Z0 rfl (Rm rfl)) (Z1 0 42 rfl (Rc rfl)) (Z1 1 43 rfl (Rm rfl)) (aW (j:=2) (by kernel_rfl) (fun _ _ _ _ _ h=>h) rfl rfl rfl rfl rfl (fun _ _ h=>aY h (aL (aP c0))) rfl (fun _=>rfl)) (aI (aW (j:=2) (by kernel_rfl) (fun _ _ _ _ _ h=>h) rfl rfl rfl rfl rfl (fun _ _ h=>aY h (aL (aP c0))) rfl (fun _=>rfl)) (aW (j:=2) (by kernel_rfl) (fun _ _ _ _ _ h=>h) rfl rfl rfl rfl rfl (fun _ _ h=>aY h (aL (aP c0))) rfl (fun _=>rfl)) (aW (j:=2) (by kernel_rfl) (fun _ _ _ _ _ h=>h) rfl rfl rfl rfl rfl (fun _ _ h=>aY h (aL (aP c0))) rfl (fun _=>rfl)) (aW (j:=2) (by kernel_rfl) (fun _ _ _ _ _ h=>h) rfl rfl rfl rfl rfl (fun _ _ h=>aY h (aL (aP c0))) rfl (fun _=>rfl)) (aI (aW (j:=2) (by kernel_rfl) (fun _ _ _ _ _ h=>h) rfl rfl rfl rfl rfl (fun _ _ h=>aY h (aL (aP c0))) rfl (fun _=>rfl)) (aW (j:=2) (by kernel_rfl) (fun _ _ _ _ _ h=>h) rfl rfl rfl rfl rfl (fun _ _ h=>aY h (aL (aP c0))) rfl (fun _=>rfl)) (aW (j:=2) (by kernel_rfl) (fun _ _ _ _ _ h=>h) rfl rfl rfl rfl rfl (fun _ _ h=>aY h (aL (aP c0))) rfl (fun _=>rfl)) (aW (j:=2) (by kernel_rfl) (fun _ _ _ _ _ h=>h) rfl rfl rfl rfl rfl (fun _ _ h=>aY h (aL (aP c0))) rfl (fun _=>rfl)) (bC (Z2 2 44 11 53 rfl (Pf (aP c0) rfl)) (bC (cu rfl) dN))))) ?_
   clear H;intro a w G rM H hv;have H:=H.bg (hv 12 54 rfl rfl) rfl;clear hv;refine kH H (Ra rfl ?_);clear H;intro a H;refine aJ ⟨rfl,?_⟩;refine dD _ _ ?_;clear dD;refine oh H rfl rfl ?_;refine fF ?_;refine ⟨_,by exact (H).sub ⟨rfl,rfl,rfl,rfl,rfl,rfl,aB⟩,?_⟩
   have q2:¬ (0 < (k:Int)∧l[k].key < pk):=by first|exact fun h=>c3 h.2|exact fun h=>c0 h.1
   rw [ah (fun h=>q2 (by
    by_cases h0:0 < k
    ·rw [(hpk h0).2] at h;exact ⟨by omega,oD h⟩
    rw [Pg (by omega)] at h
    cases h))] at heq
   exact ⟨heq,fun b o h=>rM b o (zR b o (Bf b o h))⟩
  clear H;intro g2 a w hI H;obtain ⟨heq,kF⟩:=hI;replace hrow:=fun j u hj=>aH kF (hrow j u hj);dsimp only [lca,aO] at H;refine kP H (SR fun _ dO=>aT xB aD 0 rfl rfl (aT RD aD 0 rfl rfl ?_));clear H;intro a H;refine s_call F6 H wn rfl (F4 _ _ H.ro l[k].key l[k].value) rfl ?_;clear H;rintro v59 G59 a w rfl ajd H;refine kH H (ak dO rfl (SR fun _ dK=>Rm rfl (Rc rfl (Kz dK (Cd rfl ?_ ?_))))) <;> clear H dO dK
  ·intro oM a H
   try have p61:=dT oM
   refine kP H (SR fun _ dS=>Rm rfl (ak dS rfl ?_));clear H dS;intro a H;refine lr H results95 rfl ?_
   first
    | exact H.rt (av vi (by rw [ah (by simpa using p61)] at heq;rw [iO,ah (by omega)];exact heq))
    | exact H.rt (av vi (by rw [au (by simpa using h21)] at heq;rw [iO,ah (by omega)];exact heq))
    | exact H.rt (av vi (by rw [iO,ah (by omega)];exact heq))
    | exact H.rt (av vi (by rw [iO,ah (by omega),← heq,show l.drop k=[] from fI (by omega)];rfl))
    | exact H.rt (av vi (by rw [iO,au (by omega)]))
  intro oM a H
  try have p61:=dF oM
  refine kP H (Kc aV (SC (Rd rfl (Rm rfl ?_))));clear H aV;intro a H;refine aJ ?_;refine dH ((k+1,G59)) (by exact (H.dB (Pl:=[_]) (cB:=[]) [] (by decide) rfl).sub ⟨rfl,rfl,rfl,rfl,rfl,aB⟩) ?_ ?_
  ·(try dsimp only);exact ⟨by omega,by rw [au (by simpa using p61)] at heq;exact heq,fun b o h=>ajd b o (kF b o (hgm b o h))⟩
  first|omega|(dsimp only;omega)
 intro gK a H
 try have mo:=dF gK
 refine dR ?_;refine K6 _ _ ?_;clear K6;refine kP H (SR fun _ eP=>ak eP rfl ?_);clear H eP;intro a H;refine lr H results95 rfl ?_
 first
  | exact H.rt (av vi (by rw [ah (by simpa using p61)] at heq;rw [iO,ah (by omega)];exact heq))
  | exact H.rt (av vi (by rw [au (by simpa using h21)] at heq;rw [iO,ah (by omega)];exact heq))
  | exact H.rt (av vi (by rw [iO,ah (by omega)];exact heq))
  | exact H.rt (av vi (by rw [iO,ah (by omega),← heq,show l.drop k=[] from fI (by omega)];rfl))
  | exact H.rt (av vi (by rw [iO,au (by omega)]))
end
section
open Go.RowKit
theorem gZ:Ty prog 42 1 8 [.int .i64 0] false:=⟨by kernel_rfl,by kernel_rfl⟩
theorem qz:prog.underlying 195=some (.slice 42):=by kernel_rfl
theorem yK:∀ args w,(callFunc 134 args).run prog w=.ok (.enter 134 args) w:=enters func134 rfl (by kernel_rfl)
theorem ze (G:GH) (w0:World) (hG:Hold G w0) (n l h:Int):Calls prog 134 #[vi n,vi l,vi h] w0 (bY w0 G fun u G'=>u=.bool (decide (l≤n∧n≤h))∧G=G'):=by
 refine eN [(0,_),(1,_),(2,_)] func134 rfl ntmps134 rfl rfl hG ?_;intro a H;refine kP H (SR fun _ K1=>ak K1 rfl (SR fun _ K2=>Rm rfl (Rm rfl (Rc rfl (Rm rfl (Sp 10 rfl ?_ ?_)))))) <;> clear H K1
 ·intro h10 a H
  try have uf:=dT h10
  exact kH H (YM h10 rfl (YM h10 rfl (YC h10 rfl (Pt h10 rfl (ak K2 rfl (LR results134 rfl fun H=>H.rt ⟨aL (by first|(simp_all;done)|(simp_all;omega)),rfl⟩))))))
 intro h10 a H
 try have uf:=dF h10
 exact kH H (aZ h10 rfl (Pf h10 rfl (ak K2 rfl (LR results134 rfl fun H=>H.rt ⟨aL (by first|(simp_all;done)|(simp_all;omega)),rfl⟩))))
def bE (b:Bool) (e:Int):Int:=if b=true then e else 0
theorem jO (G:GH) (w0:World) (hG:Hold G w0) (b:Bool) (e:Int):Calls prog 47 #[.bool b,vi e] w0 (bY w0 G fun u G'=>u=vi (bE b e)∧G=G'):=by
 refine eN [(0,_),(1,_)] func47 rfl ntmps47 rfl rfl hG ?_;intro a H;refine kP H (SR fun _ K1=>ak K1 rfl (SQ fun _ K2=>SR fun _ K3=>Rm rfl (Kz K3 (Cd rfl ?_ ?_)))) <;> clear H K1 K3
 ·intro h5 a H
  try have p5:=dT h5
  exact kP H (SR fun _ K4=>Rm rfl (ak K4 rfl (LR results47 rfl fun H=>H.rt ⟨av vi (by simp_all [bE]),rfl⟩)))
 intro h5 a H
 try have p5:=dF h5
 exact kP H (Kc K2 (SR fun _ K5=>ak K5 rfl (LR results47 rfl fun H=>H.rt ⟨av vi (by simp_all [bE]),rfl⟩)))
def bK:List Int→Int
 | []=>0
 | e :: r=>if e≠0 then e else bK r
theorem NR {l:List Int} {k:Nat} (h:k < l.length):bK (l.drop k)=if l[k]≠0 then l[k] else bK (l.drop (k+1)):=by
 rw [jV h,bK]
theorem rz (G:GH) (w0:World) (hG:Hold G w0) (l:List Int) (v:aj) (hv:aC G (.sl 1 (l.map fun k=>[li k])) v) :
  Calls prog 72 #[v] w0 (bY w0 G fun u G'=>u=vi (bK l)∧G=G'):=by
 obtain ⟨A,c,rfl,hc1,hc2,hg⟩:=hv.slice;have hml:maxLen=9223372036854775807:=rfl;rw [bQ] at *;refine eN [(0,_)] func72 rfl ntmps72 rfl rfl hG ?_;intro a H;refine kP H (SR fun _ K1=>ak K1 rfl (SQ fun _ K2=>SR fun _ K3=>Rm rfl (Rl qz rfl (Rm rfl (Kz K3 (SB ?_))))));clear H K1 K3;intro a H;skip;refine eT (ι:=Nat) (Tc:=[(5,_),(6,_)]) (Lc:=[]) (fun gh=>[(7,vi gh)]) (fun gh=>[]) (fun gh=>G) (fun gh=>gh≤l.length∧bK (l.drop gh)=bK l) (fun gh=>l.length - gh) (0) (by exact (H).sub ⟨rfl,rfl,rfl,aB⟩) ?_ ?_
 ·exact ⟨gX _,rfl⟩
 clear H;intro k a w hI H;obtain ⟨hk,he⟩:=hI;dsimp only [lca,aO] at H;refine kP H (SR fun _ K4=>Rc rfl (Kz K4 (SQ fun _ K5=>Cd rfl ?_ ?_))) <;> clear H K4
 ·intro h8 a H
  try have p8:=dT h8
  have hk2:k < l.length:=by omega
  obtain ⟨b,o,cs,rfl,hcl,hrow,hr⟩:=hg k [li l[k]] (by simp [hk2]);obtain ⟨v1,_,rfl,⟨rfl,-⟩,rfl⟩:∃ v vs,cs=v :: vs∧aC G (li l[k]) v∧bJ G [] vs:=hr
  have hcell:aG G b (o+k*1)=some (vi l[k]):=by simpa using hrow 0 _ rfl
  refine kP H (Kc K5 (SQ fun _ K6=>SB (SR fun _ K7=>Ri qz gZ rfl rfl (Rg gZ rfl hcell (ak K7 rfl (SR fun _ K8=>Rm rfl (Rc rfl (Kz K8 (Cd rfl ?_ ?_))))))))) <;> clear H K5 K7 K8
  ·intro h12 a H
   try have pK:=dT h12
   exact kP H (SR fun _ K9=>Rm rfl (ak K9 rfl (LR results72 rfl fun H=>H.rt ⟨av vi (by rw [NR hk2,au pK] at he;exact he),rfl⟩)))
  intro h12 a H
  try have pK:=dF h12
  refine kP H (Kc K6 (SC (Rd rfl (Rm rfl ?_))));clear H K6;intro a H;refine aJ ?_;refine dH ((k+1)) (by exact (H).sub ⟨rfl,rfl,rfl,aB⟩) ?_ ?_
  ·exact ⟨by omega,by rw [NR hk2,ah pK] at he;exact he⟩
  first|omega|(dsimp only;omega)
 intro h8 a H
 try have p8:=dF h8
 refine dR ?_;refine K2 _ _ ?_;clear K2;exact kP H (SR fun _ aV=>ak aV rfl (LR results72 rfl fun H=>H.rt ⟨av vi (by rw [fI (by omega)] at he;exact he),rfl⟩))
def uE (fv:aj) (Gi:GH) (n:Nat) (E:Nat→Int):Prop:=∀ i,i < n→∀ (G1:GH) (w1:World),(∀ b o,Gi b=some o→G1 b=some o)→Hold G1 w1→zD prog fv [vi i] w1 (bY w1 G1 fun u G'=>u=vi (E i))
theorem uE.mono {fv:aj} {G G':GH} {n:Nat} {E:Nat→Int} (h:uE fv G n E) (hm:∀ b o,G b=some o→G' b=some o):uE fv G' n E:=fun i hi G1 w1 hG1=>h i hi G1 w1 fun b o hb=>hG1 b o (hm b o hb)
def iC (E:Nat→Int) (n:Nat):Int:=bK ((List.range n).map E)
theorem qd {E:Nat→Int} {n k:Nat} (h:k < n):bK (((List.range n).map E).drop k)=if E k≠0 then E k else bK (((List.range n).map E).drop (k+1)):=by
 rw [NR (by simpa using h)];simp
theorem Ko (G:GH) (w0:World) (hG:Hold G w0) (n:Nat) (E:Nat→Int) (fv:aj) (hn:n≤4611686018427387904) (hf:uE fv G n E) :
  Calls prog 101 #[vi n,fv] w0 (bY w0 G fun u G'=>u=vi (iC E n)):=by
 refine eN [(0,_),(1,_)] func101 rfl ntmps101 rfl rfl hG ?_;intro a H;refine kP H (SR fun _ K1=>ak K1 rfl (SQ fun _ K2=>SR fun _ K3=>Rm rfl (Rm rfl (Kz K3 (SB ?_)))));clear H K1 K3;intro a H;skip;refine eT (ι:=Nat × GH) (Tc:=[(1,_),(7,_)]) (Lc:=[]) (fun gh=>[(8,vi gh.1)]) (fun gh=>[]) (fun gh=>gh.2) (fun gh=>gh.1≤n∧bK (((List.range n).map E).drop gh.1)=iC E n∧(∀ b o,G b=some o→gh.2 b=some o)) (fun gh=>n - gh.1) ((0,G)) (by exact (H).sub ⟨rfl,rfl,rfl,aB⟩) ?_ ?_
 ·exact ⟨gX _,rfl,fun _ _ h=>h⟩
 clear H;rintro ⟨k,g⟩ a w hI H;dsimp only at hI H;obtain ⟨hk,he,hgm⟩:=hI;dsimp only [lca,aO] at H;refine kP H (SR fun _ K4=>Rc rfl (Kz K4 (SQ fun _ K5=>Cd rfl ?_ ?_))) <;> clear H K4
 ·intro h9 a H
  try have p9:=dT h9
  have hk2:k < n:=by omega
  refine kP H (Kc K5 (SQ fun _ K6=>SB (SR fun _ K7=>Rm rfl (ak K7 rfl (SR fun _ K8=>Rm rfl (Rm rfl ?_))))));clear H K5 K7;intro a H;refine vg H wn rfl rfl (hf k hk2 _ _ hgm H.ro) rfl ?_;clear H;rintro v13 Ao a w rfl rQ H;refine kH H (ak K8 rfl (SR fun _ K9=>Rm rfl (Rc rfl (Kz K9 (Cd rfl ?_ ?_))))) <;> clear H K8 K9
  ·intro jI a H
   try have pQ:=dT jI
   exact kP H (SR fun _ aV=>Rm rfl (ak aV rfl (LR results101 rfl fun H=>H.rt (av vi (by rw [qd hk2,au pQ] at he;exact he)))))
  intro jI a H
  try have pQ:=dF jI
  refine kP H (Kc K6 (SC (Rd rfl (Rm rfl ?_))));clear H K6;intro a H;refine aJ ?_;refine dH ((k+1,Ao)) (by exact (H).sub ⟨rfl,rfl,rfl,aB⟩) ?_ ?_
  ·(try dsimp only);exact ⟨by omega,by rw [qd hk2,ah pQ] at he;exact he,fun b o h=>rQ b o (hgm b o h)⟩
  first|omega|(dsimp only;omega)
 intro h9 a H
 try have p9:=dF h9
 refine dR ?_;refine K2 _ _ ?_;clear K2;exact kP H (SR fun _ bF=>ak bF rfl (LR results101 rfl fun H=>H.rt (av vi (by rw [fI (by simp;omega)] at he;exact he))))
def kI (id:Nat→Int) (i:Nat):Int:=if ¬ (1≤id i∧id i≤1073741824) then 18 else if 0 < i∧id i=id (i - 1) then 7 else if 0 < i∧id i < id (i - 1) then 6 else 0
theorem UW (G:GH) (w0:World) (hG:Hold G w0) (i:Nat) (id:Nat→Int) (fv:aj) (hn:i≤4611686018427387904) (hf:uE fv G (i+1) id) :
  Calls prog 131 #[vi i,fv] w0 (bY w0 G fun u G'=>u=vi (kI id i)):=by
 refine eN [(0,_),(1,_)] func131 rfl ntmps131 rfl rfl hG ?_;intro a H;refine kP H (SR fun _ K1=>ak K1 rfl (SQ fun _ K2=>SB (SR fun _ K3=>Rm rfl (Rm rfl ?_))));clear H K1;intro a H;refine vg H wn rfl rfl (hf i (Nat.lt_succ_self _) _ _ (fun _ _ h=>h) H.ro) rfl ?_;clear H;rintro v8 G8 a w rfl zV H;refine s_call yK H wn rfl (ze _ _ H.ro (id i) 1 1073741824) rfl ?_;clear H;rintro v9 _ a w ⟨rfl,rfl⟩ - H;refine kH H (Rn rfl (ak K3 rfl (Cd rfl ?_ ?_))) <;> clear H K3
 ·intro h5 a H
  try have p5:=dT h5
  refine kP H (SR fun _ K4=>ak K4 rfl ?_);clear H K4;intro a H;refine lr H results131 rfl ?_
  exact H.rt (av vi (by unfold kI;(repeat' split) <;> first|rfl|(exfalso;simp_all;done)|(exfalso;simp_all;omega)))
 intro h5 a H
 try have p5:=dF h5
 refine kP H (SR fun _ K5=>Rm rfl (Rc rfl (Rm rfl (Sp 14 rfl ?_ ?_)))) <;> clear H
 ·intro gq a H
  try have sN:=dT gq
  refine kH H (YM gq rfl (YM gq rfl ?_));clear H;intro a H;refine vg H (wg H rfl rfl gq) rfl rfl (hf i (Nat.lt_succ_self _) _ _ zV H.ro) rfl ?_;clear H;rintro v17 G17 a w rfl GL H;refine kH H (YM gq rfl (YM gq rfl ?_));clear H;intro a H;refine mD _ H (wg H rfl rfl gq) rfl rfl rfl (by omega) (by omega) rfl ?_;clear H;intro a H;rw [show ((i:Int) - 1)=((i - 1:Nat):Int) by omega] at H;refine vg H (wg H rfl rfl gq) rfl rfl (hf (i - 1) (by omega) _ _ (fun b o h=>GL b o (zV b o h)) H.ro) rfl ?_;clear H;rintro v21 MS a w rfl sJ H;refine kH H (YC gq rfl (Pt gq rfl (ak K5 rfl (Cd rfl ?_ ?_)))) <;> clear H K5
  ·intro h11 a H
   try have xP:=dT h11
   refine kP H (SR fun _ K6=>ak K6 rfl ?_);clear H K6;intro a H;refine lr H results131 rfl ?_
   exact H.rt (av vi (by unfold kI;(repeat' split) <;> first|rfl|(exfalso;simp_all;done)|(exfalso;simp_all;omega)))
  intro h11 a H
  try have xP:=dF h11
  refine kP H (SR fun _ K7=>Rm rfl (Rc rfl (Rm rfl (Sp 27 rfl ?_ ?_)))) <;> clear H
  ·intro h27 a H
   try have p27:=dT h27
   refine kH H (YM h27 rfl (YM h27 rfl ?_));clear H;intro a H;refine vg H (wg H rfl rfl h27) rfl rfl (hf i (Nat.lt_succ_self _) _ _ (fun b o h=>by first|exact sJ b o (GL b o (zV b o h))|(exfalso;omega)) H.ro) rfl ?_;clear H;rintro v30 D5 a w rfl EK H;refine kH H (YM h27 rfl (YM h27 rfl ?_));clear H;intro a H;refine mD _ H (wg H rfl rfl h27) rfl rfl rfl (by omega) (by omega) rfl ?_;clear H;intro a H;rw [show ((i:Int) - 1)=((i - 1:Nat):Int) by omega] at H;refine vg H (wg H rfl rfl h27) rfl rfl (hf (i - 1) (by omega) _ _ (fun b o h=>by first|exact EK b o (sJ b o (GL b o (zV b o h)))|(exfalso;omega)) H.ro) rfl ?_;clear H;rintro v34 G34 a w rfl ZP H;refine kH H (YC h27 rfl (Pt h27 rfl (ak K7 rfl (Cd rfl ?_ ?_)))) <;> clear H K7
   ·intro fJ a H
    try have nO:=dT fJ
    refine kP H (SR fun _ K8=>ak K8 rfl ?_);clear H K8;intro a H;refine lr H results131 rfl ?_
    exact H.rt (av vi (by unfold kI;(repeat' split) <;> first|rfl|(exfalso;simp_all;done)|(exfalso;simp_all;omega)))
   intro fJ a H
   try have nO:=dF fJ
   refine kP H (Kc K2 (SR fun _ K9=>ak K9 rfl ?_));clear H K2 K9;intro a H;refine lr H results131 rfl ?_
   exact H.rt (av vi (by unfold kI;(repeat' split) <;> first|rfl|(exfalso;simp_all;done)|(exfalso;simp_all;omega)))
  intro h27 a H
  try have p27:=dF h27
  refine kH H (aZ h27 rfl (aZ h27 rfl (aS h27 rfl (Pf h27 rfl (ak K7 rfl (Cf rfl rfl (Kc K2 (SR fun _ aV=>ak aV rfl ?_))))))));clear H K7 K2 aV;intro a H;refine lr H results131 rfl ?_
  exact H.rt (av vi (by unfold kI;(repeat' split) <;> first|rfl|(exfalso;simp_all;done)|(exfalso;simp_all;omega)))
 intro gq a H
 try have sN:=dF gq
 refine kH H (aZ gq rfl (aZ gq rfl (aS gq rfl (Pf gq rfl (ak K5 rfl (Cf rfl rfl (SR fun _ bF=>Rm rfl (Rc rfl (Rm rfl (Sp 27 rfl ?_ ?_)))))))))) <;> clear H K5
 ·intro h27 a H
  try have p27:=dT h27
  refine kH H (YM h27 rfl (YM h27 rfl ?_));clear H;intro a H;refine vg H (wg H rfl rfl h27) rfl rfl (hf i (Nat.lt_succ_self _) _ _ (fun b o h=>by first|exact sJ b o (GL b o (zV b o h))|(exfalso;omega)) H.ro) rfl ?_;clear H;rintro v30 D5 a w rfl EK H;refine kH H (YM h27 rfl (YM h27 rfl ?_));clear H;intro a H;refine mD _ H (wg H rfl rfl h27) rfl rfl rfl (by omega) (by omega) rfl ?_;clear H;intro a H;rw [show ((i:Int) - 1)=((i - 1:Nat):Int) by omega] at H;refine vg H (wg H rfl rfl h27) rfl rfl (hf (i - 1) (by omega) _ _ (fun b o h=>by first|exact EK b o (sJ b o (GL b o (zV b o h)))|(exfalso;omega)) H.ro) rfl ?_;clear H;rintro v34 G34 a w rfl ZP H;refine kH H (YC h27 rfl (Pt h27 rfl (ak bF rfl (Cd rfl ?_ ?_)))) <;> clear H bF
  ·intro fJ a H
   try have nO:=dT fJ
   refine kP H (SR fun _ bG=>ak bG rfl ?_);clear H bG;intro a H;refine lr H results131 rfl ?_
   exact H.rt (av vi (by unfold kI;(repeat' split) <;> first|rfl|(exfalso;simp_all;done)|(exfalso;simp_all;omega)))
  intro fJ a H
  try have nO:=dF fJ
  refine kP H (Kc K2 (SR fun _ bM=>ak bM rfl ?_));clear H K2 bM;intro a H;refine lr H results131 rfl ?_
  exact H.rt (av vi (by unfold kI;(repeat' split) <;> first|rfl|(exfalso;simp_all;done)|(exfalso;simp_all;omega)))
 intro h27 a H
 try have p27:=dF h27
 refine kH H (aZ h27 rfl (aZ h27 rfl (aS h27 rfl (Pf h27 rfl (ak bF rfl (Cf rfl rfl (Kc K2 (SR fun _ bN=>ak bN rfl ?_))))))));clear H bF K2 bN;intro a H;refine lr H results131 rfl ?_
 exact H.rt (av vi (by unfold kI;(repeat' split) <;> first|rfl|(exfalso;simp_all;done)|(exfalso;simp_all;omega)))
end
section
open Go.RowKit
theorem jM:∀ args w,(callFunc 47 args).run prog w=.ok (.enter 47 args) w:=enters func47 rfl (by kernel_rfl)
theorem qZ:∀ args w,(callFunc 72 args).run prog w=.ok (.enter 72 args) w:=enters func72 rfl (by kernel_rfl)
def pz (s:ByteArray):Bool:=decide (1≤s.size∧s.size≤40) && qB s
theorem XI (G:GH) (w0:World) (hG:Hold G w0) (s:ByteArray) (hs:s.size < 4611686018427387904):Calls prog 133 #[.string s] w0 (bY w0 G fun u G'=>u=.bool (pz s)∧G=G'):=by
 refine eN [(0,_)] func133 rfl ntmps133 rfl rfl hG ?_;intro a H;refine kP H (SR fun _ K1=>ak K1 rfl (SR fun _ K2=>Rm rfl (Rv iB rfl (Rc rfl (Rm rfl (Sp 6 rfl ?_ ?_)))))) <;> clear H K1
 ·intro h6 a H
  try have p6:=dT h6
  refine kH H (YM h6 rfl ?_);clear H;intro a H;refine Bu iB H (wg H rfl rfl h6) rfl rfl ?_;clear H;intro a H;refine kH H (YC h6 rfl (Pt h6 rfl (Rm rfl (Sp 11 rfl ?_ ?_)))) <;> clear H
  ·intro h11 a H
   try have xP:=dT h11
   refine kH H (YM h11 rfl ?_);clear H;intro a H;refine s_call Eu H (wg H rfl rfl h11) rfl (Fh _ _ H.ro s hs) rfl ?_;clear H;rintro v13 _ a w ⟨rfl,rfl⟩ - H;exact kH H (Pt h11 rfl (ak K2 rfl (LR results133 rfl fun H=>H.rt ⟨aL (by unfold pz;first|(simp_all;done)|(simp_all;omega)),rfl⟩)))
  intro h11 a H
  try have xP:=dF h11
  exact kH H (aS h11 rfl (Pf h11 rfl (ak K2 rfl (LR results133 rfl fun H=>H.rt ⟨aL (by unfold pz;first|(simp_all;done)|(simp_all;omega)),rfl⟩))))
 intro h6 a H
 try have p6:=dF h6
 exact kH H (aZ h6 rfl (Pf h6 rfl (Rm rfl (aS rfl rfl (Pf rfl rfl (ak K2 rfl (LR results133 rfl fun H=>H.rt ⟨aL (by unfold pz;first|(simp_all;done)|(simp_all;omega)),rfl⟩)))))))
theorem XH (G:GH) (w0:World) (hG:Hold G w0) (s:ByteArray) (hs:s.size < 4611686018427387904):Calls prog 42 #[.string s] w0 (bY w0 G fun u G'=>u=.bool (pz s)∧G=G'):=by
 refine eN [(0,_)] func42 rfl ntmps42 rfl rfl hG ?_;intro a H;refine kP H (SR fun _ K1=>ak K1 rfl (SR fun _ K2=>Rm rfl ?_));clear H K1;intro a H;refine s_call Eu H wn rfl (Fh _ _ H.ro s hs) rfl ?_;clear H;rintro v4 _ a w ⟨rfl,rfl⟩ - H;refine kH H (Rm rfl (Sp 5 rfl ?_ ?_)) <;> clear H
 ·intro h5 a H
  try have p5:=dT h5
  refine kH H (YM h5 rfl ?_);clear H;intro a H;refine Bu iB H (wg H rfl rfl h5) rfl rfl ?_;clear H;intro a H;refine kH H (YC h5 rfl (Pt h5 rfl (Rm rfl (Sp 10 rfl ?_ ?_)))) <;> clear H
  ·intro h10 a H
   try have uf:=dT h10
   refine kH H (YM h10 rfl ?_);clear H;intro a H;refine Bu iB H (wg H rfl rfl h10) rfl rfl ?_;clear H;intro a H;refine kH H (YC h10 rfl (Pt h10 rfl (ak K2 rfl ?_)));clear H K2;intro a H;refine lr H results42 rfl ?_;refine H.rt ⟨aL ?_,rfl⟩
   unfold pz
   cases hvs:qB s <;> simp_all
   all_goals (first|omega|(rw [qW];simp;omega))
  intro h10 a H
  try have uf:=dF h10
  refine kH H (aZ h10 rfl (Pf h10 rfl (ak K2 rfl ?_)));clear H K2;intro a H;refine lr H results42 rfl ?_;refine H.rt ⟨aL ?_,rfl⟩
  unfold pz
  cases hvs:qB s <;> simp_all
  all_goals (first|omega|(rw [qW];simp;omega))
 intro h5 a H
 try have p5:=dF h5
 refine kH H (aZ h5 rfl (Pf h5 rfl (Rm rfl (aZ rfl rfl (Pf rfl rfl (ak K2 rfl ?_))))));clear H K2;intro a H;refine lr H results42 rfl ?_;refine H.rt ⟨aL ?_,rfl⟩
 unfold pz
 cases hvs:qB s <;> simp_all
 all_goals (first|omega|(rw [qW];simp;omega))
def rX (s:ByteArray):Int:=bK [bE (!qB s) 12,bE (decide (1024 < (s.size:Int))) 10]
theorem Af {G:GH} {b:Nat} {x y:Int} (h:G b=some (.cells #[vi x,vi y] 42 (0,0))):aC G (.sl 1 ([x,y].map fun k=>[li k])) (.slice (some ⟨b,0,none⟩) 2 2) :=
 aC.eZ (n:=2) (cap:=2) h rfl (dw _) (show 2≤maxLen by decide) (lZ (dw _)) (fQ G [x,y])
theorem V4 (G:GH) (w0:World) (hG:Hold G w0) (s:ByteArray) (hs:s.size < 4611686018427387904):Calls prog 190 #[.string s] w0 (bY w0 G fun u G'=>u=vi (rX s)):=by
 refine eN [(0,_)] func190 rfl ntmps190 rfl rfl hG ?_;intro a H;refine kP H (SR fun _ K1=>ak K1 rfl (SR fun _ K2=>Rm rfl ?_));clear H K1;intro a H;refine s_call Eu H wn rfl (Fh _ _ H.ro s hs) rfl ?_;clear H;rintro v4 _ a w ⟨rfl,rfl⟩ - H;refine kH H (Rn rfl ?_);clear H;intro a H;refine s_call jM H wn rfl (jO _ _ H.ro _ 12) rfl ?_;clear H;rintro v6 _ a w ⟨rfl,rfl⟩ - H;refine kH H (Rm rfl (Rv iB rfl (Rc rfl ?_)));clear H;intro a H;refine s_call jM H wn rfl (jO _ _ H.ro _ 10) rfl ?_;clear H;rintro v10 _ a w ⟨rfl,rfl⟩ - H;refine jy qz gZ [_,_] [_,_] H wn rfl rfl rfl rfl rfl (by intro i q h;match i,h with|0,h=>exact h|1,h=>exact h|n+2,h=>simp at h) rfl rfl ?_;clear H;intro b11 a w Gw H;obtain ⟨zG,GK,Ja,H⟩:=H.dW;refine s_call qZ H wn rfl (rz _ _ H.ro _ _ (Af Ja)) rfl ?_;clear H;rintro v12 _ a w ⟨rfl,rfl⟩ - H;exact kH H (ak K2 rfl (LR results190 rfl fun H=>H.rt rfl))
theorem acj (G:GH) (w0:World) (hG:Hold G w0) (s:ByteArray) (hs:s.size < 4611686018427387904):Calls prog 92 #[.string s] w0 (bY w0 G fun u G'=>u=vi (rX s)∧G=G'):=by
 refine eN [(0,_)] func92 rfl ntmps92 rfl rfl hG ?_;intro a H;refine kP H (SR fun _ K1=>ak K1 rfl (SQ fun _ K2=>SB (SR fun _ K3=>Rm rfl ?_)));clear H K1;intro a H;refine s_call Eu H wn rfl (Fh _ _ H.ro s hs) rfl ?_;clear H;rintro v5 _ a w ⟨rfl,rfl⟩ - H;refine kH H (Rn rfl (ak K3 rfl (Cd rfl ?_ ?_))) <;> clear H K3
 ·intro h3 a H
  try have p3:=dT h3
  exact kP H (SR fun _ K4=>ak K4 rfl (LR results92 rfl fun H=>H.rt ⟨av vi (by unfold rX;simp_all [bK,bE]),rfl⟩))
 intro h3 a H
 try have p3:=dF h3
 refine kP H (SR fun _ K5=>Rm rfl (Rv iB rfl (Rc rfl (ak K5 rfl (Cd rfl ?_ ?_))))) <;> clear H K5
 ·intro h7 a H
  try have p7:=dT h7
  exact kP H (SR fun _ K6=>ak K6 rfl (LR results92 rfl fun H=>H.rt ⟨av vi (by unfold rX;simp_all [bK,bE]),rfl⟩))
 intro h7 a H
 try have p7:=dF h7
 exact kP H (Kc K2 (SR fun _ K7=>ak K7 rfl (LR results92 rfl fun H=>H.rt ⟨av vi (by unfold rX;simp_all [bK,bE]),rfl⟩)))
def wJ (id before:Int) (fst:Bool):Int:=if id < 1∨1073741824 < id then 18 else if fst=false∧id=before then 7 else if fst=false∧id < before then 6 else 0
theorem UU (G:GH) (w0:World) (hG:Hold G w0) (id before:Int) (fst:Bool):Calls prog 41 #[vi id,vi before,.bool fst] w0 (bY w0 G fun u G'=>u=vi (wJ id before fst)∧G=G'):=by
 refine eN [(0,_),(1,_),(2,_)] func41 rfl ntmps41 rfl rfl hG ?_;intro a H;refine kP H (SR fun _ K1=>ak K1 rfl (SQ fun _ K2=>SB (SR fun _ K3=>Rm rfl (Rc rfl (Rm rfl (Sp 10 rfl ?_ ?_)))))) <;> clear H K1
 ·intro h10 a H
  try have uf:=dT h10
  refine kH H (aS h10 rfl (Pt h10 rfl (ak K3 rfl (Ct rfl rfl (SR fun _ K4=>ak K4 rfl ?_)))));clear H K3 K4;intro a H;refine lr H results41 rfl ?_
  exact H.rt ⟨av vi (by unfold wJ;(repeat' split) <;> first|rfl|(exfalso;simp_all;done)|(exfalso;simp_all;omega)),rfl⟩
 intro h10 a H
 try have uf:=dF h10
 refine kH H (YM h10 rfl (YC h10 rfl (Pf h10 rfl (ak K3 rfl (Cd rfl ?_ ?_))))) <;> clear H K3
 ·intro h7 a H
  try have p7:=dT h7
  refine kP H (SR fun _ K5=>ak K5 rfl ?_);clear H K5;intro a H;refine lr H results41 rfl ?_
  exact H.rt ⟨av vi (by unfold wJ;(repeat' split) <;> first|rfl|(exfalso;simp_all;done)|(exfalso;simp_all;omega)),rfl⟩
 intro h7 a H
 try have p7:=dF h7
 refine kP H (SR fun _ K6=>Rm rfl (Rn rfl (Rm rfl (Sp 17 rfl ?_ ?_)))) <;> clear H
 ·intro gK a H
  try have mo:=dT gK
  refine kH H (YM gK rfl (YM gK rfl (YC gK rfl (Pt gK rfl (ak K6 rfl (Cd rfl ?_ ?_)))))) <;> clear H K6
  ·intro gq a H
   try have sN:=dT gq
   refine kP H (SR fun _ K7=>ak K7 rfl ?_);clear H K7;intro a H;refine lr H results41 rfl ?_
   exact H.rt ⟨av vi (by unfold wJ;(repeat' split) <;> first|rfl|(exfalso;simp_all;done)|(exfalso;simp_all;omega)),rfl⟩
  intro gq a H
  try have sN:=dF gq
  refine kP H (SR fun _ K8=>Rm rfl (Rn rfl (Rm rfl (Sp 25 rfl ?_ ?_)))) <;> clear H
  ·intro gN a H
   try have p25:=dT gN
   refine kH H (YM gN rfl (YM gN rfl (YC gN rfl (Pt gN rfl (ak K8 rfl (Cd rfl ?_ ?_)))))) <;> clear H K8
   ·intro h22 a H
    try have jE:=dT h22
    refine kP H (SR fun _ K9=>ak K9 rfl ?_);clear H K9;intro a H;refine lr H results41 rfl ?_
    exact H.rt ⟨av vi (by unfold wJ;(repeat' split) <;> first|rfl|(exfalso;simp_all;done)|(exfalso;simp_all;omega)),rfl⟩
   intro h22 a H
   try have jE:=dF h22
   refine kP H (Kc K2 (SR fun _ aV=>ak aV rfl ?_));clear H K2 aV;intro a H;refine lr H results41 rfl ?_
   exact H.rt ⟨av vi (by unfold wJ;(repeat' split) <;> first|rfl|(exfalso;simp_all;done)|(exfalso;simp_all;omega)),rfl⟩
  intro gN a H
  try have p25:=dF gN
  refine kH H (aZ gN rfl (Pf gN rfl (ak K8 rfl (Cf rfl rfl (Kc K2 (SR fun _ bF=>ak bF rfl ?_))))));clear H K8 K2 bF;intro a H;refine lr H results41 rfl ?_
  exact H.rt ⟨av vi (by unfold wJ;(repeat' split) <;> first|rfl|(exfalso;simp_all;done)|(exfalso;simp_all;omega)),rfl⟩
 intro gK a H
 try have mo:=dF gK
 refine kH H (aZ gK rfl (Pf gK rfl (ak K6 rfl (Cf rfl rfl (SR fun _ bG=>Rm rfl (Rn rfl (Rm rfl (Sp 25 rfl ?_ ?_)))))))) <;> clear H K6
 ·intro gN a H
  try have p25:=dT gN
  refine kH H (YM gN rfl (YM gN rfl (YC gN rfl (Pt gN rfl (ak bG rfl (Cd rfl ?_ ?_)))))) <;> clear H bG
  ·intro h22 a H
   try have jE:=dT h22
   refine kP H (SR fun _ bM=>ak bM rfl ?_);clear H bM;intro a H;refine lr H results41 rfl ?_
   exact H.rt ⟨av vi (by unfold wJ;(repeat' split) <;> first|rfl|(exfalso;simp_all;done)|(exfalso;simp_all;omega)),rfl⟩
  intro h22 a H
  try have jE:=dF h22
  refine kP H (Kc K2 (SR fun _ bN=>ak bN rfl ?_));clear H K2 bN;intro a H;refine lr H results41 rfl ?_
  exact H.rt ⟨av vi (by unfold wJ;(repeat' split) <;> first|rfl|(exfalso;simp_all;done)|(exfalso;simp_all;omega)),rfl⟩
 intro gN a H
 try have p25:=dF gN
 refine kH H (aZ gN rfl (Pf gN rfl (ak bG rfl (Cf rfl rfl (Kc K2 (SR fun _ bW=>ak bW rfl ?_))))));clear H bG K2 bW;intro a H;refine lr H results41 rfl ?_
 exact H.rt ⟨av vi (by unfold wJ;(repeat' split) <;> first|rfl|(exfalso;simp_all;done)|(exfalso;simp_all;omega)),rfl⟩
theorem UR (id:Nat→Int) (i:Nat):wJ (id i) (id (i - 1)) (decide (i=0))=kI id i:=by
 unfold wJ kI
 (repeat' split) <;> first|rfl|(exfalso;simp_all;done)|(exfalso;simp_all;omega)
def OX (c:Int):Bool:=decide (97≤xk .or .u8 c 32) && decide (xk .or .u8 c 32≤122)
def HV (c:Int):Bool:=(decide (48≤c) && decide (c≤57)) || decide (c=45) || decide (c=95)
def Cq (s:ByteArray) (k:Nat):Bool:=OX (iY s k) || (decide (k≠0) && HV (iY s k))
def oG (s:ByteArray):Bool:=decide (1≤s.size∧s.size≤40) && (List.range s.size).all (Cq s)
theorem Kt (G:GH) (w0:World) (hG:Hold G w0) (s:ByteArray) (hs:s.size < 4611686018427387904):Calls prog 93 #[.string s] w0 (bY w0 G fun u G'=>u=.bool (oG s)∧G=G'):=by
 refine eN [(0,_)] func93 rfl ntmps93 rfl rfl hG ?_;intro a H;refine kP H (SR fun _ K1=>ak K1 rfl (SQ fun _ K2=>SR fun _ K3=>Rm rfl (Rv iB rfl (Rc rfl (Rm rfl (Sp 10 rfl ?_ ?_)))))) <;> clear H K1
 ·intro h10 a H
  try have uf:=dT h10
  exact kH H (aZ h10 rfl (Pt h10 rfl (Kz K3 (Ct rfl rfl (SR fun _ K4=>ak K4 rfl (LR results93 rfl fun H=>H.rt ⟨aL (by unfold oG;rw [gY (by omega)];rfl),rfl⟩))))))
 intro h10 a H
 try have uf:=dF h10
 refine kH H (YM h10 rfl ?_);clear H;intro a H;refine Bu iB H (wg H rfl rfl h10) rfl rfl ?_;clear H;intro a H;refine kH H (YC h10 rfl (Pf h10 rfl (Kz K3 (Cd rfl ?_ ?_)))) <;> clear H K3
 ·intro gq a H
  try have sN:=dT gq
  exact kP H (SR fun _ K5=>ak K5 rfl (LR results93 rfl fun H=>H.rt ⟨aL (by unfold oG;rw [gY (by omega)];rfl),rfl⟩))
 intro gq a H
 try have sN:=dF gq
 refine kP H (Kc K2 (SQ fun _ K6=>SR fun _ K7=>Rm rfl (Rv iB rfl (Rm rfl (Kz K7 (SB ?_))))));clear H K2 K7;intro a H;skip;refine eT (ι:=Nat) (Tc:=[(0,_),(16,_)]) (Lc:=[]) (fun gh=>[(17,vi gh)]) (fun gh=>[]) (fun gh=>G) (fun gh=>gh≤s.size∧(List.range gh).all (Cq s)=true) (fun gh=>s.size - gh) (0) (by exact (H).sub ⟨rfl,rfl,rfl,aB⟩) ?_ ?_
 ·exact ⟨gX _,rfl⟩
 clear H;intro k a w hI H;obtain ⟨hk,hall⟩:=hI;dsimp only [lca,aO] at H;refine kP H (SR fun _ K8=>Rc rfl (Kz K8 (SQ fun _ K9=>Cd rfl ?_ ?_))) <;> clear H K8
 ·intro h18 a H
  try have xQ:=dT h18
  have hk2:k < s.size:=by omega
  refine kP H (Kc K9 (SQ fun _ aV=>SB (SR fun _ bF=>Rm rfl (ak bF rfl (SR fun _ bG=>Rm rfl (Rm rfl ?_))))));clear H K9 bF;intro a H;refine pU k iB H wn rfl rfl rfl (by omega) rfl ?_;clear H;intro a H;rw [← nJ] at H;refine Pq rfl H wn rfl rfl rfl ?_;clear H;intro a H;refine kH H (ak bG rfl ?_);clear H bG;intro a H;refine oF (ι:=Bool) (Tc:=[(0,_),(3,_),(16,_),(17,_)]) (Lc:=[]) (fun gh=>[(5,.bool gh)]) (fun gh=>[]) (fun gh=>G) (fun gh=>gh=OX (iY s k)) (by exact (H).sub ⟨rfl,rfl,rfl,rfl,aB⟩) ?_ ?_
  ·skip;refine kP H (SC (Rm rfl (Rc rfl (Rm rfl (Sp 26 rfl ?_ ?_))))) <;> clear H
   ·intro eO a H
    try have p26:=dT eO
    refine kH H (YM eO rfl (YC eO rfl (Pt eO rfl (Ra rfl ?_))));clear H;intro a H;refine aJ ?_;refine ⟨_,by exact (H).sub ⟨rfl,rfl,rfl,rfl,rfl,aB⟩,?_⟩
    unfold OX;first|(simp_all;done)|(simp_all;omega)
   intro eO a H
   try have p26:=dF eO
   refine kH H (aS eO rfl (Pf eO rfl (Ra rfl ?_)));clear H;intro a H;refine aJ ?_;refine ⟨_,by exact (H).sub ⟨rfl,rfl,rfl,rfl,rfl,aB⟩,?_⟩
   unfold OX;first|(simp_all;done)|(simp_all;omega)
  clear H;intro lt a w hI H;have hlt:=hI;dsimp only [lca,aO] at H;refine oF (ι:=Bool) (Tc:=[(0,_),(3,_),(5,_),(16,_),(17,_)]) (Lc:=[]) (fun gh=>[(6,.bool gh)]) (fun gh=>[]) (fun gh=>G) (fun gh=>gh=HV (iY s k)) (by exact (H).sub ⟨rfl,rfl,rfl,rfl,rfl,aB⟩) ?_ ?_
  ·skip;refine kP H (SC (Rm rfl (Rm rfl ?_)));clear H;intro a H;refine pU k iB H wn rfl rfl rfl (by omega) rfl ?_;clear H;intro a H;rw [← nJ] at H;refine kH H (Rc rfl (Rm rfl (Sp 34 rfl ?_ ?_))) <;> clear H
   ·intro eG a H
    try have p34:=dT eG
    refine kH H (YM eG rfl (YM eG rfl ?_));clear H;intro a H;refine pU k iB H (wg H rfl rfl eG) rfl rfl rfl (by omega) rfl ?_;clear H;intro a H;rw [← nJ] at H;refine kH H (YC eG rfl (Pt eG rfl (Rm rfl (Sp 40 rfl ?_ ?_)))) <;> clear H
    ·intro qj a H
     try have p40:=dT qj
     refine kH H (aS qj rfl (aS qj rfl (Pt qj rfl (Rm rfl (aS rfl rfl (aS rfl rfl (Pt rfl rfl (Ra rfl ?_))))))));clear H;intro a H;refine aJ ?_;refine ⟨_,by exact (H).sub ⟨rfl,rfl,rfl,rfl,rfl,rfl,aB⟩,?_⟩
     unfold HV;first|(simp_all;done)|(simp_all;omega)
    intro qj a H
    try have p40:=dF qj
    refine kH H (YM qj rfl (YM qj rfl ?_));clear H;intro a H;refine pU k iB H (wg H rfl rfl qj) rfl rfl rfl (by omega) rfl ?_;clear H;intro a H;rw [← nJ] at H;refine kH H (YC qj rfl (Pf qj rfl (Rm rfl (Sp 46 rfl ?_ ?_)))) <;> clear H
    ·intro h46 a H
     try have p46:=dT h46
     refine kH H (aS h46 rfl (aS h46 rfl (Pt h46 rfl (Ra rfl ?_))));clear H;intro a H;refine aJ ?_;refine ⟨_,by exact (H).sub ⟨rfl,rfl,rfl,rfl,rfl,rfl,aB⟩,?_⟩
     unfold HV;first|(simp_all;done)|(simp_all;omega)
    intro h46 a H
    try have p46:=dF h46
    refine kH H (YM h46 rfl (YM h46 rfl ?_));clear H;intro a H;refine pU k iB H (wg H rfl rfl h46) rfl rfl rfl (by omega) rfl ?_;clear H;intro a H;rw [← nJ] at H;refine kH H (YC h46 rfl (Pf h46 rfl (Ra rfl ?_)));clear H;intro a H;refine aJ ?_;refine ⟨_,by exact (H).sub ⟨rfl,rfl,rfl,rfl,rfl,rfl,aB⟩,?_⟩
    unfold HV;first|(simp_all;done)|(simp_all;omega)
   intro eG a H
   try have p34:=dF eG
   refine kH H (aS eG rfl (aS eG rfl (Pf eG rfl (Rm rfl ?_))));clear H;intro a H;(iterate 2 refine JH H (wg H rfl rfl rfl) rfl rfl ?_;clear H;intro a H);refine pU k iB H (wg H rfl rfl rfl) rfl rfl rfl (by omega) rfl ?_;clear H;intro a H;rw [← nJ] at H;refine Ml H (wg H rfl rfl rfl) rfl rfl rfl rfl ?_;clear H;intro a H;refine kH H (Pf rfl rfl (Rm rfl (Sp 46 rfl ?_ ?_))) <;> clear H
   ·intro h46 a H
    try have p46:=dT h46
    refine kH H (aS h46 rfl (aS h46 rfl (Pt h46 rfl (Ra rfl ?_))));clear H;intro a H;refine aJ ?_;refine ⟨_,by exact (H).sub ⟨rfl,rfl,rfl,rfl,rfl,rfl,aB⟩,?_⟩
    unfold HV;first|(simp_all;done)|(simp_all;omega)
   intro h46 a H
   try have p46:=dF h46
   refine kH H (YM h46 rfl (YM h46 rfl ?_));clear H;intro a H;refine pU k iB H (wg H rfl rfl h46) rfl rfl rfl (by omega) rfl ?_;clear H;intro a H;rw [← nJ] at H;refine kH H (YC h46 rfl (Pf h46 rfl (Ra rfl ?_)));clear H;intro a H;refine aJ ?_;refine ⟨_,by exact (H).sub ⟨rfl,rfl,rfl,rfl,rfl,rfl,aB⟩,?_⟩
   unfold HV;first|(simp_all;done)|(simp_all;omega)
  clear H;intro ot a w hI H;have hot:=hI;dsimp only [lca,aO] at H;refine kP H (SR fun _ bM=>Rm rfl (Rn rfl (Rm rfl (Sp 54 rfl ?_ ?_)))) <;> clear H
  ·intro iG a H
   try have p54:=dT iG
   refine kH H (YM iG rfl (YC iG rfl (YM iG rfl (Sp 57 rfl ?_ ?_)))) <;> clear H
   ·intro h57 a H
    try have p57:=dT h57
    refine kH H (aS h57 rfl (PT iG h57 rfl (Pt iG rfl (Kz bM (Ct rfl rfl (SR fun _ bN=>ak bN rfl ?_))))));clear H bM bN;intro a H;refine lr H results93 rfl ?_
    first
     | exact H.rt ⟨aL (by
       unfold oG
       rw [show k=s.size by omega] at hall
       rw [hall,dQ (by omega)];rfl),rfl⟩
     | exact H.rt ⟨aL (by
       unfold oG
       rw [show (List.range s.size).all (Cq s)=false from List.all_eq_false.2 ⟨k,by simpa using hk2,by unfold Cq;simp_all⟩,Bool.and_false]),rfl⟩
   intro h57 a H
   try have p57:=dF h57
   refine kH H (YM h57 rfl (YN h57 rfl (PF iG h57 rfl (Pt iG rfl (Kz bM (Cd rfl ?_ ?_)))))) <;> clear H bM
   ·intro oM a H
    try have p61:=dT oM
    refine kP H (SR fun _ bW=>ak bW rfl ?_);clear H bW;intro a H;refine lr H results93 rfl ?_
    first
     | exact H.rt ⟨aL (by
       unfold oG
       rw [show k=s.size by omega] at hall
       rw [hall,dQ (by omega)];rfl),rfl⟩
     | exact H.rt ⟨aL (by
       unfold oG
       rw [show (List.range s.size).all (Cq s)=false from List.all_eq_false.2 ⟨k,by simpa using hk2,by unfold Cq;simp_all⟩,Bool.and_false]),rfl⟩
   intro oM a H
   try have p61:=dF oM
   refine kP H (Kc aV (SC (Rd rfl (Rm rfl ?_))));clear H aV;intro a H;refine aJ ?_;refine dH ((k+1)) (by exact (H).sub ⟨rfl,rfl,rfl,aB⟩) ?_ ?_
   ·exact ⟨by omega,by rw [List.range_succ,List.all_append,hall];simp [Cq];simp_all⟩
   first|omega|(dsimp only;omega)
  intro iG a H
  try have p54:=dF iG
  refine kH H (aZ iG rfl (Ku rfl (Ku rfl (Ks iG rfl (Pf iG rfl (Kz bM (Cf rfl rfl (Kc aV (SC (Rd rfl (Rm rfl ?_)))))))))));clear H bM aV;intro a H;refine aJ ?_;refine dH ((k+1)) (by exact (H).sub ⟨rfl,rfl,rfl,aB⟩) ?_ ?_
  ·exact ⟨by omega,by rw [List.range_succ,List.all_append,hall];simp [Cq];simp_all⟩
  first|omega|(dsimp only;omega)
 intro h18 a H
 try have xQ:=dF h18
 refine dR ?_;refine K6 _ _ ?_;clear K6;refine kP H (SR fun _ cK=>ak cK rfl ?_);clear H cK;intro a H;refine lr H results93 rfl ?_
 first
  | exact H.rt ⟨aL (by
    unfold oG
    rw [show k=s.size by omega] at hall
    rw [hall,dQ (by omega)];rfl),rfl⟩
  | exact H.rt ⟨aL (by
    unfold oG
    rw [show (List.range s.size).all (Cq s)=false from List.all_eq_false.2 ⟨k,by simpa using hk2,by unfold Cq;simp_all⟩,Bool.and_false]),rfl⟩
end
section
open Go.RowKit
section
variable {N:Nat} {D:List Deferred} {w0:World} {F:Nat→Prop} {G0 G:GH} {L:OL} {T:List (Nat × aj)}
variable {r:Option Nat} {P:Program} {ops:Array Oper} {Q:Exit→Act→World→Prop} {rest:List Oper} {a:Act} {w:World}
variable {d:Nat} {ty:TypeId} {pos:String} {aR:Array Edge} {g:Option (Nat × Bool)}
end
end
section
open Go.RowKit
section
variable {N:Nat} {D:List Deferred} {w0:World} {F:Nat→Prop} {G0 G:GH} {L:OL} {T T':List (Nat × aj)}
variable {r:Option Nat} {P:Program} {Q:Exit→Act→World→Prop} {l:List Oper} {a a':Act} {w w':World} {ε:Type}
def Iq (l:List Oper) (pr:ε→Nat→aj→Prop) (T:List (Nat × aj)) (S:Nat→Bool) (E:ε) (T':List (Nat × aj)):Prop :=
 (∀ t v,lk T t=some v→lk T' t=some v)∧∀ i d,S i=true→fZ l i=some d→∃ v,lk T' d=some v∧pr E i v
theorem Iq.put {pr:ε→Nat→aj→Prop} {S:Nat→Bool} {E E':ε} {i d:Nat} {v:aj} (h:Iq l pr T S E T') (hok:afj l T=true) (hi:fZ l i=some d) (hv:pr E' i v) (hE:∀ j u,j≠i→pr E j u→pr E' j u):Iq l pr T (fE S i) E' ((d,v) :: T'):=by
 have hil:=BR hi
 have hok1:=lU.1 hok i (vP.2 hil)
 rw [oJ,hi] at hok1
 simp only [jr,Option.isNone_iff_eq_none,lU,vP] at hok1
 refine ⟨fun t u ht=>?_,fun j e hj he=>?_⟩
 ·rw [wK (fun e=>by subst e;rw [hok1.1] at ht;cases ht)];exact h.1 t u ht
 ·by_cases hji:j=i
  ·subst hji;rw [hi] at he;cases he;exact ⟨v,xO _ _ _,hv⟩
  ·have hSj:S j=true:=by unfold fE at hj;rwa [ah hji] at hj
   obtain ⟨u,hu1,hu2⟩:=h.2 j e hSj he
   have hne:d≠e:=by
    intro e';subst e'
    have h2:=hok1.2 j (BR he)
    have hb:Nat.beq i j=false:=BN (fun h=>hji h.symm)
    rw [hb,he] at h2
    simp at h2
   exact ⟨u,by rw [wK hne];exact hu1,hE j u hji hu2⟩
theorem Iq.add {pr:ε→Nat→aj→Prop} {S:Nat→Bool} {E:ε} (h:Iq l pr T S E T') {t:Nat} {u:aj} (hu:lk T' t=some u):Iq l pr T S E ((t,u) :: T'):=by
 have e:∀ s v,lk T' s=some v→lk ((t,u) :: T') s=some v:=fun s v hs=>by
  by_cases hst:t=s
  ·subst hst;rw [hu] at hs;cases hs;exact xO _ _ _
  ·rw [wK hst];exact hs
 exact ⟨fun s v hs=>e s v (h.1 s v hs),fun i d hi hd=>by
  obtain ⟨v,h1,h2⟩:=h.2 i d hi hd
  exact ⟨v,e d v h1,h2⟩⟩
end
end
section
open Go.RowKit
section
variable {N:Nat} {D:List Deferred} {w0:World} {F:Nat→Prop} {G0 G G1 G2:GH} {L L1:OL} {T Xs:List (Nat × aj)}
variable {r:Option Nat} {P:Program} {Q:Exit→Act→World→Prop} {l:List Oper} {a a':Act} {w w':World}
theorem XY {id:Nat} (hm:P.follows .mixedOrders=true) (cZ:List (List Nat)) (B:List Nat) (hk:Et l cZ=true) (hB:CG l cZ B=true) (X:(Nat→Bool)→Act→World→Prop) (h0:X (fun _=>false) a w.drew)
  (hstep:∀ i o S a w,l[i]?=some o→B.contains i=false→S i=false→(∀ j∈cZ.getD i [],S j=true)→(∀ j,j < l.length→i∈cZ.getD j []→S j=false)→X S a w→WL r P l.toArray (fun e a' w'=>e=.normal∧X (fE S i) a' w') [o] a w)
  (hend:∀ S a w,(∀ i,i < l.length→B.contains i=false→S i=true)→(∀ i,B.contains i=true→S i=false)→X S a w→WL r P l.toArray (fun e a w=>e=.normal∧Q .normal a w) (sM l B) a w):WP r P (.region id l.toArray true) Q a w:=by
 have hB1:∀ p b,B[p]?=some b→b < l.length∧∀ i,i < l.length→(B.contains i=false∨(B.take p).contains i=true)→i∈cZ.getD b []:=by
  intro p b hp
  simp only [CG,jr] at hB
  have h1:=lU.1 hB.1 p (vP.2 (lG.1 hp).1)
  rw [hp] at h1
  simp only [jr,lU,vP] at h1
  refine ⟨Eq.mp Nat.blt_eq h1.1,fun i hi hor=>?_⟩
  have h2:=h1.2 i hi
  rcases hor with h3|h3
  ·have h4:i∉B:=by simpa using h3
   simpa [h4] using h2
  ·have h4:i∈B.take p:=by simpa using h3
   simpa [h4] using h2
 have hB2:∀ i,i < l.length→B.contains i=false→∀ j∈cZ.getD i [],B.contains j=false:=by
  intro i hi hb j hj
  simp only [CG,jr] at hB
  have h1:=lU.1 hB.2 i (vP.2 hi)
  rw [hb] at h1
  simp only [Bool.false_or,lU] at h1
  simpa using h1 j hj
 refine XW hm cZ hk (fun S a w=>((∀ i,B.contains i=true→S i=false)∧X S a w) ∨
   ∃ p,(∀ i,i < l.length→B.contains i=false→S i=true)∧(∀ i,(B.take p).contains i=true→S i=true)∧(∀ q b,B[q]?=some b→p≤q→S b=false)∧WL r P l.toArray (fun e a w=>e=.normal∧Q .normal a w) (sM l (B.drop p)) a w)
  (.inl ⟨fun _ _=>rfl,h0⟩) ?_ ?_
 ·intro i o S a w ho hX dP qo hdesc
  have hil:i < l.length:=(lG.1 ho).1
  by_cases hbi:B.contains i=true
  ·-- an operation of the tail: all that stands ahead of it is done
   obtain ⟨p0,hp0⟩:=List.getElem?_of_mem (by simpa using hbi:i∈B)
   have hall:∀ j,j < l.length→B.contains j=false→S j=true:=fun j hj hb=>qo j ((hB1 p0 i hp0).2 j hj (.inl hb))
   have Uq:∃ p,(∀ i,(B.take p).contains i=true→S i=true)∧(∀ q b,B[q]?=some b→p≤q→S b=false)∧WL r P l.toArray (fun e a w=>e=.normal∧Q .normal a w) (sM l (B.drop p)) a w:=by
    rcases hX with ⟨h1,hD⟩|⟨p,_,h2,h3,h4⟩
    ·exact ⟨0,by simp,fun q b hq _=>h1 b (by simpa using nQ hq),hend S a w hall h1 hD⟩
    ·exact ⟨p,h2,h3,h4⟩
   obtain ⟨p,h2,h3,h4⟩:=Uq
   -- i is the next one
   have hpp:p≤p0:=by
    rcases Nat.lt_or_ge p0 p with hlt|hge
    ·have:(B.take p).contains i=true:=by
      simp only [qb]
      exact nQ (i:=p0) (by rw [zK,au hlt];exact hp0)
     rw [h2 i this] at dP;cases dP
    ·exact hge
   have GV:p < B.length:=by have:=(lG.1 hp0).1;omega
   have hbp:B[p]?=some B[p]:=fP GV
   have heq:B[p]=i:=by
    rcases Nat.lt_or_ge p p0 with hlt|hge
    ·exfalso
     have hin:B[p]∈cZ.getD i []:=(hB1 p0 i hp0).2 _ (hB1 p _ hbp).1 (.inr (by
      simp only [qb]
      exact nQ (i:=p) (by rw [zK,au hlt];exact hbp)))
     have:=qo _ hin
     rw [h3 p _ hbp (dw _)] at this;cases this
    ·have:p=p0:=by omega
     subst this
     rw [hbp] at hp0;simpa using hp0
   have hdrop:B.drop p=i :: B.drop (p+1):=by rw [jV GV,heq]
   have hops:sM l (B.drop p)=o :: sM l (B.drop (p+1)):=by rw [hdrop];simp [sM,ho]
   rw [hops] at h4
   refine adb (fun a' w' h5=>.inr ⟨p+1,fun j hj hb=>?_,fun j hj=>?_,fun q b hq hpq=>?_,h5⟩) h4
   ·unfold fE;split
    ·rfl
    ·exact hall j hj hb
   ·unfold fE;split
    ·rfl
    ·rename_i hne
     refine h2 j ?_
     simp only [qb] at hj ⊢
     rw [mV GV,vO] at hj
     rcases hj with hj|hj
     ·exact hj
     ·simp only [vQ] at hj;exact absurd (hj.trans heq) hne
   ·unfold fE
    rw [ah ?_]
    ·exact h3 q b hq (by omega)
    ·rintro rfl
     -- i would stand twice in B: it would come ahead of itself
     have h6:=(hB1 q b hq).2 b (hB1 q b hq).1 (.inr (by
      simp only [qb]
      exact nQ (i:=p) (by rw [zK,au (by omega)];rw [hbp,heq])))
     rw [qo _ h6] at dP;cases dP
  ·have GA:B.contains i=false:=by cases h:B.contains i with|false=>rfl|true=>exact absurd h hbi
   rcases hX with ⟨h1,hX⟩|⟨p,h0,_,_,_⟩
   ·refine wU (fun e a' w' ⟨he,hD⟩=>⟨he,.inl ⟨fun j hj=>?_,hD⟩⟩) (hstep i o S a w ho GA dP qo hdesc hX)
    unfold fE
    rw [ah (by rintro rfl;rw [GA] at hj;cases hj)]
    exact h1 j hj
   ·rw [h0 i hil GA] at dP;cases dP
 ·intro S a w hall hX
  rcases hX with ⟨h1,hD⟩|⟨p,_,_,h3,h4⟩
  ·have hnil:B=[]:=by
    cases B with
    | nil=>rfl
    | cons b B=>have h5:=h1 b (by simp);rw [hall b (hB1 0 b rfl).1] at h5;cases h5
   subst hnil
   exact (hend S a w (fun j hj _=>hall j hj) h1 hD).2
  ·have hnil:B.drop p=[]:=by
    cases hd:B.drop p with
    | nil=>rfl
    | cons b B' =>
     have hb:B[p]?=some b:=by
      have:=av (fun x:List Nat=>x[0]?) hd
      simpa using this
     have h5:=h3 p b hb (dw _)
     rw [hall b (hB1 p b hb).1] at h5;cases h5
   rw [hnil] at h4
   exact h4.2
theorem Yq {pr:Nat→aj→GH→Prop} {S:Nat→Bool} {i d:Nat} {v:aj} (hok:oJ l T i=true) (hi:fZ l i=some d) 
  (HT:St N D w0 F G0 G1 L T a w) (Hb:St N D w0 F G0 G1 L (Xs++full N a) a w) (hG:∀ k o,G k=some o→G1 k=some o) (hv:∀ j d,j≠i→S j=true→fZ l j=some d→∃ v,a.tmps[d]?=some v∧pr j v G1)
  (hp:pr i v G1) (H:St N D w0 F G0 G1 L1 ((d,v) :: (Xs++full N a)) a' w'):DX N D w0 F G0 G L1 T l pr (fE S i) a' w':=by
 have hil:i < l.length:=BR hi
 have hok1:=hok
 rw [oJ,hi] at hok1
 simp only [jr,Option.isNone_iff_eq_none,lU,vP] at hok1
 have hsame:∀ t,t≠d→a'.tmps[t]?=a.tmps[t]?:=by
  intro t ht
  by_cases hlt:t < N
  ·have h1:∃ u,lk (Xs++full N a) t=some u:=by
    rw [OV]
    cases lk Xs t with
    | some u=>exact ⟨u,rfl⟩
    | none=>exact ⟨_,OW a hlt⟩
   obtain ⟨u,hu⟩:=h1
   rw [Hb.get t u hu,H.get t u (by rw [wK (Ne.symm ht)];exact hu)]
  ·rw [Array.getElem?_eq_none (by rw [H.nI];omega),Array.getElem?_eq_none (by rw [Hb.nI];omega)]
 refine ⟨G1,hG,⟨H.nI,fun t u ht=>?_,H.tK,H.hp⟩,fun j e hj he=>?_⟩
 ·rw [hsame t (fun e=>by rw [e,hok1.1] at ht;cases ht)]
  exact HT.get t u ht
 ·by_cases hji:j=i
  ·subst hji
   rw [hi] at he
   simp only [oz] at he
   subst he
   exact ⟨v,H.get d v (xO _ _ _),hp⟩
  ·have hSj:S j=true:=by unfold fE at hj;rwa [ah hji] at hj
   obtain ⟨u,hu1,hu2⟩:=hv j e hji hSj he
   have hne:e≠d:=by
    intro e'
    subst e'
    have h2:=hok1.2 j (BR he)
    rw [BN (fun h=>hji h.symm),he] at h2
    simp at h2
   exact ⟨u,by rw [hsame e hne];exact hu1,hu2⟩
end
end
section
open Go.RowKit
section
variable {N:Nat} {D:List Deferred} {w0:World} {F:Nat→Prop} {G0 G:GH} {L:OL} {T:List (Nat × aj)}
variable {r:Option Nat} {P:Program} {ops:Array Oper} {Q:Exit→Act→World→Prop} {rest:List Oper} {a:Act} {w:World}
variable {d:Nat} {ty:TypeId} {pos:String} {aR:Array Edge} {g:Option (Nat × Bool)}
theorem Ib {t:TypeId} (H:St N D w0 F G0 G L T a w) (hw:Region.wanted ⟨some d,.makeMap t none,ty,pos,aR,g⟩ (yielded ops a.tmps)=true) (hd:Nat.blt d N=true)
  (k:∀ b a' w',w0.heap.size≤b→St N D w0 F G0 G ((b,.map #[] 0) :: L) ((d,.map (some b)) :: T) a' w'→WL r P ops Q rest a' w'):WL r P ops Q (⟨some d,.makeMap t none,ty,pos,aR,g⟩ :: rest) a w:=by
 refine iF (v:=.map (some w.heap.size)) (w':=w.alloc (.map #[] 0)) hw rfl ?_ (k _ _ _ H.hp.size (H.put hd _ (H.hp.alloc _)))
 simp [execOp,Instr.makeMap,newObj,Sem.run,fD]
def DI (an:Option (Nat × aj)) (zv:aj):aj × Bool:=match an with|some (_,v)=>(v,true)|none=>(zv,false)
theorem amQ {t kt et:TypeId} {kd:TypeDesc} {x y:Operand} {b i clock:Nat} {es:Array MapEntry} {ky zv:aj} (an:Option (Nat × aj)) (hm:P.underlying t=some (.map kt et)) (hk:P.underlying kt=some kd) (hz:(P.info? et).map (fun i=>i.zero)=some (some zv)) (H:St N D w0 F G0 G L T a w)
  (hw:Region.wanted ⟨some d,.lookup t x y true,ty,pos,aR,g⟩ (yielded ops a.tmps)=true) (hx:ev T x=some (.map (some b))) (hy:ev T y=some ky) (hi:L[i]?=some (b,.map es clock)) (hky:MapKept.IsKey kd ky) (hf:Instr.findNow kd ky es.toList 0=some an) (hd:Nat.blt d N=true)
  (k:∀ a',St N D w0 F G0 G L ((d,.tuple #[(DI an zv).1,.bool (DI an zv).2]) :: T) a' w→WL r P ops Q rest a' w):WL r P ops Q (⟨some d,.lookup t x y true,ty,pos,aR,g⟩ :: rest) a w:=by
 have hb:w.heap[b]?=some (.map es clock):=H.hp.own _ (nQ hi)
 obtain ⟨inf,hi1,hi2⟩:=oC.1 hz
 refine iF (v:=.tuple #[(DI an zv).1,.bool (DI an zv).2]) (w':=w) hw rfl ?_ (k _ (H.put hd _ H.hp))
 have h1:=MapKept.run_checkKey (w:=w) hk hky es.isEmpty 9999
 have h2:=MapKept.run_findKey (w:=w) hk hf
 cases an with
 | none=>simp [execOp,Instr.lookup,H.ev hx,H.ev hy,fD,qx hm,MapKept.run_getObj_map hb,h1,h2,Result.andThen,zeroValue,H9 hi1,hi2,DI]
 | some q=>simp [execOp,Instr.lookup,H.ev hx,H.ev hy,fD,qx hm,MapKept.run_getObj_map hb,h1,h2,Result.andThen,DI]
theorem aoz {w:World} {b clock:Nat} {es:Array MapEntry} {o:Obj} (h:w.heap[b]?=some (.map es clock)):wZ b o w { w with heap:=w.heap.setIfInBounds b o }:=by
 have hlt:b < w.heap.size:=(Array.getElem?_eq_some_iff.1 h).1
 refine ⟨rfl,rfl,rfl,by simp,by simp [hlt],fun k hk=>?_⟩
 simp only
 rw [Array.getElem?_setIfInBounds_ne (Ne.symm hk)]
theorem abH {t kt et:TypeId} {kd:TypeDesc} {x y z:Operand} {b i clock:Nat} {es:Array MapEntry} {ky v:aj} (hm:P.underlying t=some (.map kt et)) (hk:P.underlying kt=some kd) (H:St N D w0 F G0 G L T a w)
  (hw:Region.wanted ⟨none,.mapUpdate t x y z,ty,pos,aR,g⟩ (yielded ops a.tmps)=true) (hx:ev T x=some (.map (some b))) (hy:ev T y=some ky) (hzv:ev T z=some v) (hi:L[i]?=some (b,.map es clock)) (hky:MapKept.IsKey kd ky) (hf:Instr.findNow kd ky es.toList 0=some none)
  (k:∀ w',St N D w0 F G0 G (L.set i (b,.map (es.push ⟨ky,v,clock⟩) (clock+1))) T a w'→WL r P ops Q rest a w'):WL r P ops Q (⟨none,.mapUpdate t x y z,ty,pos,aR,g⟩ :: rest) a w:=by
 have hb:w.heap[b]?=some (.map es clock):=H.hp.own _ (nQ hi)
 have h1:=MapKept.run_checkKey (w:=w) hk hky false 9999
 have h2:=MapKept.run_findKey (w:=w) hk hf
 refine ade (w':={ w with heap:=w.heap.setIfInBounds b (.map (es.push ⟨ky,v,clock⟩) (clock+1)) }) hw rfl ?_ (k _ (H.move (H.hp.upd hi (aoz hb))))
 simp [execOp,Instr.mapUpdate,H.ev hx,H.ev hy,H.ev hzv,fD,qx hm,MapKept.run_getObj_map hb,h1,h2,MapKept.run_setObj_map _ hb,Result.andThen]
theorem abI {t yt:TypeId} {x y:Operand} {p q:ByteArray} (H:St N D w0 F G0 G L T a w) (hw:Region.wanted ⟨some d,.binOp .neq t x y yt,ty,pos,aR,g⟩ (yielded ops a.tmps)=true) (hx:ev T x=some (.string p)) (hy:ev T y=some (.string q)) (hd:Nat.blt d N=true)
  (k:∀ a',St N D w0 F G0 G L ((d,.bool (!(p.toList == q.toList))) :: T) a' w→WL r P ops Q rest a' w):WL r P ops Q (⟨some d,.binOp .neq t x y yt,ty,pos,aR,g⟩ :: rest) a w:=by
 refine iF (v:=.bool (!(p.toList == q.toList))) (w':=w) hw rfl ?_ (k _ (H.put hd _ H.hp))
 simp [execOp,H.ev hx,H.ev hy,fD,eqGuard,binOp,Op.stringOp]
theorem Hp.OZ (h:Hp w0 F G0 G L w) {b o:Nat} {c:Array aj} {e:TypeId} {fz:Nat × Nat} {v:aj} (hm:(b,Obj.cells c e fz)∈L) (hv:c[o]?=some v):w.cell? ⟨b,o,none⟩=some v:=by
 have:=h.own _ hm
 simp only [World.cell?,this]
 exact hv
end
end
section
open Go.RowKit
section
variable {N:Nat} {D:List Deferred} {w0:World} {F:Nat→Prop} {G0 G G1 G2:GH} {L L1:OL} {T Xs:List (Nat × aj)}
variable {r:Option Nat} {P:Program} {Q:Exit→Act→World→Prop} {l:List Oper} {a a':Act} {w w':World}
end
end
section
open Go.RowKit
section
variable {N:Nat} {D:List Deferred} {w0:World} {F:Nat→Prop} {G0 G G1 G2:GH} {L L1 L2:OL} {T Xs:List (Nat × aj)}
variable {r:Option Nat} {P:Program} {Q:Exit→Act→World→Prop} {l:List Oper} {a a':Act} {w w':World}
end
end
section
open Go.RowKit
theorem akO:liesAt prog prog.depth 289 (7 / prog.cellsOf 289) 2 287 1=true:=by kernel_rfl
theorem agv:∀ args w,(callFunc 241 args).run prog w=.ok (.enter 241 args) w:=enters func241 rfl (by kernel_rfl)
theorem PO:Ty prog 5 1 1 [.int .u8 0] false:=⟨by kernel_rfl,by kernel_rfl⟩
abbrev iL (b:Nat) (s:ByteArray) (i:Int) (p v q:aj) (pl e:Int):Nat × Obj:=(b,.cells #[.string s,vi i,p,v,q,vi pl,vi e] 289 (0,0))
theorem anc (G:GH) (L:OL) (w0:World) (b:Nat) (s:ByteArray) (i:Int) (A:Option Addr) (n c:Nat) (B:Option Addr) (m d:Nat) (pl e:Int) (hO:ji G (iL b s i (.pointer none) (.slice A n c) (.slice B m d) pl e :: L) w0) :
  Calls prog 241 #[(aQ b 2)] w0 (iM w0 G (iL b s i (.pointer none) (.slice A n c) (.slice B m d) pl e :: L) fun u G' L'=>L'=iL b s i (aQ b 2) (.slice A n c) (.slice B m d) pl e :: L∧G'=G):=by
 refine lq (N:=20) (T:=[(0,_)]) func241 rfl ntmps241 rfl rfl hO ?_;intro a H;refine kP H (SR fun _ K1=>Rm rfl (Rk rfl (aT KI Mt 0 rfl rfl ?_)));clear H;intro a H;refine abE MC H wn rfl rfl ?_;clear H;intro a H;refine K1 _ _ ?_;clear K1;refine qF H rfl ?_ ?_
 ·intro h6
  refine kP H (SC (Rm rfl (Rm rfl ?_)));clear H;intro a H;refine amZ MC acz VN H wn rfl 0 rfl rfl rfl ?_;clear H;intro a H;refine amS (xs:=[.tmp 9]) (alu _) H wn rfl rfl ?_;clear H;intro a H;refine amP acz MC VN H wn rfl 0 rfl akO rfl ?_;clear H;intro a H;refine kH H (Rk rfl (Rf KI rfl ?_));clear H;intro a H;refine bT Mt 0 (vs:=[_]) _ H wn rfl rfl rfl rfl rfl rfl rfl rfl ?_;clear H;intro w H;dsimp only [List.set,setRow] at H;refine aJ ?_;refine (leave0 H results241 ?_).2;exact H.hp.fO ⟨rfl,rfl⟩
 intro h6
 exact absurd h6 (by decide)
theorem ane (G:GH) (L:OL) (w0:World) (b:Nat) (s:ByteArray) (i:Int) (A:Option Addr) (n c:Nat) (B:Option Addr) (m d:Nat) (pl e:Int) (hO:ji G (iL b s i (aQ b 2) (.slice A n c) (.slice B m d) pl e :: L) w0) :
  Calls prog 241 #[(aQ b 2)] w0 (iM w0 G (iL b s i (aQ b 2) (.slice A n c) (.slice B m d) pl e :: L) fun u G' L'=>L'=iL b s i (aQ b 2) (.slice A n c) (.slice B m d) pl e :: L∧G'=G):=by
 refine lq (N:=20) (T:=[(0,_)]) func241 rfl ntmps241 rfl rfl hO ?_;intro a H;refine kP H (SR fun _ K1=>Rm rfl (Rk rfl (aT KI Mt 0 rfl rfl ?_)));clear H;intro a H;refine abE MC H wn rfl rfl ?_;clear H;intro a H;refine K1 _ _ ?_;clear K1;refine qF H rfl ?_ ?_
 ·intro h6
  exact absurd h6 (by simp)
 intro h6
 refine kP H (SR fun _ K2=>Rm rfl (Rk rfl (aT KI Mt 0 rfl rfl (Rm rfl ?_))));clear H;intro a H;refine amR MC VN H wn rfl rfl rfl ?_;clear H;intro a H;refine K2 _ _ ?_;clear K2;refine qF H rfl ?_ ?_
 ·intro h19
  exact absurd h19 (by decide)
 intro h19
 refine fF ?_;refine (leave0 H results241 ?_).2;exact H.hp.fO ⟨rfl,rfl⟩
theorem anf (G:GH) (L:OL) (w0:World) (b:Nat) (s:ByteArray) (i:Int) (p:aj) (A:Option Addr) (n c:Nat) (B:Option Addr) (m d:Nat) (pl e:Int) (hp:p=.pointer none∨p=(aQ b 2)) (hO:ji G (iL b s i p (.slice A n c) (.slice B m d) pl e :: L) w0) :
  Calls prog 241 #[(aQ b 2)] w0 (iM w0 G (iL b s i p (.slice A n c) (.slice B m d) pl e :: L) fun u G' L'=>L'=iL b s i (aQ b 2) (.slice A n c) (.slice B m d) pl e :: L∧G'=G):=by
 rcases hp with rfl|rfl
 ·exact anc G L w0 b s i A n c B m d pl e hO
 exact ane G L w0 b s i A n c B m d pl e hO
theorem acV (G:GH) (Lp Lo:OL) (w0:World) (b:Nat) (s:ByteArray) (i:Int) (p v:aj) (B:Option Addr) (m d:Nat) (pl e:Int) (n:Nat) (xs:List aj) (c:Int) (hp:p=.pointer none∨p=(aQ b 2)) (hO:ji G (iL b s i p v (.slice B m d) pl e :: (Lp++Lo)) w0) (hrow:gQ 5 1 v n xs Lo) (hn:n≤4294967296) :
  Calls prog 235 #[(aQ b 2),.int .u8 c] w0 (iM w0 G (iL b s i p v (.slice B m d) pl e :: (Lp++Lo)) fun u G' L'=>∃ v' jU,L'=iL b s i (aQ b 2) v' (.slice B m d) pl e :: (Lp++jU)∧gQ 5 1 v' (n+1) (xs++[.int .u8 c]) jU∧G'=G):=by
 have hml:maxLen=9223372036854775807:=rfl;obtain ⟨A,c0,rfl,-,-⟩:=hrow.shape;obtain ⟨Lt,qm⟩:∃ x,x=Lp++Lo:=⟨_,rfl⟩;rw [← qm] at hO ⊢;refine lq (N:=17) (T:=[(0,_),(1,_)]) func235 rfl ntmps235 rfl rfl hO ?_;intro a H;refine kP H (SR fun _ K1=>ak K1 rfl (SR fun _ K2=>Rm rfl ?_));clear H K1;intro a H;refine gP agv (Li:=[]) (L:=iL b s i p _ (.slice B m d) pl e :: Lt) H wn rfl (anf _ _ _ b s i p A n c0 B m d pl e hp (Hp.owns (Li:=[]) H.hp)) rfl ?_;clear H;rintro v6 _ L6 a w ⟨rfl,rfl⟩ Jg H;dsimp only [List.nil_append] at H;refine K2 _ _ ?_;clear K2;refine kP H (SR fun _ K3=>Rm rfl (Rm rfl (Rk rfl (aT IW JQ 0 rfl rfl (Rm rfl ?_)))));clear H;intro a H;refine jy Ie PO [_] [_] H wn rfl rfl rfl rfl rfl (by intro i q h;match i,h with|0,h=>exact h|n+1,h=>simp at h) rfl rfl ?_;clear H;intro b13 a w Od H;subst qm;have H:=St.un (A:=[_,_]) (B:=Lp) (C:=Lo) H;refine E8 (Li:=[_,_]++Lp) (Lo:=Lo) (news:=[.int .u8 c]) Ie PO rfl rfl H wn rfl rfl hrow rfl (H.hp.gB 0 rfl rfl) rfl (by omega) (by omega) rfl ?_;clear H;intro v14 adz a w aai H;obtain ⟨A14,c14,rfl,-,-⟩:=aai.shape;have H:=H.assoc;dsimp only [lca,aO] at H;refine kH H (Rk rfl (Rf IW rfl ?_));clear H;intro a H;refine bT JQ 1 (vs:=[_]) _ H wn rfl rfl rfl rfl rfl rfl rfl rfl ?_;clear H;intro w H;dsimp only [List.set,setRow] at H;refine K3 _ _ ?_;clear K3;exact kP H (SR fun _ K4=>ak K4 rfl (LR results235 rfl fun H=>H.hp.bR (L':=iL b s i _ _ _ pl e :: (Lp++adz)) (CX _ _) ⟨_,_,rfl,aai,rfl⟩))
theorem anx (G:GH) (L:OL) (w0:World) (b:Nat) (s:ByteArray) (i:Int) (p:aj) (A:Option Addr) (n c:Nat) (B:Option Addr) (m d:Nat) (pl e:Int) (hO:ji G (iL b s i p (.slice A n c) (.slice B m d) pl e :: L) w0) :
  Calls prog 242 #[(aQ b 2)] w0 (iM w0 G (iL b s i p (.slice A n c) (.slice B m d) pl e :: L) fun u G' L'=>u=vi n∧L'=iL b s i p (.slice A n c) (.slice B m d) pl e :: L∧G'=G):=by
 refine lq (N:=8) (T:=[(0,_)]) func242 rfl ntmps242 rfl rfl hO ?_;intro a H;exact kP H (SR fun _ K1=>ak K1 rfl (SR fun _ K2=>Rm rfl (Rk rfl (aT IW JQ 0 rfl rfl (Rl Ie rfl (ak K2 rfl (LR results242 rfl fun H=>H.hp.fO ⟨rfl,rfl,rfl⟩)))))))
theorem anO (G:GH) (L:OL) (w0:World) (b:Nat) (s:ByteArray) (i:Int) (p:aj) (A:Option Addr) (n c:Nat) (B:Option Addr) (m d:Nat) (pl e:Int) (hO:ji G (iL b s i p (.slice A n c) (.slice B m d) pl e :: L) w0) :
  Calls prog 244 #[(aQ b 2)] w0 (iM w0 G (iL b s i p (.slice A n c) (.slice B m d) pl e :: L) fun u G' L'=>L'=iL b s i (.pointer none) (.slice none 0 0) (.slice B m d) pl e :: L∧G'=G):=by
 refine lq (N:=8) (T:=[(0,_)]) func244 rfl ntmps244 rfl rfl hO ?_;intro a H;refine kP H (SR fun _ K1=>Rm rfl (Rk rfl (Rf KI rfl ?_)));clear H;intro a H;refine bT Mt 0 (vs:=[_]) _ H wn rfl rfl rfl rfl rfl rfl rfl rfl ?_;clear H;intro w H;dsimp only [List.set,setRow] at H;refine K1 _ _ ?_;clear K1;refine kP H (SC (Rm rfl (Rk rfl (Rf IW rfl ?_))));clear H;intro a H;refine bT JQ 0 (vs:=[_]) _ H wn rfl rfl rfl rfl rfl rfl rfl rfl ?_;clear H;intro w H;dsimp only [List.set,setRow] at H;refine aJ ?_;refine (leave0 H results244 ?_).2;exact H.hp.fO ⟨rfl,rfl⟩
theorem anR (G:GH) (Lp Lo:OL) (w0:World) (b:Nat) (s:ByteArray) (i:Int) (p v:aj) (B:Option Addr) (m d:Nat) (pl e:Int) (l:List UInt8) (hO:ji G (iL b s i p v (.slice B m d) pl e :: (Lp++Lo)) w0) (hrow:gQ 5 1 v l.length (Lib.byteCells l) Lo) (h0:l≠[]) :
  Calls prog 243 #[(aQ b 2)] w0 (iM w0 G (iL b s i p v (.slice B m d) pl e :: (Lp++Lo)) fun u G' L'=>u=.string ⟨l.toArray⟩∧L'=iL b s i p v (.slice B m d) pl e :: Lp):=by
 rcases hrow.2 with ⟨-,h,-⟩|⟨b2,cap,cur,rfl,rfl,hc1,hc2,hc3,hc4⟩
 ·exact absurd (List.eq_nil_of_length_eq_zero h) h0
 have hl0:l.length≠0:=fun h=>h0 (List.eq_nil_of_length_eq_zero h);have hml:maxLen=9223372036854775807:=rfl;obtain ⟨Lt,qm⟩:∃ x,x=Lp++[(b2,Obj.cells cur 5 (0,0))]:=⟨_,rfl⟩;rw [← qm] at hO ⊢;refine lq (N:=14) (T:=[(0,_)]) func243 rfl ntmps243 rfl rfl hO ?_;intro a H;refine kP H (SR fun _ K1=>ak K1 rfl (SQ fun _ K2=>?_));clear H K1;intro a H;have H:=H.sub (T':=[(0,_)]) ⟨rfl,aB⟩;refine dI hmx [[],[0],[0,1],[0,1,2],(ra 0 4),[],[5],[5,6],[5,6,7],(ra 5 4),(ra 0 10),(ra 0 11)] [10,11] (by kernel_rfl) [_,_,_,.slice (some ⟨b2,0,none⟩) l.length cap,(aQ b2 0),_,_,_,.slice (some ⟨b2,0,none⟩) l.length cap,_] H (aI (Z0 rfl (Rm rfl)) (Z1 0 3 rfl (Rk rfl)) (Z1 1 4 rfl (Rf IW rfl)) (Z1 2 5 rfl (Ro JQ 0 rfl)) (aI ?_ (Z0 rfl (Rm rfl)) (Z1 5 8 rfl (Rk rfl)) (Z1 6 9 rfl (Rf IW rfl)) (aI (Z1 7 10 rfl (Ro JQ 0 rfl)) (Z1 8 11 rfl (Rl Ie rfl)) (cu rfl) (cu rfl) dN))) ?_
 ·refine eF 3 6 rfl rfl fun _ a w G1 hG HT H fin=>?_;refine amV H wn rfl (by omega) rfl ?_;clear H;intro a H;exact fin H iJ rfl
 clear H;intro a w G rJ H hv;have H:=H.bg (hv 4 7 rfl rfl) rfl;have H:=H.bg (hv 9 12 rfl rfl) rfl;clear hv;subst qm;have H:=H.perm (List.Perm.cons _ og);dsimp only [lca,aO] at H;refine ana (i:=1) l aoo aey h0 (by omega) H wn rfl rfl rfl (by rw [← hc4,Nat.mul_one]) rfl ?_;clear H;intro fz a w H;dsimp only [List.set] at H;refine kH H (Ra rfl ?_);clear H;intro a H;refine aJ ⟨rfl,?_⟩;refine K2 _ _ ?_;clear K2;refine lr H results243 rfl ?_;exact H.hp.bR (L':=iL b s i _ _ _ pl e :: Lp) (List.Sublist.cons_cons _ (CX _ _)) ⟨rfl,rfl⟩
end
section
open Go.RowKit
section
variable {N:Nat} {D:List Deferred} {w0:World} {F:Nat→Prop} {G0 G G1 G2:GH} {L L1 L2:OL} {T Xs:List (Nat × aj)}
variable {r:Option Nat} {P:Program} {Q:Exit→Act→World→Prop} {l:List Oper} {a a':Act} {w w':World}
theorem DX.perm {pr:Nat→aj→GH→Prop} {S:Nat→Bool} (h:DX N D w0 F G0 G L1 T l pr S a w) (hp:L1.Perm L2):DX N D w0 F G0 G L2 T l pr S a w:=by
 obtain ⟨G1,hG,HS,hv⟩:=h
 exact ⟨G1,hG,HS.perm hp,hv⟩
end
end
section
open Go.RowKit
section
variable {N:Nat} {D:List Deferred} {w0:World} {F:Nat→Prop} {G0 G G1 G2:GH} {L L1 L2:OL} {T Xs:List (Nat × aj)}
variable {r:Option Nat} {P:Program} {Q:Exit→Act→World→Prop} {l:List Oper} {a a':Act} {w w':World}
theorem KA {pr:Nat→aj→GH→Prop} {S:Nat→Bool} {i d:Nat} {v:aj} (hok:oJ l T i=true) (kG:∀ i v (G G':GH),(∀ k o,G k=some o→G' k=some o)→pr i v G→pr i v G') (hi:fZ l i=some d)
  (HT:St N D w0 F G0 G1 L T a w) (Hb:St N D w0 F G0 G1 L (Xs++full N a) a w) (hG:∀ k o,G k=some o→G1 k=some o) (hv:∀ j d,j≠i→S j=true→fZ l j=some d→∃ v,a.tmps[d]?=some v∧pr j v G1)
  (hG2:∀ k o,G1 k=some o→G2 k=some o) (hp:pr i v G2) (H:St N D w0 F G0 G2 L1 ((d,v) :: (Xs++full N a)) a' w'):DX N D w0 F G0 G L1 T l pr (fE S i) a' w':=by
 have hok1:=hok
 rw [oJ,hi] at hok1
 simp only [jr,Option.isNone_iff_eq_none,lU,vP] at hok1
 have hsame:∀ t,t≠d→a'.tmps[t]?=a.tmps[t]?:=by
  intro t ht
  by_cases hlt:t < N
  ·have h1:∃ u,lk (Xs++full N a) t=some u:=by
    rw [OV]
    cases lk Xs t with
    | some u=>exact ⟨u,rfl⟩
    | none=>exact ⟨_,OW a hlt⟩
   obtain ⟨u,hu⟩:=h1
   rw [Hb.get t u hu,H.get t u (by rw [wK (Ne.symm ht)];exact hu)]
  ·rw [Array.getElem?_eq_none (by rw [H.nI];omega),Array.getElem?_eq_none (by rw [Hb.nI];omega)]
 refine ⟨G2,fun k o hk=>hG2 k o (hG k o hk),⟨H.nI,fun t u ht=>?_,H.tK,H.hp⟩,fun j e hj he=>?_⟩
 ·rw [hsame t (fun e=>by rw [e,hok1.1] at ht;cases ht)]
  exact HT.get t u ht
 ·by_cases hji:j=i
  ·subst hji
   rw [hi] at he
   simp only [oz] at he
   subst he
   exact ⟨v,H.get d v (xO _ _ _),hp⟩
  ·have hSj:S j=true:=by unfold fE at hj;rwa [ah hji] at hj
   obtain ⟨u,hu1,hu2⟩:=hv j e hji hSj he
   have hne:e≠d:=by
    intro e'
    subst e'
    have h2:=hok1.2 j (BR he)
    rw [BN (fun h=>hji h.symm),he] at h2
    simp at h2
   exact ⟨u,by rw [hsame e hne];exact hu1,kG j u _ _ hG2 hu2⟩
theorem aeg {id:Nat} {κ:Type} (k0:κ) (hm:P.follows .mixedOrders=true) (cZ:List (List Nat)) (B:List Nat) (hk:Et l cZ=true) (hB:CG l cZ B=true) (m1 m2 m3:Nat) (apW:B.contains m1=false) (apX:B.contains m2=false) (ajh:B.contains m3=false) (hne:Nat.beq m1 m2=false) (ZX:Nat.beq m2 m3=false) (hne1:Nat.beq m1 m3=false) (h12:(cZ.getD m2 []).contains m1=true) (gy:(cZ.getD m3 []).contains m1=true) (h23:(cZ.getD m3 []).contains m2=true)
  (C L2:OL) (ob:Obj) (L3:Nat→κ→OL) (hC:∀ x,x∈C→x∈L) (hC2:∀ x,x∈C→x∈L2) (hC3:∀ b k x,x∈C→x∈L3 b k) (pr:Nat→κ→Nat→aj→GH→Prop)
  (ajt:∀ b b' k i v G,Nat.beq i m2=false→(cZ.getD i []).contains m2=false→pr b k i v G→pr b' k i v G)
  (aju:∀ b k k' i v G,Nat.beq i m3=false→(cZ.getD i []).contains m3=false→pr b k i v G→pr b k' i v G)
  (H:St N D w0 F G0 G L T a w)
  (hstep:allI (fun i o=>∀ b k L' S a w G1,(∀ x,x∈C→x∈L')→B.contains i=false→Nat.beq i m1=false→Nat.beq i m2=false→Nat.beq i m3=false→S i=false→(∀ j∈cZ.getD i [],S j=true)→(∀ k o,G k=some o→G1 k=some o)→St N D w0 F G0 G1 L' T a w→(∀ i d,S i=true→fZ l i=some d→∃ v,a.tmps[d]?=some v∧pr b k i v G1) →
   WL r P l.toArray (fun e a' w'=>e=.normal∧DX N D w0 F G0 G L' T l (pr b k) (fE S i) a' w') [o] a w) 0 l)
  (aji:∀ o b k S a w G1,l[m1]?=some o→S m1=false→(∀ j∈cZ.getD m1 [],S j=true)→(∀ k o,G k=some o→G1 k=some o)→St N D w0 F G0 G1 L T a w→(∀ i d,i≠m1→S i=true→fZ l i=some d→∃ v,a.tmps[d]?=some v∧pr b k i v G1) →
   WL r P l.toArray (fun e a' w'=>e=.normal∧DX N D w0 F G0 G L2 T l (pr b k) (fE S m1) a' w') [o] a w)
  (ajj:∀ o k S a w G1,l[m2]?=some o→S m2=false→(∀ j∈cZ.getD m2 [],S j=true)→(∀ k o,G k=some o→G1 k=some o)→St N D w0 F G0 G1 L2 T a w→(∀ b i d,i≠m2→S i=true→fZ l i=some d→∃ v,a.tmps[d]?=some v∧pr b k i v G1) →
   WL r P l.toArray (fun e a' w'=>e=.normal∧∃ b,DX N D w0 F G0 G ((b,ob) :: L2) T l (pr b k) (fE S m2) a' w') [o] a w)
  (ajk:∀ o b S a w G1,l[m3]?=some o→S m3=false→(∀ j∈cZ.getD m3 [],S j=true)→(∀ k o,G k=some o→G1 k=some o)→St N D w0 F G0 G1 ((b,ob) :: L2) T a w→(∀ k i d,i≠m3→S i=true→fZ l i=some d→∃ v,a.tmps[d]?=some v∧pr b k i v G1) →
   WL r P l.toArray (fun e a' w'=>e=.normal∧∃ k,DX N D w0 F G0 G (L3 b k) T l (pr b k) (fE S m3) a' w') [o] a w)
  (hend:∀ b k a w G1,(∀ k o,G k=some o→G1 k=some o)→St N D w0 F G0 G1 (L3 b k) T a w→(∀ i d,B.contains i=false→fZ l i=some d→∃ v,a.tmps[d]?=some v∧pr b k i v G1)→WL r P l.toArray (fun e a w=>e=.normal∧Q .normal a w) (sM l B) a w)
  (Uf:Nat.blt m2 l.length=true) (Ug:Nat.blt m3 l.length=true):WP r P (.region id l.toArray true) Q a w:=by
 have aaZ:m1≠m2:=fun e=>by subst e;rw [Nat.beq_refl] at hne;cases hne
 have abd:m2≠m3:=fun e=>by subst e;rw [Nat.beq_refl] at ZX;cases ZX
 have abb:m1≠m3:=fun e=>by subst e;rw [Nat.beq_refl] at hne1;cases hne1
 refine XY hm cZ B hk hB (fun S a w=>(S m2=true→S m1=true)∧(S m3=true→S m2=true)∧∃ b k L',L'=(bif S m3 then L3 b k else bif S m2 then (b,ob) :: L2 else bif S m1 then L2 else L)∧DX N D w0 F G0 G L' T l (pr b k) S a w)
  ⟨fun h=>h,fun h=>h,0,k0,L,rfl,G,fun _ _ h=>h,H.move H.hp.drew,fun _ _ h=>absurd (show false=true from h) (by decide)⟩ ?_ ?_
 ·rintro i o S a w ho hb dP qo hdesc ⟨ajo,ajp,b,k,L',hL,G1,hG,HS,hv⟩
  have hsub:∀ x,x∈C→x∈L':=fun x hx=>by
   rw [hL]
   cases S m3 with
   | true=>exact hC3 b k x hx
   | false=>cases S m2 with
    | true=>exact vR _ (hC2 x hx)
    | false=>cases S m1 with
     | true=>exact hC2 x hx
     | false=>exact hC x hx
  have hno:∀ j,j < l.length→S j=true→(cZ.getD j []).contains i=false:=fun j hjl hj=>by
   cases hc:(cZ.getD j []).contains i with
   | false=>rfl
   | true =>
    have:=hdesc j hjl (by simpa using hc)
    rw [this] at hj;cases hj
  by_cases h1:i=m1
  ·subst h1
   have hS2:S m2=false:=hdesc m2 (Eq.mp Nat.blt_eq Uf) (by simpa using h12)
   have I8:S m3=false:=hdesc m3 (Eq.mp Nat.blt_eq Ug) (by simpa using gy)
   rw [I8,hS2,dP] at hL
   subst hL
   have h:=aji o b k S a w G1 ho dP qo hG HS fun j d hj hSj hd=>hv j d hSj hd
   have e2:fE S i m2=S m2:=ah (fun e=>aaZ e.symm)
   have e3:fE S i m3=S m3:=ah (fun e=>abb e.symm)
   refine wU (fun e a' w' ⟨he,hD⟩=>⟨he,fun _=>au rfl,fun h=>(by rw [e3,I8] at h;cases h),b,k,_,?_,hD⟩) h
   rw [show fE S i i=true from au rfl,e2,e3,hS2,I8]
   rfl
  ·by_cases h2:i=m2
   ·subst h2
    have hS1:S m1=true:=qo m1 (by simpa using h12)
    have I8:S m3=false:=hdesc m3 (Eq.mp Nat.blt_eq Ug) (by simpa using h23)
    rw [I8,dP,hS1] at hL
    subst hL
    have e1:fE S i m1=S m1:=ah aaZ
    have e3:fE S i m3=S m3:=ah (fun e=>abd e.symm)
    have h:=ajj o k S a w G1 ho dP qo hG HS fun b' j d hj hSj hd=>by
     obtain ⟨v,hv1,hv2⟩:=hv j d hSj hd
     exact ⟨v,hv1,ajt b b' k j v _ (BN hj) (hno j (BR hd) hSj) hv2⟩
    refine wU (fun e a' w' ⟨he,b',hD⟩=>⟨he,fun _=>by rw [e1];exact hS1,fun _=>au rfl,b',k,_,?_,hD⟩) h
    rw [show fE S i i=true from au rfl,e3,I8];rfl
   ·by_cases h3:i=m3
    ·subst h3
     have hS1:S m1=true:=qo m1 (by simpa using gy)
     have hS2:S m2=true:=qo m2 (by simpa using h23)
     rw [dP,hS2] at hL
     subst hL
     have e1:fE S i m1=S m1:=ah abb
     have e2:fE S i m2=S m2:=ah abd
     have h:=ajk o b S a w G1 ho dP qo hG HS fun k' j d hj hSj hd=>by
      obtain ⟨v,hv1,hv2⟩:=hv j d hSj hd
      exact ⟨v,hv1,aju b k k' j v _ (BN hj) (hno j (BR hd) hSj) hv2⟩
     refine wU (fun e a' w' ⟨he,k',hD⟩=>⟨he,fun _=>by rw [e1];exact hS1,fun _=>by rw [e2];exact hS2,b,k',_,?_,hD⟩) h
     rw [show fE S i i=true from au rfl];rfl
    ·have h:=Km hstep i o ho
     rw [nT] at h
     have e1:fE S i m1=S m1:=ah (fun e=>h1 e.symm)
     have e2:fE S i m2=S m2:=ah (fun e=>h2 e.symm)
     have e3:fE S i m3=S m3:=ah (fun e=>h3 e.symm)
     refine wU (fun e a' w' ⟨he,hD⟩=>⟨he,by rw [e1,e2];exact ajo,by rw [e2,e3];exact ajp,b,k,L',?_,hD⟩) (h b k L' S a w G1 hsub hb (BN h1) (BN h2) (BN h3) dP qo hG HS hv)
     rw [e1,e2,e3];exact hL
 ·rintro S a w hall hnB ⟨_,_,b,k,L',hL,G1,hG,HS,hv⟩
  have hs3:S m3=true:=hall m3 (Eq.mp Nat.blt_eq Ug) ajh
  rw [hs3] at hL
  subst hL
  exact hend b k a w G1 hG HS fun j d hb hd=>hv j d (hall j (BR hd) hb) hd
end
theorem aol {z:Int} (h1:0≤z) (h2:z < 256):IntKind.u8.wrap z=z:=by
 simp only [IntKind.wrap,IntKind.bits,IntKind.signed,sZ,Ir,if_false]
 omega
section
variable {N:Nat} {D:List Deferred} {w0:World} {F:Nat→Prop} {G0 G:GH} {L:OL} {T:List (Nat × aj)}
variable {r:Option Nat} {P:Program} {ops:Array Oper} {Q:Exit→Act→World→Prop} {rest:List Oper} {a:Act} {w:World}
variable {d:Nat} {ty:TypeId} {pos:String} {aR:Array Edge} {g:Option (Nat × Bool)}
theorem amY {x y:Operand} {t yt:TypeId} {p q:Int} (H:St N D w0 F G0 G L T a w) (hw:Region.wanted ⟨some d,.binOp .sub t x y yt,ty,pos,aR,g⟩ (yielded ops a.tmps)=true) (hx:ev T x=some (.int .u8 p)) (hy:ev T y=some (.int .u8 q)) (h1:0≤p - q) (h2:p - q < 256) (hd:Nat.blt d N=true)
  (k:∀ a',St N D w0 F G0 G L ((d,.int .u8 (p - q)) :: T) a' w→WL r P ops Q rest a' w):WL r P ops Q (⟨some d,.binOp .sub t x y yt,ty,pos,aR,g⟩ :: rest) a w :=
 iF (v:=.int .u8 (p - q)) (w':=w) hw rfl (by simp [execOp,eqGuard,binOp,Op.intArith,H.ev hx,H.ev hy,fD,aol h1 h2]) (k _ (H.put hd _ H.hp))
end
end
section
open Go.RowKit
theorem agw:∀ args w,(callFunc 242 args).run prog w=.ok (.enter 242 args) w:=enters func242 rfl (by kernel_rfl)
theorem Ms:Ty prog 253 1 24 [.slice none 0 0] false:=⟨by kernel_rfl,by kernel_rfl⟩
theorem agx:∀ args w,(callFunc 243 args).run prog w=.ok (.enter 243 args) w:=enters func243 rfl (by kernel_rfl)
theorem JU:prog.underlying 253=some (.slice 258):=by kernel_rfl
theorem JO:Ty prog 258 3 32 [.string ⟨#[]⟩,.int .i64 0,.bool false] true:=⟨by kernel_rfl,by kernel_rfl⟩
theorem agy:∀ args w,(callFunc 244 args).run prog w=.ok (.enter 244 args) w:=enters func244 rfl (by kernel_rfl)
theorem KJ:dJ prog 289 2 2:=⟨by kernel_rfl⟩
theorem KL:dJ prog 289 3 4:=⟨by kernel_rfl⟩
theorem abW:sU prog 258 [(0,1),(1,1),(2,1)] [.string ⟨#[]⟩,.int .i64 0,.bool false]:=⟨by kernel_rfl,by kernel_rfl⟩
theorem Q7:∀ args w,(callFunc 236 args).run prog w=.ok (.enter 236 args) w:=enters func236 rfl (by kernel_rfl)
theorem NK:dJ prog 289 4 5:=⟨by kernel_rfl⟩
structure jH where
 lit:ByteArray
 level:Int
 plain:Bool
def jH.dat (x:jH):List Dat:=[.lf (.string x.lit),li x.level,.lf (.bool x.plain)]
abbrev jH.cells (x:jH):List aj:=[.string x.lit,vi x.level,.bool x.plain]
theorem aaU (G:GH) (x:jH):bJ G x.dat x.cells:=by
 simp only [jH.dat,jH.cells,bJ]
 exact ⟨_,_,rfl,by simp [aC,Value.oneCell'],_,_,rfl,by simp [aC,Value.oneCell'],_,_,rfl,by simp [aC,Value.oneCell'],rfl⟩
theorem aaT {G:GH} {x:jH} {cs:List aj} (h:bJ G x.dat cs):cs=x.cells:=by
 simp only [jH.dat,bJ,aC] at h
 obtain ⟨_,_,rfl,⟨rfl,_⟩,_,_,rfl,⟨rfl,_⟩,_,_,rfl,⟨rfl,_⟩,rfl⟩:=h
 rfl
def ES (l:List jH):List aj:=(l.map jH.cells).flatten
theorem aaS (l:List jH) (x:jH):ES (l++[x])=ES l++x.cells:=by simp [ES]
structure BK (b:Nat) (lit:List UInt8) (parts:List jH) (p v q:aj) (Lp Lo:OL):Prop where
 ptr:p=.pointer none∨p=(aQ b 2)
 buf:gQ 5 1 v lit.length (Lib.byteCells lit) Lo
 prt:gQ 258 3 q parts.length (ES parts) Lp
def vY (lit:List UInt8) (parts:List jH):List jH:=if lit=[] then parts else parts++[⟨⟨lit.toArray⟩,0,false⟩]
set_option maxHeartbeats 1000000 in
theorem RZ (G:GH) (Lp Lo:OL) (w0:World) (b:Nat) (s:ByteArray) (i:Int) (p v q:aj) (pl e:Int) (lit:List UInt8) (parts:List jH) (hR:BK b lit parts p v q Lp Lo) (hO:ji G (iL b s i p v q pl e :: (Lp++Lo)) w0) (hl:lit.length≤4294967296) (hp:parts.length≤4294967296) :
  Calls prog 236 #[(aQ b 0)] w0 (iM w0 G (iL b s i p v q pl e :: (Lp++Lo)) fun u G' L'=>∃ p' v' q' qU jU,L'=iL b s i p' v' q' pl e :: (qU++jU)∧BK b [] (vY lit parts) p' v' q' qU jU):=by
 obtain ⟨aac,hbuf,Ox⟩:=hR;have hml:maxLen=9223372036854775807:=rfl;obtain ⟨A,c,rfl,aap,aaq⟩:=hbuf.shape;obtain ⟨B,d,rfl,aad,aae⟩:=Ox.shape;obtain ⟨Lt,qm⟩:∃ x,x=Lp++Lo:=⟨_,rfl⟩;rw [← qm] at hO ⊢;refine lq (N:=25) (T:=[(0,_)]) func236 rfl ntmps236 rfl rfl hO ?_;intro a H;refine kP H (SR fun _ K1=>Rm rfl (Rk rfl (Rf KJ rfl ?_)));clear H;intro a H;refine gP agw (Li:=[]) (L:=iL b s i p (.slice A lit.length c) (.slice B parts.length d) pl e :: Lt) H wn rfl (anx _ _ _ b s i p A lit.length c B parts.length d pl e (Hp.owns (Li:=[]) H.hp)) rfl ?_;clear H;rintro v5 _ L5 a w ⟨rfl,rfl,rfl⟩ ZR H;dsimp only [List.nil_append] at H;refine kH H (Rc rfl (Kz K1 (Cd rfl ?_ ?_))) <;> clear H K1
 ·intro h6 a H
  try have p6:=dT h6
  have hne:lit≠[]:=fun e=>by rw [e] at p6;simp at p6
  subst qm;refine aN (fun _ K2=>?_)
  have Cj:∀ (dz:Nat) (jg:(Option Addr × Nat) × OL) (iy:Nat) (v:aj) (G G':GH),(∀ k o,G k=some o→G' k=some o)→(fun (dz:Nat) (jg:(Option Addr × Nat) × OL) (iy:Nat) (v:aj) (G:GH)=>match iy with|0=>v=(aQ b 0)|1=>v=(aQ b 0)|2=>v=(aQ b 0)|3=>v=(aQ b 4)|4=>v=.slice B parts.length d|5=>v=(aQ b 0)|6=>v=(aQ b 0)|7=>v=(aQ b 2)|8=>v=.string ⟨lit.toArray⟩|9=>v=.agg (jH.cells ⟨⟨lit.toArray⟩,0,false⟩).toArray|10=>v=.slice (some ⟨dz,0,none⟩) 1 1|11=>v=.slice jg.1.1 (parts.length+1) jg.1.2∧gQ 258 3 v (parts.length+1) (ES (parts++[⟨⟨lit.toArray⟩,0,false⟩])) jg.2|_=>True) dz jg iy v G→(fun (dz:Nat) (jg:(Option Addr × Nat) × OL) (iy:Nat) (v:aj) (G:GH)=>match iy with|0=>v=(aQ b 0)|1=>v=(aQ b 0)|2=>v=(aQ b 0)|3=>v=(aQ b 4)|4=>v=.slice B parts.length d|5=>v=(aQ b 0)|6=>v=(aQ b 0)|7=>v=(aQ b 2)|8=>v=.string ⟨lit.toArray⟩|9=>v=.agg (jH.cells ⟨⟨lit.toArray⟩,0,false⟩).toArray|10=>v=.slice (some ⟨dz,0,none⟩) 1 1|11=>v=.slice jg.1.1 (parts.length+1) jg.1.2∧gQ 258 3 v (parts.length+1) (ES (parts++[⟨⟨lit.toArray⟩,0,false⟩])) jg.2|_=>True) dz jg iy v G':=by
   intro dz jg iy v G G' hm h
   match iy,h with
   | 0,h=>exact h
   | 1,h=>exact h
   | 2,h=>exact h
   | 3,h=>exact h
   | 4,h=>exact h
   | 5,h=>exact h
   | 6,h=>exact h
   | 7,h=>exact h
   | 8,h=>exact h
   | 9,h=>exact h
   | 10,h=>exact h
   | 11,h=>exact h
   | 12,h=>exact trivial
   | 13,h=>exact trivial
   | 14,h=>exact trivial
   | _+15,h=>exact trivial
  refine aeg (κ:=(Option Addr × Nat) × OL) (((none,0),[])) (hmx) [[],[],[1],[1,2],[1,2,3],[],[5],[5,6],[5,6,7],(ra 5 4),(ra 5 5),(ra 1 10),(ra 0 12),(ra 0 13),(ra 0 14)] [12,13,14] (by kernel_rfl) (by kernel_rfl) 8 10 11 (by decide) (by decide) (by decide) (by decide) (by decide) (by decide) (by decide) (by decide) (by decide) [iL b s i p (.slice A lit.length c) (.slice B parts.length d) pl e] (iL b s i p (.slice A lit.length c) (.slice B parts.length d) pl e :: Lp) (.cells (jH.cells ⟨⟨lit.toArray⟩,0,false⟩).toArray 258 (0,0)) (fun b_ k_=>(b_,.cells (jH.cells ⟨⟨lit.toArray⟩,0,false⟩).toArray 258 (0,0)) :: iL b s i p (.slice A lit.length c) (.slice B parts.length d) pl e :: k_.2) (fun x hx=>by rw [vQ.1 hx];exact jB) (fun x hx=>by rw [vQ.1 hx];exact jB) (fun _ _ x hx=>by rw [vQ.1 hx];exact vR _ jB) (fun (dz:Nat) (jg:(Option Addr × Nat) × OL) (iy:Nat) (v:aj) (G:GH)=>match iy with|0=>v=(aQ b 0)|1=>v=(aQ b 0)|2=>v=(aQ b 0)|3=>v=(aQ b 4)|4=>v=.slice B parts.length d|5=>v=(aQ b 0)|6=>v=(aQ b 0)|7=>v=(aQ b 2)|8=>v=.string ⟨lit.toArray⟩|9=>v=.agg (jH.cells ⟨⟨lit.toArray⟩,0,false⟩).toArray|10=>v=.slice (some ⟨dz,0,none⟩) 1 1|11=>v=.slice jg.1.1 (parts.length+1) jg.1.2∧gQ 258 3 v (parts.length+1) (ES (parts++[⟨⟨lit.toArray⟩,0,false⟩])) jg.2|_=>True) (fun b b' k i v G hi hc h=>by match i,hi,hc,h with|0,_,_,h=>exact h|1,_,_,h=>exact h|2,_,_,h=>exact h|3,_,_,h=>exact h|4,_,_,h=>exact h|5,_,_,h=>exact h|6,_,_,h=>exact h|7,_,_,h=>exact h|8,_,_,h=>exact h|9,_,_,h=>exact h|10,hi,_,_=>exact absurd hi (by decide)|11,_,hc,_=>exact absurd hc (by decide)|12,_,hc,_=>exact absurd hc (by decide)|13,_,hc,_=>exact absurd hc (by decide)|14,_,hc,_=>exact absurd hc (by decide)|_+15,_,_,_=>exact trivial) (fun b k k' i v G hi hc h=>by match i,hi,hc,h with|0,_,_,h=>exact h|1,_,_,h=>exact h|2,_,_,h=>exact h|3,_,_,h=>exact h|4,_,_,h=>exact h|5,_,_,h=>exact h|6,_,_,h=>exact h|7,_,_,h=>exact h|8,_,_,h=>exact h|9,_,_,h=>exact h|10,_,_,h=>exact h|11,hi,_,_=>exact absurd hi (by decide)|12,_,hc,_=>exact absurd hc (by decide)|13,_,hc,_=>exact absurd hc (by decide)|14,_,hc,_=>exact absurd hc (by decide)|_+15,_,_,_=>exact trivial) H ?_ ?_ ?_ ?_ ?_ (by kernel_rfl) (by kernel_rfl)
  ·clear H;refine aI ?_ ?_ ?_ ?_ (aI ?_ ?_ ?_ ?_ (aI ?_ ?_ ?_ ?_ (bC ?_ (bC ?_ (bC ?_ dN)))))
   ·intro dz jg lQ fV a w G1 oO _ _ _ _ dP hc hG HT hv;have H:=HT;clear dP;have Hb:=H.full;have H:=Hb;clear hc;refine kH H (Rm rfl ?_);clear H;intro a H;refine aJ ⟨rfl,?_⟩;exact nU (by kernel_rfl) (Cj dz jg) rfl rfl HT Hb hG hv (fun _ _ h=>h) (rfl) H
   ·intro dz jg lQ fV a w G1 oO _ _ _ _ dP hc hG HT hv;have H:=HT;clear dP;have Hb:=H.full;have H:=Hb;clear hc;refine kH H (Rm rfl ?_);clear H;intro a H;refine aJ ⟨rfl,?_⟩;exact nU (by kernel_rfl) (Cj dz jg) rfl rfl HT Hb hG hv (fun _ _ h=>h) (rfl) H
   ·intro dz jg lQ fV a w G1 oO _ _ _ _ dP hc hG HT hv;have H:=HT;clear dP;have H:=H.bg (hv 1 8 (hc 1 (by decide)) rfl) rfl;have Hb:=H.full;have H:=Hb;clear hc;refine kH H (Rk rfl ?_);clear H;intro a H;refine aJ ⟨rfl,?_⟩;exact nU (by kernel_rfl) (Cj dz jg) rfl rfl HT Hb hG hv (fun _ _ h=>h) (rfl) H
   ·intro dz jg lQ fV a w G1 oO _ _ _ _ dP hc hG HT hv;have H:=HT;clear dP;have H:=H.bg (hv 2 9 (hc 2 (by decide)) rfl) rfl;have Hb:=H.full;have H:=Hb;clear hc;refine kH H (Rf KL rfl ?_);clear H;intro a H;refine aJ ⟨rfl,?_⟩;exact nU (by kernel_rfl) (Cj dz jg) rfl rfl HT Hb hG hv (fun _ _ h=>h) (rfl) H
   ·intro dz jg lQ fV a w G1 oO _ _ _ _ dP hc hG HT hv;have H:=HT;clear dP;have H:=H.bg (hv 3 10 (hc 3 (by decide)) rfl) rfl;have Hb:=H.full;have H:=Hb;clear hc;refine zu Ms H wn rfl (H.hp.OZ (oO _ jB) rfl) rfl ?_;clear H;intro a H;refine aJ ⟨rfl,?_⟩;exact nU (by kernel_rfl) (Cj dz jg) rfl rfl HT Hb hG hv (fun _ _ h=>h) (rfl) H
   ·intro dz jg lQ fV a w G1 oO _ _ _ _ dP hc hG HT hv;have H:=HT;clear dP;have Hb:=H.full;have H:=Hb;clear hc;refine kH H (Rm rfl ?_);clear H;intro a H;refine aJ ⟨rfl,?_⟩;exact nU (by kernel_rfl) (Cj dz jg) rfl rfl HT Hb hG hv (fun _ _ h=>h) (rfl) H
   ·intro dz jg lQ fV a w G1 oO _ _ _ _ dP hc hG HT hv;have H:=HT;clear dP;have H:=H.bg (hv 5 12 (hc 5 (by decide)) rfl) rfl;have Hb:=H.full;have H:=Hb;clear hc;refine kH H (Rk rfl ?_);clear H;intro a H;refine aJ ⟨rfl,?_⟩;exact nU (by kernel_rfl) (Cj dz jg) rfl rfl HT Hb hG hv (fun _ _ h=>h) (rfl) H
   ·intro dz jg lQ fV a w G1 oO _ _ _ _ dP hc hG HT hv;have H:=HT;clear dP;have H:=H.bg (hv 6 13 (hc 6 (by decide)) rfl) rfl;have Hb:=H.full;have H:=Hb;clear hc;refine kH H (Rf KJ rfl ?_);clear H;intro a H;refine aJ ⟨rfl,?_⟩;exact nU (by kernel_rfl) (Cj dz jg) rfl rfl HT Hb hG hv (fun _ _ h=>h) (rfl) H
   ·intro _ _ _ _ _ _ _ _ _ hB;exact absurd hB (by decide)
   ·intro dz jg lQ fV a w G1 oO _ _ _ _ dP hc hG HT hv;have H:=HT;clear dP;have H:=H.bg (hv 8 15 (hc 8 (by decide)) rfl) rfl;have Hb:=H.full;have H:=Hb;clear hc;refine lJ abW [_,_,_] H wn rfl rfl rfl rfl ?_;clear H;intro a H;refine aJ ⟨rfl,?_⟩;exact nU (by kernel_rfl) (Cj dz jg) rfl rfl HT Hb hG hv (fun _ _ h=>h) (rfl) H
   ·intro _ _ _ _ _ _ _ _ _ _ hB;exact absurd hB (by decide)
   ·intro _ _ _ _ _ _ _ _ _ _ _ hB;exact absurd hB (by decide)
   ·intro _ _ _ _ _ _ _ _ hB;exact absurd hB (by decide)
   ·intro _ _ _ _ _ _ _ _ hB;exact absurd hB (by decide)
   intro _ _ _ _ _ _ _ _ hB;exact absurd hB (by decide)
  ·clear H;intro o_ dz jg fV a w G1 EN _ hc hG HT hv;obtain rfl:_=o_:=Option.some.inj EN;clear EN;have H:=HT;have H:=H.bg (hv 7 14 (by decide) (hc 7 (by decide)) rfl) rfl;have Hb:=H.full;have H:=Hb;clear hc;refine gP agx (Li:=[]) (L:=iL b s i p (.slice A lit.length c) (.slice B parts.length d) pl e :: (Lp++Lo)) H wn rfl (anR _ _ _ _ b s i p _ B parts.length d pl e lit (Hp.owns (Li:=[]) H.hp) hbuf hne) rfl ?_;clear H;rintro v15 Fx L15 a w ⟨rfl,rfl⟩ Gn H;dsimp only [List.nil_append] at H;refine aJ ⟨rfl,?_⟩;exact KA (by kernel_rfl) (Cj dz jg) rfl HT Hb hG (fun j e h1 h2 h3=>hv j e h1 h2 h3) Gn (rfl) H
  ·clear H;intro o_ jg fV a w G1 EN _ hc hG HT hv;obtain rfl:_=o_:=Option.some.inj EN;clear EN;have H:=HT;have H:=H.bg (hv 0 9 16 (by decide) (hc 9 (by decide)) rfl) rfl;have Hb:=H.full;have H:=Hb;clear hc;refine jy JU JO [_,_,_] [_,_,_] H wn rfl rfl rfl rfl rfl (by intro i q h;match i,h with|0,h=>exact h|n+1,h=>simp at h) rfl rfl ?_;clear H;intro b17 a w apy H;refine aJ ⟨rfl,b17,?_⟩;exact Yq (by kernel_rfl) rfl HT Hb hG (fun j e h1 h2 h3=>hv _ j e h1 h2 h3) (rfl) H
  ·clear H;intro o_ dz fV a w G1 EN _ hc hG HT hv;obtain rfl:_=o_:=Option.some.inj EN;clear EN;have H:=HT;have H:=H.bg (hv (((none,0),[])) 4 11 (by decide) (hc 4 (by decide)) rfl) rfl;have H:=H.bg (hv (((none,0),[])) 10 17 (by decide) (hc 10 (by decide)) rfl) rfl;have Hb:=H.full;have H:=Hb;clear hc;refine E8 (Li:=[_,_]) (Lo:=Lp) (news:=jH.cells ⟨⟨lit.toArray⟩,0,false⟩) JU JO rfl rfl H wn rfl rfl Ox rfl (H.hp.gB 0 rfl rfl) rfl (by omega) (by omega) rfl ?_;clear H;intro v18 adG a w Jm H;obtain ⟨A18,c18,rfl,-,-⟩:=Jm.shape;rw [← aaS] at Jm;refine aJ ⟨rfl,((A18,c18),adG),?_⟩;exact Yq (by kernel_rfl) rfl HT Hb hG (fun j e h1 h2 h3=>hv _ j e h1 h2 h3) (⟨rfl,Jm⟩) H
  clear H;intro b17 jg a w G rJ H hv;have H:=H.bg (hv 0 7 rfl rfl) rfl;obtain ⟨u18,ajR,Z5⟩:=hv 11 18 (by decide) rfl;(try dsimp only at Z5);obtain ⟨rfl,Jm⟩:=Z5;have H:=H.qV ajR;clear hv;refine kH H (Rk rfl (Rf KL rfl ?_));clear H;intro a H;refine bT Ms 1 (vs:=[_]) _ H wn rfl rfl rfl rfl rfl rfl rfl rfl ?_;clear H;intro w H;dsimp only [List.set,setRow] at H;refine aJ ⟨rfl,?_⟩;refine K2 _ _ ?_;clear K2;refine kP H (SC (Rm rfl (Rk rfl (Rf KJ rfl ?_))));clear H;intro a H;refine gP agy (Li:=[_]) (L:=iL b s i p (.slice A lit.length c) (.slice jg.1.1 (parts.length+1) jg.1.2) pl e :: jg.2) H wn rfl (anO _ _ _ b s i p A lit.length c jg.1.1 (parts.length+1) jg.1.2 pl e (Hp.owns (Li:=[_]) H.hp)) rfl ?_;clear H;rintro v24 _ L24 a w ⟨rfl,rfl⟩ apU H;dsimp only [lca,aO] at H;refine aJ ?_;refine (leave0 H results236 ?_).2
  first
   | exact H.hp.bR (L':=iL b s i _ _ _ pl e :: jg.2) (CX _ _) ⟨_,_,_,jg.2,[],by rw [nH],⟨.inl rfl,gQ.nil,by rw [vY,ah hne];simpa using Jm⟩⟩
   | exact H.hp.fO ⟨_,_,_,Lp,Lo,by rw [qm],by
     have h0:lit=[]:=by
      cases lit with
      | nil=>rfl
      | cons x r=>simp at p6
     subst h0;exact ⟨aac,hbuf,by rw [vY,au rfl];exact Ox⟩⟩
 intro h6 a H
 try have p6:=dF h6
 refine fF ?_;refine (leave0 H results236 ?_).2
 first
  | exact H.hp.bR (L':=iL b s i _ _ _ pl e :: jg.2) (CX _ _) ⟨_,_,_,jg.2,[],by rw [nH],⟨.inl rfl,gQ.nil,by rw [vY,ah hne];simpa using Jm⟩⟩
  | exact H.hp.fO ⟨_,_,_,Lp,Lo,by rw [qm],by
    have h0:lit=[]:=by
     cases lit with
     | nil=>rfl
     | cons x r=>simp at p6
    subst h0;exact ⟨aac,hbuf,by rw [vY,au rfl];exact Ox⟩⟩
theorem abt (G:GH) (Lp Lo:OL) (w0:World) (b:Nat) (s:ByteArray) (i:Int) (p v q:aj) (pl e:Int) (lit:List UInt8) (parts:List jH) (ch:Int) (plain:Bool) (hR:BK b lit parts p v q Lp Lo) (hO:ji G (iL b s i p v q pl e :: (Lp++Lo)) w0) (hl:lit.length≤4294967296) (hp:parts.length≤4294967290) (hc:49≤ch∧ch≤57) (hpl:0≤pl∧pl≤4294967296) :
  Calls prog 240 #[(aQ b 0),.int .u8 ch,.bool plain] w0 (iM w0 G (iL b s i p v q pl e :: (Lp++Lo)) fun u G' L'=>∃ p' v' q' qU jU,L'=iL b s i p' v' q' (pl+1) e :: (qU++jU)∧BK b [] (vY lit parts++[⟨⟨#[]⟩,ch - 48,plain⟩]) p' v' q' qU jU):=by
 have hml:maxLen=9223372036854775807:=rfl
 have hfl:(vY lit parts).length≤parts.length+1:=by unfold vY;split <;> simp
 obtain ⟨A,c,rfl,aap,aaq⟩:=hR.buf.shape;obtain ⟨B,d,rfl,aad,aae⟩:=hR.prt.shape;obtain ⟨Lt,qm⟩:∃ x,x=Lp++Lo:=⟨_,rfl⟩;rw [← qm] at hO ⊢;refine lq (N:=29) (T:=[(0,_),(1,_),(2,_)]) func240 rfl ntmps240 rfl rfl hO ?_;intro a H;refine kP H (SR fun _ K1=>Rm rfl ?_);clear H;intro a H;refine gP Q7 (Li:=[]) (L:=iL b s i p (.slice A lit.length c) (.slice B parts.length d) pl e :: Lt) H wn rfl (by subst qm;exact RZ _ Lp Lo _ b s i p _ _ pl e lit parts hR (Hp.owns (Li:=[]) H.hp) hl (by omega)) rfl ?_;clear H;rintro v7 G7 L7 a w ⟨p',v',q',qU,jU,rfl,Lf⟩ xI H;dsimp only [List.nil_append] at H;obtain ⟨A7,c7,rfl,-,-⟩:=Lf.buf.shape;obtain ⟨B7,d7,rfl,-,-⟩:=Lf.prt.shape;refine K1 _ _ ?_;clear K1;refine kP H (SR fun _ K2=>Rm rfl (Rm rfl (Rk rfl (aT KL Ms 0 rfl rfl (Rm rfl ?_)))));clear H;intro a H;refine amY H wn rfl rfl (by omega) (by omega) rfl ?_;clear H;intro a H;refine JF _ nZ ME H wn rfl rfl rfl ?_;clear H;intro a H;rw [Jq (by omega) (by omega)] at H;refine kH H (Rm rfl ?_);clear H;intro a H;refine lJ abW [_,_,_] H wn rfl rfl rfl rfl ?_;clear H;intro a H;refine jy JU JO [_,_,_] [_,_,_] H wn rfl rfl rfl rfl rfl (by intro i q h;match i,h with|0,h=>exact h|n+1,h=>simp at h) rfl rfl ?_;clear H;intro b18 a w aij H;have H:=(St.cast H (show _=[_,_]++(qU++jU) from rfl)).perm (List.Perm.append_left _ og);have H:=St.un H;refine E8 (Li:=[_,_]++jU) (Lo:=qU) (news:=jH.cells ⟨⟨#[]⟩,ch - 48,plain⟩) JU JO rfl rfl H wn rfl rfl Lf.prt rfl (H.hp.gB 0 rfl rfl) rfl (by omega) (by omega) rfl ?_;clear H;intro v19 Xx a w EP H;obtain ⟨A19,c19,rfl,-,-⟩:=EP.shape;rw [← aaS] at EP;have H:=H.assoc.perm (List.Perm.append_left _ og);dsimp only [lca,aO] at H;refine kH H (Rk rfl (Rf KL rfl ?_));clear H;intro a H;refine bT Ms 1 (vs:=[_]) _ H wn rfl rfl rfl rfl rfl rfl rfl rfl ?_;clear H;intro w H;dsimp only [List.set,setRow] at H;refine K2 _ _ ?_;clear K2;refine kP H (SC (Rm rfl (Rk rfl (aT NK aD 1 rfl rfl (Rd rfl (Rk rfl (Rf NK rfl ?_)))))));clear H;intro a H;refine bT aD 1 (vs:=[_]) _ H wn rfl rfl rfl rfl rfl rfl rfl rfl ?_;clear H;intro w H;dsimp only [List.set,setRow] at H;refine aJ ?_;refine (leave0 H results240 ?_).2;exact H.hp.bR (L':=iL b s i _ _ _ (pl+1) e :: (Xx++jU)) (CX _ _) ⟨_,_,_,Xx,jU,rfl,Lf.ptr,Lf.buf,by simpa using EP⟩
end
section
open Go.RowKit
section
variable {N:Nat} {D:List Deferred} {w0:World} {F:Nat→Prop} {G0 G:GH} {L:OL} {T Xs:List (Nat × aj)}
variable {r:Option Nat} {P:Program} {Q:Exit→Act→World→Prop} {l:List Oper} {a a':Act} {w w':World}
abbrev WC:Type:=Nat × aj × Nat × Bool
def WE (ent:List WC) (S:Nat→Bool) (a:Act):Prop:=∀ e∈ent,S e.2.2.1=e.2.2.2→a.tmps[e.1]?=some e.2.1
theorem WE.at {ent:List WC} {S:Nat→Bool} {a:Act} (h:WE ent S a) (k:Nat) {t:Nat} {v:aj} {j:Nat} {b:Bool} (hk:ent[k]?=some (t,v,j,b)) (hS:S j=b):a.tmps[t]?=some v:=h _ (nQ hk) hS
theorem amX {ops:Array Oper} {rest:List Oper} {d:Nat} {ty:TypeId} {pos:String} {aR:Array Edge} {g:Option (Nat × Bool)} {t:TypeId} {x y:Operand} {s:ByteArray} {ky:IntKind} {p:Int} (hi:Nat) (ht:P.underlying t=some .string) (H:St N D w0 F G0 G L T a w) (hw:Region.wanted ⟨some d,.slice t x none (some y) none,ty,pos,aR,g⟩ (yielded ops a.tmps)=true) (hx:ev T x=some (.string s)) (hy:ev T y=some (.int ky p)) (hp:p=(hi:Int)) (h1:hi≤s.size) (hd:Nat.blt d N=true)
  (k:∀ a',St N D w0 F G0 G L ((d,.string (s.extract 0 hi)) :: T) a' w→WL r P ops Q rest a' w):WL r P ops Q (⟨some d,.slice t x none (some y) none,ty,pos,aR,g⟩ :: rest) a w:=by
 subst hp
 have hr:=run_slice_string_h (P:=P) w t s ht ky (hi:Int) (by omega) (by omega)
 rw [Int.toNat_natCast] at hr
 refine iF (v:=.string (s.extract 0 hi)) (w':=w) hw rfl ?_ (k _ (H.put hd _ H.hp))
 simp only [execOp,H.ev hx,yE,Option.map_none,H.ev hy,fD,run_sliceAt_string w t _ _ _ _ ht,hr,pq,sW]
end
end
end Go.Proofs.YthmanofbmnfemaaGreat
