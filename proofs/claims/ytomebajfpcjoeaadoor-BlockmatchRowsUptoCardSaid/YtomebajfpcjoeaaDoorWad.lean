/-
  What the claim stands on, part 4: Mtk Vc Run Cht Bld Cu Bln Rtx Dvs Cl Rc Ct Rst Bst2 Kb Kw Sms Tot Gr Tts Dk Dw.
-/
import Derived.Test.YtomebajfpcjoeaaDoorWac
namespace Go.Proofs.YtomebajfpcjoeaaDoor
set_option linter.all false
open Go.Proofs.Tryd
open Go.RowKit
theorem Vy:bX 47:=cu func47 O
theorem Ko (p q:ByteArray):(p.toList == q.toList)=decide (p=q):=by
 rw [ByteArray.toList_eq,ByteArray.toList_eq]
 by_cases h:p=q
 ·subst h;simp
 simp only [h,decide_false,beq_eq_false_iff_ne,ne_eq]
 exact fun e=>h (Go.WideShapes.bytes_inj e)
theorem Ph (x:ByteArray):∀ (l:List ByteArray) (i k:Nat),k<=l.length->(∀ q (h:q < l.length),q < k->¬ l[q]=x)->(∀ h:k < l.length,l[k]=x)->ny x i l=if k < l.length then some (i+k+1) else none
 | [],i,k,hk,_,_=>by rw [ny,aJ (by simp)]
 | y :: l,i,0,_,_,h1=>by rw [ny,aM (show y=x from h1 (by simp)),aM (by simp)]
 | y :: l,i,k+1,hk,h0,h1=>by
  have hy:¬ y=x:=h0 0 (by simp) V;rw [ny,aJ hy,Ph x l (i+1) k (by simpa using hk) (fun q h hq=>h0 (q+1) (by simpa using h) V) (fun h=>h1 (by simpa using h))]
  simp only [kI,Nat.add_lt_add_iff_right]
  split
  ·congr 1;omega
  rfl
theorem Pn {x:ByteArray} {l:List ByteArray} {k:Nat} (hk:k<=l.length) (h0:∀ q (h:q < l.length),q < k->¬ l[q]=x) (h1:∀ h:k < l.length,l[k]=x):zF l x=k+1∧uG l x=if k=l.length then l++[x] else l:=by
 have h:=Ph x l 0 k hk h0 h1;rw [zF,uG,h]
 by_cases e:k < l.length
 ·rw [aM e,aJ (show ¬ k=l.length by omega)];exact ⟨by simp,O⟩
 rw [aJ e,aM (show k=l.length by omega)];exact ⟨by first|(simp;done)|(simp;omega),rfl⟩
theorem aak {e:Nat} {v:av} {K K':List ByteArray} {Lo:OL} (h:bP e 1 v K.length (K.map Value.string) Lo) (hK:K=K'):bP e 1 v K'.length (K'.map Value.string) Lo:=by subst hK;exact h
theorem Qb (B L4 L5 L6:OL):(B++(L4++(L5++L6))).Perm ((B++(L4++L5))++L6):=by
 rw [nR B,nR L4]
theorem iB (B L4 L5 L6:OL):(B++(L4++(L5++L6))).Perm ((B++(L5++L6))++L4):=by
 rw [nR B];exact List.perm_append_comm.append_left B
theorem iG (B L4 L5 L6:OL):(B++(L4++(L5++L6))).Perm ((B++(L4++L6))++L5):=by
 rw [nR B,nR L4];exact (List.perm_append_comm.append_left L4).append_left B
def gL (a b:ByteArray) (d:Nat):ByteArray:=if d=0 then a else b
def Bp (a:ByteArray) (d:Nat):List ByteArray:=if d=0 then [] else (dM ((bR a).take 2048) []).2
def yw (a:ByteArray):List cK:=(dM ((bR a).take 2048) []).1
def qQ (a b:ByteArray):List cK:=(dM ((bR b).take 2048) (dM ((bR a).take 2048) []).2).1
theorem Ru {α:Type} (l:List α) (n:Nat):l.take (min l.length n)=l.take n:=by
 by_cases h:l.length<=n
 ·rw [iU V,iU h]
 rw [Nat.min_eq_right V]
def cur (a b:ByteArray) (d i:Nat):List cK × List ByteArray:=dM ((bR (gL a b d)).take i) (Bp a d)
def gW (a b:ByteArray) (d i:Nat):List cK:=if d=0 then (cur a b 0 i).1 else yw a
def gX (a b:ByteArray) (d i:Nat):List cK:=if d=0 then [] else if d=1 then (cur a b 1 i).1 else qQ a b
def mq (a b:ByteArray) (d i:Nat):List ByteArray:=if d < 2 then (cur a b d i).2 else (cur a b 1 (min (bR b).length 2048)).2
theorem P8 {a b:ByteArray} {d:Nat} (hd:d < 2):gW a b d (min (bR (gL a b d)).length 2048)=gW a b (d+1) 0∧gX a b d (min (bR (gL a b d)).length 2048)=gX a b (d+1) 0∧mq a b d (min (bR (gL a b d)).length 2048)=mq a b (d+1) 0:=by
 rcases (show d=0∨d=1 by omega) with rfl|rfl
 ·simp [gW,gX,mq,cur,gL,Bp,yw,dM,Ru]
 simp [gW,gX,mq,cur,gL,Bp,qQ,Ru]
theorem ZU {a b:ByteArray} {d i:Nat} (hd:d<=2) (hi:d < 2->i<=(bR (gL a b d)).length):(gW a b d i).length<=a.size+1∧(gX a b d i).length<=b.size+1∧(mq a b d i).length<=a.size+b.size+2:=by
 have ha:=FZ a;have hb:=FZ b;have h1:=DK ((bR a).take 2048) [];have h2:=DK ((bR b).take 2048) (dM ((bR a).take 2048) []).2;rw [List.length_nil,List.length_take] at h1;rw [List.length_take] at h2
 have hX:(yw a).length<=a.size+1:=by rw [yw];omega
 have hY:(qQ a b).length<=b.size+1:=by rw [qQ];omega
 rcases (show d=0∨d=1∨d=2 by omega) with rfl|rfl|rfl
 ·have hi0:i<=(bR a).length:=by simpa [gL] using hi Y
  have h3:=vO (bR a) [] i hi0;rw [List.length_nil] at h3
  simp only [gW,gX,mq,cur,gL,Bp,if_true,aM (show (0:Nat) < 2 by decide),List.length_nil]
  omega
 ·have hi0:i<=(bR b).length:=by simpa [gL] using hi Y
  have h3:=vO (bR b) (dM ((bR a).take 2048) []).2 i hi0
  simp only [gW,gX,mq,cur,gL,Bp,aJ (show ¬ (1:Nat)=0 by decide),if_true,aM (show (1:Nat) < 2 by decide)]
  omega
 have h3:=vO (bR b) (dM ((bR a).take 2048) []).2 (min (bR b).length 2048) V
 simp only [gW,gX,mq,cur,gL,Bp,aJ (show ¬ (2:Nat)=0 by decide),aJ (show ¬ (2:Nat)=1 by decide),aJ (show ¬ (1:Nat)=0 by decide),aJ (show ¬ (2:Nat) < 2 by decide)]
 omega
theorem UZ {a b:ByteArray} {d i:Nat} (h:i < (bR (gL a b d)).length):cur a b d (i+1)=oC (cur a b d i) (bR (gL a b d))[i]:=DN h _
set_option maxHeartbeats 2000000 in
theorem ZH {G0:GH} (G:GH) (w0:World) (hG:Hold G w0) (h0:∀ b o,G0 b=some o->G b=some o) (s t:ByteArray) (hs:jr G0 s) (ht:jr G0 t) :
    Calls prog 37 #[.string s,.string t] w0 (cO w0 G fun u G'=>∃ x y,u=.tuple #[x,y]∧aC G' (.sl 2 ((yw s).map cK.dat)) x∧aC G' (.sl 2 ((qQ s t).map cK.dat)) y):=by
  have hml:maxLen=9223372036854775807:=rfl;have hz1:=hs.size;have hz2:=ht.size;refine eN [(0,_),(1,_)] func37 O ntmps37 O O hG ?_;intro a H;refine kP H (SR fun _ K1=>Ra O (aB K1 O (SR fun _ K2=>aB K2 O (SQ fun _ K3=>SR fun _ K4=>aB K4 O (SB ?_)))));clear H K1 K2 K4;intro a H;skip;refine eG (ι:=Nat × av × av × av × OL × OL × OL × GH) (Tc:=[(0,_),(1,_)]) (Lc:=[]) (fun gh=>[(4,gh.2.1),(5,gh.2.2.1),(6,gh.2.2.2.1),(7,vi gh.1)]) (fun gh=>[]++(gh.2.2.2.2.1++(gh.2.2.2.2.2.1++gh.2.2.2.2.2.2.1))) (fun gh=>gh.2.2.2.2.2.2.2) (fun gh=>gh.1<=2∧bP 60 2 gh.2.1 (gW s t gh.1 0).length (iD (gW s t gh.1 0)) gh.2.2.2.2.1∧bP 60 2 gh.2.2.1 (gX s t gh.1 0).length (iD (gX s t gh.1 0)) gh.2.2.2.2.2.1∧bP 9 1 gh.2.2.2.1 (mq s t gh.1 0).length ((mq s t gh.1 0).map Value.string) gh.2.2.2.2.2.2.1∧(∀ b o,G b=some o->gh.2.2.2.2.2.2.2 b=some o)) (fun gh=>2 - gh.1) ((0,.slice none 0 0,.slice none 0 0,.slice none 0 0,[],[],[],G)) (by exact H.sub ⟨O,O,O,O,O,O,aL⟩) ?_ ?_
  · exact ⟨dU _,bP.nil,bP.nil,bP.nil,fun _ _ h=>h⟩
  clear H;rintro ⟨d,v4,v5,v6,L4,L5,L6,g⟩ a w hI H;dsimp only at hI H;obtain ⟨hd,hr4,OM,YA,hgm⟩:=hI;dsimp only [lca,dB] at H;refine kP H (SQ fun _ K5=>SR fun _ K6=>Rm O (Rc O (Kz K6 (Cd O ?_ ?_)))) <;> clear H K6
  · intro dZ a H
    try have lg:=dT dZ
    have hd1:d < 2:=by omega
    have hsd:jr G0 (gL s t d):=by unfold gL;split <;> assumption
    have hsz:(gL s t d).size<=1073741824:=by unfold gL;split <;> assumption
    refine kP H (Kc K5 (SQ fun _ K7=>SB (SR fun _ K8=>Rm O (Rm O ?_))));clear H K5;intro a H;refine eU kW jQ [_,_] [_,_] H wn O O O O O (by intro i q h;match i,h with|0,h=>exact h|1,h=>exact h|n+2,h=>simp at h) O O ?_;clear H;intro oN a w IQ H;refine kH H (Rm O ?_);clear H;intro a H;refine aT kW jQ d H wn O O O V O ?_;clear H;intro a H
    refine iM jQ H wn O (H.hp.jc 0 O (show _=some (Value.string (gL s t d)) by rcases (show d=0∨d=1 by omega) with rfl|rfl <;> rfl)) rfl ?_;clear H;intro a H
    refine kH H (aB K8 O (SR fun _ K9=>Rm O ?_));clear H K8;intro a H;refine s_call HY H wn O (Kl _ _ H.ro (fun b o h=>hgm b o (h0 b o h)) _ hsd) O ?_;clear H;rintro v28 LJ a w ⟨x28,rfl,htk⟩ Yh H;obtain ⟨tA,tc,rfl,-,-,-⟩:=htk.slice;rw [bN] at *
    have hll:(bR (gL s t d)).length=(jm (dW (gL s t d))).length:=by simp [bR]
    have htl:=FZ (gL s t d);refine kH H (Rm O ?_);clear H;intro a H;(iterate 2 refine fZ H wn O O O ?_;clear H;intro a H);refine kH H (Ra O (aB K9 O (SR fun _ aP=>aB aP O (SB ?_))));clear H K9 aP;intro a H;skip;refine eG (ι:=Nat × av × av × av × OL × OL × OL × GH) (Tc:=[(0,_),(1,_),(7,_),(8,_),(9,_)]) (Lc:=[(_,_)]) (fun gh=>[(4,gh.2.1),(5,gh.2.2.1),(6,gh.2.2.2.1),(11,vi gh.1)]) (fun gh=>[]++(gh.2.2.2.2.1++(gh.2.2.2.2.2.1++gh.2.2.2.2.2.2.1))) (fun gh=>gh.2.2.2.2.2.2.2) (fun gh=>gh.1<=min (bR (gL s t d)).length 2048∧bP 60 2 gh.2.1 (gW s t d gh.1).length (iD (gW s t d gh.1)) gh.2.2.2.2.1∧bP 60 2 gh.2.2.1 (gX s t d gh.1).length (iD (gX s t d gh.1)) gh.2.2.2.2.2.1∧bP 9 1 gh.2.2.2.1 (mq s t d gh.1).length ((mq s t d gh.1).map Value.string) gh.2.2.2.2.2.2.1∧(∀ b o,G b=some o->gh.2.2.2.2.2.2.2 b=some o)∧(∀ b o,LJ b=some o->gh.2.2.2.2.2.2.2 b=some o)) (fun gh=>(bR (gL s t d)).length - gh.1) ((0,v4,v5,v6,L4,L5,L6,LJ)) (by exact H.sub ⟨O,O,O,O,O,O,O,O,O,aL⟩) ?_ ?_
    · exact ⟨dU _,hr4,OM,YA,fun b o h=>Yh b o (hgm b o h),fun _ _ h=>h⟩
    clear H;rintro ⟨i,w4,w5,w6,M4,M5,M6,g2⟩ a w hI H;dsimp only at hI H;obtain ⟨hi,hq4,kZ,wJ,eH,hgt⟩:=hI;have hol:=ZU (a:=s) (b:=t) (d:=d) (i:=i) V (fun _=>by omega);dsimp only [lca,dB] at H;refine kP H (SQ fun _ bH=>SR fun _ bL=>Rm O (Rm O (Rl qy O (Rc O (Rm O (Sp 35 O ?_ ?_)))))) <;> clear H
    · intro nW a H
      try have p35:=dT nW
      refine kH H (YM nW O (YC nW O (Pt nW O (Kz bL (Cd O ?_ ?_))))) <;> clear H bL
      · intro Iq a H
        try have p38:=dT Iq
        have hi1:i < (bR (gL s t d)).length:=by omega
        obtain ⟨tb,nC,rfl,hrow⟩:=KD (htk.mono hgt) (show i < (jm (dW (gL s t d))).length by omega);obtain ⟨tok,Jw⟩:∃ x,x=(jm (dW (gL s t d)))[i]'V:=⟨_,O⟩;have hrl:(gD (gL s t d)).length<=(gL s t d).size:=Bh _ _ 0;have htb:=F3 (gL s t d) tok (by rw [Jw];exact dV _);rw [<- Jw] at hrow
        have hlk:(bR (gL s t d))[i]=(tok,sZ (gL s t d) tok):=by simp [bR,Jw]
        obtain ⟨x,hx⟩:∃ x,x=sZ (gL s t d) tok:=⟨_,O⟩
        have hf0:tok.from_=(tok.from_.toNat:Int):=by omega
        have ht0:tok.dP=(tok.dP.toNat:Int):=by omega
        have hxe:(gL s t d).extract (gI (gL s t d) 0 tok.from_.toNat) (gI (gL s t d) 0 tok.dP.toNat)=x:=by rw [hx,sZ,acE hsd.ok V]
        have hst:=UZ (a:=s) (b:=t) (d:=d) hi1;rw [hlk,<- hx] at hst;refine kP H (Kc bH (SQ fun _ bI=>SB (SQ fun _ cB=>?_)));clear H bH;intro a H;refine dI gG [[],[],[],[1,2],[1,2,3],ra 1 4,[],[],[6,7],[6,7,8],ra 6 4,ra 0 11,ra 0 12,ra 0 13,ra 0 13,ra 0 14,ra 0 16] [] Z [.string (gL s t d),.slice (some ⟨tb,nC,none⟩) (jm (dW (gL s t d))).length tc,vi i,(aH tb (nC+i*3)),(aH tb (nC+i*3+1)),vi tok.from_,.slice (some ⟨tb,nC,none⟩) (jm (dW (gL s t d))).length tc,vi i,(aH tb (nC+i*3)),(aH tb (nC+i*3+2)),vi tok.dP,.tuple #[.string x,vi 0],.tuple #[.string x,vi 0],.string x,vi 0,.string x,vi 0] H (aI ?_ ?_ ?_ ?_ (aI ?_ ?_ ?_ ?_ (aI ?_ ?_ ?_ ?_ (aI ?_ ?_ ?_ ?_ (iO ?_ fQ))))) ?_
        · intro au a w G1 _ ah hc hG HT hv;have H:=HT;clear ah;have Hb:=H.full;have H:=Hb;clear hc;refine kH H (Rm O ?_);clear H;intro a H;refine aj ⟨O,?_⟩;exact ay HT Hb hG hv (fun _ _ _ _ _ h=>h) H O
        · intro au a w G1 _ ah hc hG HT hv;have H:=HT;clear ah;have Hb:=H.full;have H:=Hb;clear hc;refine kH H (Rm O ?_);clear H;intro a H;refine aj ⟨O,?_⟩;exact ay HT Hb hG hv (fun _ _ _ _ _ h=>h) H O
        · intro au a w G1 _ ah hc hG HT hv;have H:=HT;clear ah;have Hb:=H.full;have H:=Hb;clear hc;refine kH H (Rm O ?_);clear H;intro a H;refine aj ⟨O,?_⟩;exact ay HT Hb hG hv (fun _ _ _ _ _ h=>h) H O
        · intro au a w G1 _ ah hc hG HT hv;have H:=HT;clear ah;have H:=H.ak (hv 1 43 (hc 1 Y) O) O;have H:=H.ak (hv 2 44 (hc 2 Y) O) O;have Hb:=H.full;have H:=Hb;clear hc;refine aT qy lV i H wn O O O V O ?_;clear H;intro a H;refine aj ⟨O,?_⟩;exact ay HT Hb hG hv (fun _ _ _ _ _ h=>h) H O
        · intro au a w G1 _ ah hc hG HT hv;have H:=HT;clear ah;have H:=H.ak (hv 3 45 (hc 3 Y) O) O;have Hb:=H.full;have H:=Hb;clear hc;refine kH H (Rf Av O ?_);clear H;intro a H;refine aj ⟨O,?_⟩;exact ay HT Hb hG hv (fun _ _ _ _ _ h=>h) H O
        · intro au a w G1 _ ah hc hG HT hv;have H:=HT;clear ah;have H:=H.ak (hv 4 46 (hc 4 Y) O) O;have Hb:=H.full;have H:=Hb;clear hc;refine kH H (Rg aF O (aK hG (hrow 1 _ O)) ?_);clear H;intro a H;refine aj ⟨O,?_⟩;exact ay HT Hb hG hv (fun _ _ _ _ _ h=>h) H O
        · intro au a w G1 _ ah hc hG HT hv;have H:=HT;clear ah;have Hb:=H.full;have H:=Hb;clear hc;refine kH H (Rm O ?_);clear H;intro a H;refine aj ⟨O,?_⟩;exact ay HT Hb hG hv (fun _ _ _ _ _ h=>h) H O
        · intro au a w G1 _ ah hc hG HT hv;have H:=HT;clear ah;have Hb:=H.full;have H:=Hb;clear hc;refine kH H (Rm O ?_);clear H;intro a H;refine aj ⟨O,?_⟩;exact ay HT Hb hG hv (fun _ _ _ _ _ h=>h) H O
        · intro au a w G1 _ ah hc hG HT hv;have H:=HT;clear ah;have H:=H.ak (hv 6 48 (hc 6 Y) O) O;have H:=H.ak (hv 7 49 (hc 7 Y) O) O;have Hb:=H.full;have H:=Hb;clear hc;refine aT qy lV i H wn O O O V O ?_;clear H;intro a H;refine aj ⟨O,?_⟩;exact ay HT Hb hG hv (fun _ _ _ _ _ h=>h) H O
        · intro au a w G1 _ ah hc hG HT hv;have H:=HT;clear ah;have H:=H.ak (hv 8 50 (hc 8 Y) O) O;have Hb:=H.full;have H:=Hb;clear hc;refine kH H (Rf Aw O ?_);clear H;intro a H;refine aj ⟨O,?_⟩;exact ay HT Hb hG hv (fun _ _ _ _ _ h=>h) H O
        · intro au a w G1 _ ah hc hG HT hv;have H:=HT;clear ah;have H:=H.ak (hv 9 51 (hc 9 Y) O) O;have Hb:=H.full;have H:=Hb;clear hc;refine kH H (Rg aF O (aK hG (hrow 2 _ O)) ?_);clear H;intro a H;refine aj ⟨O,?_⟩;exact ay HT Hb hG hv (fun _ _ _ _ _ h=>h) H O
        · intro au a w G1 _ ah hc hG HT hv;have H:=HT;clear ah;have H:=H.ak (hv 0 42 (hc 0 Y) O) O;have H:=H.ak (hv 5 47 (hc 5 Y) O) O;have H:=H.ak (hv 10 52 (hc 10 Y) O) O;have Hb:=H.full;have H:=Hb;clear hc;rw [hf0,ht0] at H;refine s_call Vy H wn O (abx _ _ H.ro (gL s t d) V hsd.ok tok.from_.toNat tok.dP.toNat V V) O ?_;clear H;rintro v53 SV a w rfl Xo H;rw [hxe] at H;rw [<- hf0,<- ht0] at H;refine aj ⟨O,?_⟩;exact jw Z (fun _ _ _ _ _ h=>h) O O HT Hb hG hv Xo (rfl) H
        · intro au a w G1 _ ah hc hG HT hv;have H:=HT;clear ah;have H:=H.ak (hv 11 53 (hc 11 Y) O) O;have Hb:=H.full;have H:=Hb;clear hc;refine kH H (Rm O ?_);clear H;intro a H;refine aj ⟨O,?_⟩;exact ay HT Hb hG hv (fun _ _ _ _ _ h=>h) H O
        · intro au a w G1 _ ah hc hG HT hv;have H:=HT;clear ah;have H:=H.ak (hv 12 41 (hc 12 Y) O) O;have Hb:=H.full;have H:=Hb;clear hc;refine fZ H wn O O O ?_;clear H;intro a H;refine aj ⟨O,?_⟩;exact ay HT Hb hG hv (fun _ _ _ _ _ h=>h) H O
        · intro au a w G1 _ ah hc hG HT hv;have H:=HT;clear ah;have H:=H.ak (hv 12 41 (hc 12 Y) O) O;have Hb:=H.full;have H:=Hb;clear hc;refine fZ H wn O O O ?_;clear H;intro a H;refine aj ⟨O,?_⟩;exact ay HT Hb hG hv (fun _ _ _ _ _ h=>h) H O
        · intro au a w G1 _ ah hc hG HT hv;have H:=HT;clear ah;have H:=H.ak (hv 13 54 (hc 13 Y) O) O;have Hb:=H.full;have H:=Hb;clear hc;refine kH H (Ra O ?_);clear H;intro a H;refine aj ⟨O,?_⟩;exact ay HT Hb hG hv (fun _ _ _ _ _ h=>h) H O
        · intro au a w G1 _ ah hc hG HT hv;have H:=HT;clear ah;have H:=H.ak (hv 14 55 (hc 14 Y) O) O;have Hb:=H.full;have H:=Hb;clear hc;refine kH H (Ra O ?_);clear H;intro a H;refine aj ⟨O,?_⟩;exact ay HT Hb hG hv (fun _ _ _ _ _ h=>h) H O
        clear H;intro a w G EN H hv;have H:=H.ak (hv 15 12 O O) O;clear hv;refine aj ⟨O,?_⟩;refine cB _ _ ?_;clear cB;refine iF (fun _ dw=>?_);obtain ⟨K,hK⟩:∃ K,K=(cur s t d i).2:=⟨_,O⟩
        have Yr:mq s t d i=K:=by rw [mq,aM hd1,hK]
        rw [Yr] at wJ hol;obtain ⟨nA,nc,rfl,hn1,hn2⟩:=wJ.shape;have jN:=EN;refine kP H (SC (bS dw O (SQ fun _ dN=>SB ?_)));clear H dw;intro a H;skip;refine eG (ι:=Nat) (Tc:=[(0,_),(1,_),(4,_),(5,_),(6,_),(7,_),(8,_),(9,_),(11,_),(12,_)]) (Lc:=[(_,_)]) (fun gh=>[(14,vi gh)]) (fun gh=>[]++(M4++(M5++M6))) (fun gh=>G) (fun gh=>gh<=K.length∧∀ q (h:q < K.length),q < gh->¬ K[q]=x) (fun gh=>K.length - gh) (0) (by exact H.sub ⟨O,O,O,O,O,O,O,O,O,O,O,aL⟩) ?_ ?_
        · exact ⟨dU _,fun q _ h=>absurd h (Nat.not_lt_zero _)⟩
        clear H;intro k a w hI H;obtain ⟨hk,hne⟩:=hI;dsimp only [lca,dB] at H;refine kP H (SQ fun _ eP=>SR fun _ fM=>Rm O (Rm O (Rl kW O (Rc O (Rm O (Sp 60 O ?_ ?_)))))) <;> clear H
        · intro gF a H
          try have p60:=dT gF
          have hk1:k < K.length:=by omega
          obtain ⟨nb,aeG,JH,en,Xy,hc1,hc2,hc3,hc4⟩:∃ b cap cur,Value.slice nA K.length nc=.slice (some ⟨b,0,none⟩) K.length cap∧M6=[(b,.cells cur 9 (0,0))]∧K.length<=cap∧cap<=maxLen∧cur.size=cap*1∧cur.toList.take (K.length*1)=K.map Value.string:=by
            rcases wJ.2 with ⟨_,h,_⟩|h
            · omega
            exact h
          obtain ⟨Vg,-,Vj⟩:=Value.slice.inj en;subst Vg;subst Vj
          have hcell:JH[k]?=some (.string K[k]):=by
            have h1:(JH.toList.take (K.length*1))[k]?=some (.string K[k]):=by rw [hc4,qG,iR hk1];rfl
            rw [sj,dJ] at h1
            simpa using h1
          refine kH H (YM gF O (YM gF O ?_));clear H;intro a H;refine aT kW jQ k H (wg H O O gF) O O O hk1 O ?_;clear H;intro a H;refine iM jQ H (wg H O O gF) O (H.hp.PL (show (nb,Obj.cells JH 9 (0,0))∈_ by rw [Xy];simp) (by rw [fC,Nat.mul_one];exact hcell)) O ?_;clear H;intro a H;refine kH H (YM gF O ?_);clear H;intro a H;refine aaP H (wg H O O gF) O O O ?_;clear H;intro a H;refine kH H (Pt gF O (Kz fM (Cd O ?_ ?_))) <;> clear H fM
          · intro za a H
            try have p67:=dT za
            refine kP H (Kc eP (SB (SC (Rm O (Rd O (Ra O ?_))))));clear H eP;intro a H;refine aj ?_;refine bg ((k+1)) (by exact H.sub ⟨O,O,O,O,O,O,O,O,O,O,O,aL⟩) ?_
            exact ⟨V,fun q h hq=>by
                by_cases e:q=k
                · subst e;intro e2;rw [e2] at za;simp [Ko] at za
                exact hne q h V⟩
          intro za a H
          try have p67:=dF za
          refine dD ?_;refine dN _ _ ?_;clear dN;refine iF (fun _ fO=>?_);refine iF (fun _ ig=>?_)
          have hkey:=Pn (x:=x) (l:=K) hk hne (fun h=>by
            first
              | exact absurd p60 V
              | (have h2:(!(K[k].toList == x.toList))=false:=by simpa using za
                 simpa [Ko] using h2))
          have IX:(cur s t d (i+1)).2=(if k=K.length then K++[x] else K):=by rw [hst,<- hkey.2];simp [oC,<- hK]
          have wG:(cur s t d (i+1)).1=(cur s t d i).1++[⟨((k+1:Nat):Int),jF tok⟩]:=by rw [hst,<- hkey.1];simp [oC,<- hK]
          have Jk:mq s t d (i+1)=(if k=K.length then K++[x] else K):=by rw [mq,aM hd1,IX]
          refine kP H (SC (Rm O (Rm O (Rl kW O (Rc O (Kn ig (Cd O ?_ ?_))))))) <;> clear H ig
          · intro ze a H
            try have p73:=dT ze
            exact absurd p73 V
          intro ze a H
          try have p73:=dF ze
          have hkl:¬ k=K.length:=by omega
          have wK:=aak wJ (show K=mq s t d (i+1) by rw [Jk,aJ hkl]);refine mh ?_;refine fO _ _ ?_;clear fO;refine iF (fun _ iq=>?_);refine dI gG [[],[],[0,1],[0,1,2],ra 0 4,[],[],[5,6],[5,6,7],ra 5 4,ra 0 10,ra 0 11,ra 0 12] [12] Z [.slice (some ⟨tb,nC,none⟩) (jm (dW (gL s t d))).length tc,vi i,(aH tb (nC+i*3)),(aH tb (nC+i*3+2)),vi tok.dP,.slice (some ⟨tb,nC,none⟩) (jm (dW (gL s t d))).length tc,vi i,(aH tb (nC+i*3)),(aH tb (nC+i*3+1)),vi tok.from_,vi (tok.dP - tok.from_),vi (min (tok.dP - tok.from_) 1000)] H (aI ?_ ?_ ?_ ?_ (aI ?_ ?_ ?_ ?_ (aI ?_ ?_ ?_ ?_ (iO (gB O) fQ)))) ?_
          · intro au a w G1 _ ah hc hG HT hv;have H:=HT;clear ah;have Hb:=H.full;have H:=Hb;clear hc;refine kH H (Rm O ?_);clear H;intro a H;refine aj ⟨O,?_⟩;exact ay HT Hb hG hv (fun _ _ _ _ _ h=>h) H O
          · intro au a w G1 _ ah hc hG HT hv;have H:=HT;clear ah;have Hb:=H.full;have H:=Hb;clear hc;refine kH H (Rm O ?_);clear H;intro a H;refine aj ⟨O,?_⟩;exact ay HT Hb hG hv (fun _ _ _ _ _ h=>h) H O
          · intro au a w G1 _ ah hc hG HT hv;have H:=HT;clear ah;have H:=H.ak (hv 0 78 (hc 0 Y) O) O;have H:=H.ak (hv 1 79 (hc 1 Y) O) O;have Hb:=H.full;have H:=Hb;clear hc;refine aT qy lV i H wn O O O V O ?_;clear H;intro a H;refine aj ⟨O,?_⟩;exact ay HT Hb hG hv (fun _ _ _ _ _ h=>h) H O
          · intro au a w G1 _ ah hc hG HT hv;have H:=HT;clear ah;have H:=H.ak (hv 2 80 (hc 2 Y) O) O;have Hb:=H.full;have H:=Hb;clear hc;refine kH H (Rf Aw O ?_);clear H;intro a H;refine aj ⟨O,?_⟩;exact ay HT Hb hG hv (fun _ _ _ _ _ h=>h) H O
          · intro au a w G1 _ ah hc hG HT hv;have H:=HT;clear ah;have H:=H.ak (hv 3 81 (hc 3 Y) O) O;have Hb:=H.full;have H:=Hb;clear hc;refine kH H (Rg aF O (aK hG (aK jN (hrow 2 _ O))) ?_);clear H;intro a H;refine aj ⟨O,?_⟩;exact ay HT Hb hG hv (fun _ _ _ _ _ h=>h) H O
          · intro au a w G1 _ ah hc hG HT hv;have H:=HT;clear ah;have Hb:=H.full;have H:=Hb;clear hc;refine kH H (Rm O ?_);clear H;intro a H;refine aj ⟨O,?_⟩;exact ay HT Hb hG hv (fun _ _ _ _ _ h=>h) H O
          · intro au a w G1 _ ah hc hG HT hv;have H:=HT;clear ah;have Hb:=H.full;have H:=Hb;clear hc;refine kH H (Rm O ?_);clear H;intro a H;refine aj ⟨O,?_⟩;exact ay HT Hb hG hv (fun _ _ _ _ _ h=>h) H O
          · intro au a w G1 _ ah hc hG HT hv;have H:=HT;clear ah;have H:=H.ak (hv 5 83 (hc 5 Y) O) O;have H:=H.ak (hv 6 84 (hc 6 Y) O) O;have Hb:=H.full;have H:=Hb;clear hc;refine aT qy lV i H wn O O O V O ?_;clear H;intro a H;refine aj ⟨O,?_⟩;exact ay HT Hb hG hv (fun _ _ _ _ _ h=>h) H O
          · intro au a w G1 _ ah hc hG HT hv;have H:=HT;clear ah;have H:=H.ak (hv 7 85 (hc 7 Y) O) O;have Hb:=H.full;have H:=Hb;clear hc;refine kH H (Rf Av O ?_);clear H;intro a H;refine aj ⟨O,?_⟩;exact ay HT Hb hG hv (fun _ _ _ _ _ h=>h) H O
          · intro au a w G1 _ ah hc hG HT hv;have H:=HT;clear ah;have H:=H.ak (hv 8 86 (hc 8 Y) O) O;have Hb:=H.full;have H:=Hb;clear hc;refine kH H (Rg aF O (aK hG (aK jN (hrow 1 _ O))) ?_);clear H;intro a H;refine aj ⟨O,?_⟩;exact ay HT Hb hG hv (fun _ _ _ _ _ h=>h) H O
          · intro au a w G1 _ ah hc hG HT hv;have H:=HT;clear ah;have H:=H.ak (hv 4 82 (hc 4 Y) O) O;have H:=H.ak (hv 9 87 (hc 9 Y) O) O;have Hb:=H.full;have H:=Hb;clear hc;refine kH H (Rs O ?_);clear H;intro a H;refine aj ⟨O,?_⟩;exact ay HT Hb hG hv (fun _ _ _ _ _ h=>h) H O
          · intro au a w G1 _ ah hc hG HT hv;have H:=HT;clear ah;have H:=H.ak (hv 10 88 (hc 10 Y) O) O;have Hb:=H.full;have H:=Hb;clear hc;refine DF H wn O O O ?_;clear H;intro a H;refine aj ⟨O,?_⟩;exact ay HT Hb hG hv (fun _ _ _ _ _ h=>h) H O
          clear H;intro a w G nk H hv;have H:=H.ak (hv 11 89 O O) O;clear hv;refine kH H (Ra O ?_);clear H;intro a H;refine aj ⟨O,?_⟩;refine iq _ _ ?_;clear iq;refine kP H (SQ fun _ gM=>SR fun _ jC=>Rm O (Rm O ?_));clear H;intro a H;refine aT qy lV i H wn O O O V O ?_;clear H;intro a H;refine kH H (Rf Ew O (Rg aF O (aK nk (aK jN (hrow 0 _ O))) (Rc O (Kz jC (Cd O ?_ ?_))))) <;> clear H jC
          · intro uw a H
            try have JQ:=dT uw
            have hwt:jF tok=1:=aM (by simpa using uw);refine kP H (SC (bS gM O (SR fun _ iw=>Rm O (Rc O (Kz iw (Cd O ?_ ?_)))))) <;> clear H gM iw
            · intro h97 a H
              try have zG:=dT h97
              have hd0:d=0:=by omega
              subst hd0
              have eX:gW s t 0 (i+1)=gW s t 0 i++[⟨((k+1:Nat):Int),jF tok⟩]:=by simp only [gW,if_true];exact wG
              have qd:bP 60 2 w5 (gX s t 0 (i+1)).length (iD (gX s t 0 (i+1))) M5:=kZ;refine kP H (SC (Rm O (Rm O (Rd O (Rm O ?_)))));clear H;intro a H;refine kF sW [_,_] H wn O O O O ?_;clear H;intro a H;refine eU bG bO [_,_] [_,_] H wn O O O O O (by intro i q h;match i,h with|0,h=>exact h|n+1,h=>simp at h) O O ?_;clear H;intro GN a w IK H
              first
                | refine eD (Li:=[_,_,_]++(M5++M7)) (Lo:=M4) (news:=[vi ((k:Int)+1),vi 1]) bG bO O O (H.perm (iB [_,_,_] M4 M5 M7)) wn O O hq4 O ((H.perm (iB [_,_,_] M4 M5 M7)).hp.dG 0 O O) O V V O ?_
                | refine eD (Li:=[_,_,_]++(M5++M7)) (Lo:=M4) (news:=[vi ((k:Int)+1),vi (min (tok.dP - tok.from_) 1000)]) bG bO O O (H.perm (iB [_,_,_] M4 M5 M7)) wn O O hq4 O ((H.perm (iB [_,_,_] M4 M5 M7)).hp.dG 0 O O) O V V O ?_
                | refine eD (Li:=[_,_]++(M5++M6)) (Lo:=M4) (news:=[vi ((k:Int)+1),vi 1]) bG bO O O (H.perm (iB [_,_] M4 M5 M6)) wn O O hq4 O ((H.perm (iB [_,_] M4 M5 M6)).hp.dG 0 O O) O V V O ?_
                | refine eD (Li:=[_,_]++(M5++M6)) (Lo:=M4) (news:=[vi ((k:Int)+1),vi (min (tok.dP - tok.from_) 1000)]) bG bO O O (H.perm (iB [_,_] M4 M5 M6)) wn O O hq4 O ((H.perm (iB [_,_] M4 M5 M6)).hp.dG 0 O O) O V V O ?_
              clear H;intro uM M8 a w qg H;replace H:=H.perm (by first|exact (iB [_,_,_] M8 M5 M7).symm|exact (iB [_,_] M8 M5 M6).symm);dsimp only [lca,dB] at H
              have qb:bP 60 2 uM (gW s t 0 (i+1)).length (iD (gW s t 0 (i+1))) M8:=by
                rw [eX,hwt,iK,iD,kC,List.flatten_append];exact qg
              refine kH H (bS bI O (SC (Rm O (Rd O (Ra O ?_)))));clear H bI;intro a H;refine aj ?_;refine bg ((i+1,uM,w5,.slice (some ⟨nb,0,none⟩) K.length nc,M8,M5,M6,G)) (by exact (H.dR (Pl:=[_,_]) (dx:=[_]) [1] Y O).sub ⟨O,O,O,O,O,O,O,O,O,aL⟩) ?_
              (try dsimp only);exact ⟨V,qb,qd,wK,fun b o h=>nk b o (jN b o (eH b o h)),fun b o h=>nk b o (jN b o (hgt b o h))⟩
            intro h97 a H
            try have zG:=dF h97
            have hd0:d=1:=by omega
            subst hd0
            have eY:gX s t 1 (i+1)=gX s t 1 i++[⟨((k+1:Nat):Int),jF tok⟩]:=by simp only [gX,if_true];exact wG
            have qb:bP 60 2 w4 (gW s t 1 (i+1)).length (iD (gW s t 1 (i+1))) M4:=hq4;refine kP H (SC (Rm O (Rm O (Rd O (Rm O ?_)))));clear H;intro a H;refine kF sW [_,_] H wn O O O O ?_;clear H;intro a H;refine eU bG bO [_,_] [_,_] H wn O O O O O (by intro i q h;match i,h with|0,h=>exact h|n+1,h=>simp at h) O O ?_;clear H;intro b110 a w IL H
            first
              | refine eD (Li:=[_,_,_]++(M4++M7)) (Lo:=M5) (news:=[vi ((k:Int)+1),vi 1]) bG bO O O (H.perm (iG [_,_,_] M4 M5 M7)) wn O O kZ O ((H.perm (iG [_,_,_] M4 M5 M7)).hp.dG 0 O O) O V V O ?_
              | refine eD (Li:=[_,_,_]++(M4++M7)) (Lo:=M5) (news:=[vi ((k:Int)+1),vi (min (tok.dP - tok.from_) 1000)]) bG bO O O (H.perm (iG [_,_,_] M4 M5 M7)) wn O O kZ O ((H.perm (iG [_,_,_] M4 M5 M7)).hp.dG 0 O O) O V V O ?_
              | refine eD (Li:=[_,_]++(M4++M6)) (Lo:=M5) (news:=[vi ((k:Int)+1),vi 1]) bG bO O O (H.perm (iG [_,_] M4 M5 M6)) wn O O kZ O ((H.perm (iG [_,_] M4 M5 M6)).hp.dG 0 O O) O V V O ?_
              | refine eD (Li:=[_,_]++(M4++M6)) (Lo:=M5) (news:=[vi ((k:Int)+1),vi (min (tok.dP - tok.from_) 1000)]) bG bO O O (H.perm (iG [_,_] M4 M5 M6)) wn O O kZ O ((H.perm (iG [_,_] M4 M5 M6)).hp.dG 0 O O) O V V O ?_
            clear H;intro tu M9 a w qg H;replace H:=H.perm (by first|exact (iG [_,_,_] M4 M9 M7).symm|exact (iG [_,_] M4 M9 M6).symm);dsimp only [lca,dB] at H
            have qd:bP 60 2 tu (gX s t 1 (i+1)).length (iD (gX s t 1 (i+1))) M9:=by
              rw [eY,hwt,iK,iD,kC,List.flatten_append];exact qg
            refine kH H (bS bI O (SC (Rm O (Rd O (Ra O ?_)))));clear H bI;intro a H;refine aj ?_;refine bg ((i+1,w4,tu,.slice (some ⟨nb,0,none⟩) K.length nc,M4,M9,M6,G)) (by exact (H.dR (Pl:=[_,_]) (dx:=[_]) [1] Y O).sub ⟨O,O,O,O,O,O,O,O,O,aL⟩) ?_
            (try dsimp only);exact ⟨V,qb,qd,wK,fun b o h=>nk b o (jN b o (eH b o h)),fun b o h=>nk b o (jN b o (hgt b o h))⟩
          intro uw a H
          try have JQ:=dF uw
          have hwt:jF tok=min (tok.dP - tok.from_) 1000:=aJ (by simpa using uw);refine kP H (Kc gM (SR fun _ lu=>Rm O (Rc O (Kz lu (Cd O ?_ ?_))))) <;> clear H gM lu
          · intro h97 a H
            try have zG:=dT h97
            have hd0:d=0:=by omega
            subst hd0
            have eX:gW s t 0 (i+1)=gW s t 0 i++[⟨((k+1:Nat):Int),jF tok⟩]:=by simp only [gW,if_true];exact wG
            have qd:bP 60 2 w5 (gX s t 0 (i+1)).length (iD (gX s t 0 (i+1))) M5:=kZ;refine kP H (SC (Rm O (Rm O (Rd O (Rm O ?_)))));clear H;intro a H;refine kF sW [_,_] H wn O O O O ?_;clear H;intro a H;refine eU bG bO [_,_] [_,_] H wn O O O O O (by intro i q h;match i,h with|0,h=>exact h|n+1,h=>simp at h) O O ?_;clear H;intro GN a w IK H
            first
              | refine eD (Li:=[_,_,_]++(M5++M7)) (Lo:=M4) (news:=[vi ((k:Int)+1),vi 1]) bG bO O O (H.perm (iB [_,_,_] M4 M5 M7)) wn O O hq4 O ((H.perm (iB [_,_,_] M4 M5 M7)).hp.dG 0 O O) O V V O ?_
              | refine eD (Li:=[_,_,_]++(M5++M7)) (Lo:=M4) (news:=[vi ((k:Int)+1),vi (min (tok.dP - tok.from_) 1000)]) bG bO O O (H.perm (iB [_,_,_] M4 M5 M7)) wn O O hq4 O ((H.perm (iB [_,_,_] M4 M5 M7)).hp.dG 0 O O) O V V O ?_
              | refine eD (Li:=[_,_]++(M5++M6)) (Lo:=M4) (news:=[vi ((k:Int)+1),vi 1]) bG bO O O (H.perm (iB [_,_] M4 M5 M6)) wn O O hq4 O ((H.perm (iB [_,_] M4 M5 M6)).hp.dG 0 O O) O V V O ?_
              | refine eD (Li:=[_,_]++(M5++M6)) (Lo:=M4) (news:=[vi ((k:Int)+1),vi (min (tok.dP - tok.from_) 1000)]) bG bO O O (H.perm (iB [_,_] M4 M5 M6)) wn O O hq4 O ((H.perm (iB [_,_] M4 M5 M6)).hp.dG 0 O O) O V V O ?_
            clear H;intro uM M8 a w qg H;replace H:=H.perm (by first|exact (iB [_,_,_] M8 M5 M7).symm|exact (iB [_,_] M8 M5 M6).symm);dsimp only [lca,dB] at H
            have qb:bP 60 2 uM (gW s t 0 (i+1)).length (iD (gW s t 0 (i+1))) M8:=by
              rw [eX,hwt,iK,iD,kC,List.flatten_append];exact qg
            refine kH H (bS bI O (SC (Rm O (Rd O (Ra O ?_)))));clear H bI;intro a H;refine aj ?_;refine bg ((i+1,uM,w5,.slice (some ⟨nb,0,none⟩) K.length nc,M8,M5,M6,G)) (by exact (H.dR (Pl:=[_,_]) (dx:=[_]) [1] Y O).sub ⟨O,O,O,O,O,O,O,O,O,aL⟩) ?_
            (try dsimp only);exact ⟨V,qb,qd,wK,fun b o h=>nk b o (jN b o (eH b o h)),fun b o h=>nk b o (jN b o (hgt b o h))⟩
          intro h97 a H
          try have zG:=dF h97
          have hd0:d=1:=by omega
          subst hd0
          have eY:gX s t 1 (i+1)=gX s t 1 i++[⟨((k+1:Nat):Int),jF tok⟩]:=by simp only [gX,if_true];exact wG
          have qb:bP 60 2 w4 (gW s t 1 (i+1)).length (iD (gW s t 1 (i+1))) M4:=hq4;refine kP H (SC (Rm O (Rm O (Rd O (Rm O ?_)))));clear H;intro a H;refine kF sW [_,_] H wn O O O O ?_;clear H;intro a H;refine eU bG bO [_,_] [_,_] H wn O O O O O (by intro i q h;match i,h with|0,h=>exact h|n+1,h=>simp at h) O O ?_;clear H;intro b110 a w IL H
          first
            | refine eD (Li:=[_,_,_]++(M4++M7)) (Lo:=M5) (news:=[vi ((k:Int)+1),vi 1]) bG bO O O (H.perm (iG [_,_,_] M4 M5 M7)) wn O O kZ O ((H.perm (iG [_,_,_] M4 M5 M7)).hp.dG 0 O O) O V V O ?_
            | refine eD (Li:=[_,_,_]++(M4++M7)) (Lo:=M5) (news:=[vi ((k:Int)+1),vi (min (tok.dP - tok.from_) 1000)]) bG bO O O (H.perm (iG [_,_,_] M4 M5 M7)) wn O O kZ O ((H.perm (iG [_,_,_] M4 M5 M7)).hp.dG 0 O O) O V V O ?_
            | refine eD (Li:=[_,_]++(M4++M6)) (Lo:=M5) (news:=[vi ((k:Int)+1),vi 1]) bG bO O O (H.perm (iG [_,_] M4 M5 M6)) wn O O kZ O ((H.perm (iG [_,_] M4 M5 M6)).hp.dG 0 O O) O V V O ?_
            | refine eD (Li:=[_,_]++(M4++M6)) (Lo:=M5) (news:=[vi ((k:Int)+1),vi (min (tok.dP - tok.from_) 1000)]) bG bO O O (H.perm (iG [_,_] M4 M5 M6)) wn O O kZ O ((H.perm (iG [_,_] M4 M5 M6)).hp.dG 0 O O) O V V O ?_
          clear H;intro tu M9 a w qg H;replace H:=H.perm (by first|exact (iG [_,_,_] M4 M9 M7).symm|exact (iG [_,_] M4 M9 M6).symm);dsimp only [lca,dB] at H
          have qd:bP 60 2 tu (gX s t 1 (i+1)).length (iD (gX s t 1 (i+1))) M9:=by
            rw [eY,hwt,iK,iD,kC,List.flatten_append];exact qg
          refine kH H (bS bI O (SC (Rm O (Rd O (Ra O ?_)))));clear H bI;intro a H;refine aj ?_;refine bg ((i+1,w4,tu,.slice (some ⟨nb,0,none⟩) K.length nc,M4,M9,M6,G)) (by exact (H.dR (Pl:=[_,_]) (dx:=[_]) [1] Y O).sub ⟨O,O,O,O,O,O,O,O,O,aL⟩) ?_
          (try dsimp only);exact ⟨V,qb,qd,wK,fun b o h=>nk b o (jN b o (eH b o h)),fun b o h=>nk b o (jN b o (hgt b o h))⟩
        intro gF a H
        try have p60:=dF gF
        refine kH H (aQ gF O (aQ gF O (Pf gF O (Kz fM (Cf O O ?_)))));clear H fM;intro a H;refine dD ?_;refine dN _ _ ?_;clear dN;refine iF (fun _ lX=>?_);refine iF (fun _ nN=>?_)
        have hkey:=Pn (x:=x) (l:=K) hk hne (fun h=>by
          first
            | exact absurd p60 V
            | (have h2:(!(K[k].toList == x.toList))=false:=by simpa using za
               simpa [Ko] using h2))
        have IX:(cur s t d (i+1)).2=(if k=K.length then K++[x] else K):=by rw [hst,<- hkey.2];simp [oC,<- hK]
        have wG:(cur s t d (i+1)).1=(cur s t d i).1++[⟨((k+1:Nat):Int),jF tok⟩]:=by rw [hst,<- hkey.1];simp [oC,<- hK]
        have Jk:mq s t d (i+1)=(if k=K.length then K++[x] else K):=by rw [mq,aM hd1,IX]
        refine kP H (SC (Rm O (Rm O (Rl kW O (Rc O (Kn nN (Cd O ?_ ?_))))))) <;> clear H nN
        · intro ze a H
          try have p73:=dT ze
          have hkl:k=K.length:=by omega
          refine kP H (SC (Rm O (Rm O ?_)));clear H;intro a H;refine eU kW jQ [_] [_] H wn O O O O O (by intro i q h;match i,h with|0,h=>exact h|n+1,h=>simp at h) O O ?_;clear H;intro b76 a w aek H;have H:=H.perm (Qb [_,_] M4 M5 M6);refine eD (Li:=[_,_]++(M4++M5)) (Lo:=M6) (news:=[.string x]) kW jQ O O H wn O O wJ O (H.hp.dG 0 O O) O V V O ?_;clear H;intro v77 M7 a w Yw H;have H:=H.perm (Qb [_,_] M4 M5 M7).symm;dsimp only [lca,dB] at H
          have wK:bP 9 1 v77 (mq s t d (i+1)).length ((mq s t d (i+1)).map Value.string) M7:=by
            rw [Jk,aM hkl,iK,kC];exact Yw
          refine kH H (bS lX O (SQ fun _ ji=>?_));clear H lX;intro a H;refine dI gG [[],[],[0,1],[0,1,2],ra 0 4,[],[],[5,6],[5,6,7],ra 5 4,ra 0 10,ra 0 11,ra 0 12] [12] Z [.slice (some ⟨tb,nC,none⟩) (jm (dW (gL s t d))).length tc,vi i,(aH tb (nC+i*3)),(aH tb (nC+i*3+2)),vi tok.dP,.slice (some ⟨tb,nC,none⟩) (jm (dW (gL s t d))).length tc,vi i,(aH tb (nC+i*3)),(aH tb (nC+i*3+1)),vi tok.from_,vi (tok.dP - tok.from_),vi (min (tok.dP - tok.from_) 1000)] H (aI ?_ ?_ ?_ ?_ (aI ?_ ?_ ?_ ?_ (aI ?_ ?_ ?_ ?_ (iO (gB O) fQ)))) ?_
          · intro au a w G1 _ ah hc hG HT hv;have H:=HT;clear ah;have Hb:=H.full;have H:=Hb;clear hc;refine kH H (Rm O ?_);clear H;intro a H;refine aj ⟨O,?_⟩;exact ay HT Hb hG hv (fun _ _ _ _ _ h=>h) H O
          · intro au a w G1 _ ah hc hG HT hv;have H:=HT;clear ah;have Hb:=H.full;have H:=Hb;clear hc;refine kH H (Rm O ?_);clear H;intro a H;refine aj ⟨O,?_⟩;exact ay HT Hb hG hv (fun _ _ _ _ _ h=>h) H O
          · intro au a w G1 _ ah hc hG HT hv;have H:=HT;clear ah;have H:=H.ak (hv 0 78 (hc 0 Y) O) O;have H:=H.ak (hv 1 79 (hc 1 Y) O) O;have Hb:=H.full;have H:=Hb;clear hc;refine aT qy lV i H wn O O O V O ?_;clear H;intro a H;refine aj ⟨O,?_⟩;exact ay HT Hb hG hv (fun _ _ _ _ _ h=>h) H O
          · intro au a w G1 _ ah hc hG HT hv;have H:=HT;clear ah;have H:=H.ak (hv 2 80 (hc 2 Y) O) O;have Hb:=H.full;have H:=Hb;clear hc;refine kH H (Rf Aw O ?_);clear H;intro a H;refine aj ⟨O,?_⟩;exact ay HT Hb hG hv (fun _ _ _ _ _ h=>h) H O
          · intro au a w G1 _ ah hc hG HT hv;have H:=HT;clear ah;have H:=H.ak (hv 3 81 (hc 3 Y) O) O;have Hb:=H.full;have H:=Hb;clear hc;refine kH H (Rg aF O (aK hG (aK jN (hrow 2 _ O))) ?_);clear H;intro a H;refine aj ⟨O,?_⟩;exact ay HT Hb hG hv (fun _ _ _ _ _ h=>h) H O
          · intro au a w G1 _ ah hc hG HT hv;have H:=HT;clear ah;have Hb:=H.full;have H:=Hb;clear hc;refine kH H (Rm O ?_);clear H;intro a H;refine aj ⟨O,?_⟩;exact ay HT Hb hG hv (fun _ _ _ _ _ h=>h) H O
          · intro au a w G1 _ ah hc hG HT hv;have H:=HT;clear ah;have Hb:=H.full;have H:=Hb;clear hc;refine kH H (Rm O ?_);clear H;intro a H;refine aj ⟨O,?_⟩;exact ay HT Hb hG hv (fun _ _ _ _ _ h=>h) H O
          · intro au a w G1 _ ah hc hG HT hv;have H:=HT;clear ah;have H:=H.ak (hv 5 83 (hc 5 Y) O) O;have H:=H.ak (hv 6 84 (hc 6 Y) O) O;have Hb:=H.full;have H:=Hb;clear hc;refine aT qy lV i H wn O O O V O ?_;clear H;intro a H;refine aj ⟨O,?_⟩;exact ay HT Hb hG hv (fun _ _ _ _ _ h=>h) H O
          · intro au a w G1 _ ah hc hG HT hv;have H:=HT;clear ah;have H:=H.ak (hv 7 85 (hc 7 Y) O) O;have Hb:=H.full;have H:=Hb;clear hc;refine kH H (Rf Av O ?_);clear H;intro a H;refine aj ⟨O,?_⟩;exact ay HT Hb hG hv (fun _ _ _ _ _ h=>h) H O
          · intro au a w G1 _ ah hc hG HT hv;have H:=HT;clear ah;have H:=H.ak (hv 8 86 (hc 8 Y) O) O;have Hb:=H.full;have H:=Hb;clear hc;refine kH H (Rg aF O (aK hG (aK jN (hrow 1 _ O))) ?_);clear H;intro a H;refine aj ⟨O,?_⟩;exact ay HT Hb hG hv (fun _ _ _ _ _ h=>h) H O
          · intro au a w G1 _ ah hc hG HT hv;have H:=HT;clear ah;have H:=H.ak (hv 4 82 (hc 4 Y) O) O;have H:=H.ak (hv 9 87 (hc 9 Y) O) O;have Hb:=H.full;have H:=Hb;clear hc;refine kH H (Rs O ?_);clear H;intro a H;refine aj ⟨O,?_⟩;exact ay HT Hb hG hv (fun _ _ _ _ _ h=>h) H O
          · intro au a w G1 _ ah hc hG HT hv;have H:=HT;clear ah;have H:=H.ak (hv 10 88 (hc 10 Y) O) O;have Hb:=H.full;have H:=Hb;clear hc;refine DF H wn O O O ?_;clear H;intro a H;refine aj ⟨O,?_⟩;exact ay HT Hb hG hv (fun _ _ _ _ _ h=>h) H O
          clear H;intro a w G nk H hv;have H:=H.ak (hv 11 89 O O) O;clear hv;refine kH H (Ra O ?_);clear H;intro a H;refine aj ⟨O,?_⟩;refine ji _ _ ?_;clear ji;refine kP H (SQ fun _ mW=>SR fun _ mX=>Rm O (Rm O ?_));clear H;intro a H;refine aT qy lV i H wn O O O V O ?_;clear H;intro a H;refine kH H (Rf Ew O (Rg aF O (aK nk (aK jN (hrow 0 _ O))) (Rc O (Kz mX (Cd O ?_ ?_))))) <;> clear H mX
          · intro uw a H
            try have JQ:=dT uw
            have hwt:jF tok=1:=aM (by simpa using uw);refine kP H (SC (bS mW O (SR fun _ lY=>Rm O (Rc O (Kz lY (Cd O ?_ ?_)))))) <;> clear H mW lY
            · intro h97 a H
              try have zG:=dT h97
              have hd0:d=0:=by omega
              subst hd0
              have eX:gW s t 0 (i+1)=gW s t 0 i++[⟨((k+1:Nat):Int),jF tok⟩]:=by simp only [gW,if_true];exact wG
              have qd:bP 60 2 w5 (gX s t 0 (i+1)).length (iD (gX s t 0 (i+1))) M5:=kZ;refine kP H (SC (Rm O (Rm O (Rd O (Rm O ?_)))));clear H;intro a H;refine kF sW [_,_] H wn O O O O ?_;clear H;intro a H;refine eU bG bO [_,_] [_,_] H wn O O O O O (by intro i q h;match i,h with|0,h=>exact h|n+1,h=>simp at h) O O ?_;clear H;intro GN a w IK H
              first
                | refine eD (Li:=[_,_,_]++(M5++M7)) (Lo:=M4) (news:=[vi ((k:Int)+1),vi 1]) bG bO O O (H.perm (iB [_,_,_] M4 M5 M7)) wn O O hq4 O ((H.perm (iB [_,_,_] M4 M5 M7)).hp.dG 0 O O) O V V O ?_
                | refine eD (Li:=[_,_,_]++(M5++M7)) (Lo:=M4) (news:=[vi ((k:Int)+1),vi (min (tok.dP - tok.from_) 1000)]) bG bO O O (H.perm (iB [_,_,_] M4 M5 M7)) wn O O hq4 O ((H.perm (iB [_,_,_] M4 M5 M7)).hp.dG 0 O O) O V V O ?_
                | refine eD (Li:=[_,_]++(M5++M6)) (Lo:=M4) (news:=[vi ((k:Int)+1),vi 1]) bG bO O O (H.perm (iB [_,_] M4 M5 M6)) wn O O hq4 O ((H.perm (iB [_,_] M4 M5 M6)).hp.dG 0 O O) O V V O ?_
                | refine eD (Li:=[_,_]++(M5++M6)) (Lo:=M4) (news:=[vi ((k:Int)+1),vi (min (tok.dP - tok.from_) 1000)]) bG bO O O (H.perm (iB [_,_] M4 M5 M6)) wn O O hq4 O ((H.perm (iB [_,_] M4 M5 M6)).hp.dG 0 O O) O V V O ?_
              clear H;intro uM M8 a w qg H;replace H:=H.perm (by first|exact (iB [_,_,_] M8 M5 M7).symm|exact (iB [_,_] M8 M5 M6).symm);dsimp only [lca,dB] at H
              have qb:bP 60 2 uM (gW s t 0 (i+1)).length (iD (gW s t 0 (i+1))) M8:=by
                rw [eX,hwt,iK,iD,kC,List.flatten_append];exact qg
              refine kH H (bS bI O (SC (Rm O (Rd O (Ra O ?_)))));clear H bI;intro a H;refine aj ?_;refine bg ((i+1,uM,w5,v77,M8,M5,M7,G)) (by exact (H.dR (Pl:=[_,_,_]) (dx:=[_]) [2] Y O).sub ⟨O,O,O,O,O,O,O,O,O,aL⟩) ?_
              (try dsimp only);exact ⟨V,qb,qd,wK,fun b o h=>nk b o (jN b o (eH b o h)),fun b o h=>nk b o (jN b o (hgt b o h))⟩
            intro h97 a H
            try have zG:=dF h97
            have hd0:d=1:=by omega
            subst hd0
            have eY:gX s t 1 (i+1)=gX s t 1 i++[⟨((k+1:Nat):Int),jF tok⟩]:=by simp only [gX,if_true];exact wG
            have qb:bP 60 2 w4 (gW s t 1 (i+1)).length (iD (gW s t 1 (i+1))) M4:=hq4;refine kP H (SC (Rm O (Rm O (Rd O (Rm O ?_)))));clear H;intro a H;refine kF sW [_,_] H wn O O O O ?_;clear H;intro a H;refine eU bG bO [_,_] [_,_] H wn O O O O O (by intro i q h;match i,h with|0,h=>exact h|n+1,h=>simp at h) O O ?_;clear H;intro b110 a w IL H
            first
              | refine eD (Li:=[_,_,_]++(M4++M7)) (Lo:=M5) (news:=[vi ((k:Int)+1),vi 1]) bG bO O O (H.perm (iG [_,_,_] M4 M5 M7)) wn O O kZ O ((H.perm (iG [_,_,_] M4 M5 M7)).hp.dG 0 O O) O V V O ?_
              | refine eD (Li:=[_,_,_]++(M4++M7)) (Lo:=M5) (news:=[vi ((k:Int)+1),vi (min (tok.dP - tok.from_) 1000)]) bG bO O O (H.perm (iG [_,_,_] M4 M5 M7)) wn O O kZ O ((H.perm (iG [_,_,_] M4 M5 M7)).hp.dG 0 O O) O V V O ?_
              | refine eD (Li:=[_,_]++(M4++M6)) (Lo:=M5) (news:=[vi ((k:Int)+1),vi 1]) bG bO O O (H.perm (iG [_,_] M4 M5 M6)) wn O O kZ O ((H.perm (iG [_,_] M4 M5 M6)).hp.dG 0 O O) O V V O ?_
              | refine eD (Li:=[_,_]++(M4++M6)) (Lo:=M5) (news:=[vi ((k:Int)+1),vi (min (tok.dP - tok.from_) 1000)]) bG bO O O (H.perm (iG [_,_] M4 M5 M6)) wn O O kZ O ((H.perm (iG [_,_] M4 M5 M6)).hp.dG 0 O O) O V V O ?_
            clear H;intro tu M9 a w qg H;replace H:=H.perm (by first|exact (iG [_,_,_] M4 M9 M7).symm|exact (iG [_,_] M4 M9 M6).symm);dsimp only [lca,dB] at H
            have qd:bP 60 2 tu (gX s t 1 (i+1)).length (iD (gX s t 1 (i+1))) M9:=by
              rw [eY,hwt,iK,iD,kC,List.flatten_append];exact qg
            refine kH H (bS bI O (SC (Rm O (Rd O (Ra O ?_)))));clear H bI;intro a H;refine aj ?_;refine bg ((i+1,w4,tu,v77,M4,M9,M7,G)) (by exact (H.dR (Pl:=[_,_,_]) (dx:=[_]) [2] Y O).sub ⟨O,O,O,O,O,O,O,O,O,aL⟩) ?_
            (try dsimp only);exact ⟨V,qb,qd,wK,fun b o h=>nk b o (jN b o (eH b o h)),fun b o h=>nk b o (jN b o (hgt b o h))⟩
          intro uw a H
          try have JQ:=dF uw
          have hwt:jF tok=min (tok.dP - tok.from_) 1000:=aJ (by simpa using uw);refine kP H (Kc mW (SR fun _ nO=>Rm O (Rc O (Kz nO (Cd O ?_ ?_))))) <;> clear H mW nO
          · intro h97 a H
            try have zG:=dT h97
            have hd0:d=0:=by omega
            subst hd0
            have eX:gW s t 0 (i+1)=gW s t 0 i++[⟨((k+1:Nat):Int),jF tok⟩]:=by simp only [gW,if_true];exact wG
            have qd:bP 60 2 w5 (gX s t 0 (i+1)).length (iD (gX s t 0 (i+1))) M5:=kZ;refine kP H (SC (Rm O (Rm O (Rd O (Rm O ?_)))));clear H;intro a H;refine kF sW [_,_] H wn O O O O ?_;clear H;intro a H;refine eU bG bO [_,_] [_,_] H wn O O O O O (by intro i q h;match i,h with|0,h=>exact h|n+1,h=>simp at h) O O ?_;clear H;intro GN a w IK H
            first
              | refine eD (Li:=[_,_,_]++(M5++M7)) (Lo:=M4) (news:=[vi ((k:Int)+1),vi 1]) bG bO O O (H.perm (iB [_,_,_] M4 M5 M7)) wn O O hq4 O ((H.perm (iB [_,_,_] M4 M5 M7)).hp.dG 0 O O) O V V O ?_
              | refine eD (Li:=[_,_,_]++(M5++M7)) (Lo:=M4) (news:=[vi ((k:Int)+1),vi (min (tok.dP - tok.from_) 1000)]) bG bO O O (H.perm (iB [_,_,_] M4 M5 M7)) wn O O hq4 O ((H.perm (iB [_,_,_] M4 M5 M7)).hp.dG 0 O O) O V V O ?_
              | refine eD (Li:=[_,_]++(M5++M6)) (Lo:=M4) (news:=[vi ((k:Int)+1),vi 1]) bG bO O O (H.perm (iB [_,_] M4 M5 M6)) wn O O hq4 O ((H.perm (iB [_,_] M4 M5 M6)).hp.dG 0 O O) O V V O ?_
              | refine eD (Li:=[_,_]++(M5++M6)) (Lo:=M4) (news:=[vi ((k:Int)+1),vi (min (tok.dP - tok.from_) 1000)]) bG bO O O (H.perm (iB [_,_] M4 M5 M6)) wn O O hq4 O ((H.perm (iB [_,_] M4 M5 M6)).hp.dG 0 O O) O V V O ?_
            clear H;intro uM M8 a w qg H;replace H:=H.perm (by first|exact (iB [_,_,_] M8 M5 M7).symm|exact (iB [_,_] M8 M5 M6).symm);dsimp only [lca,dB] at H
            have qb:bP 60 2 uM (gW s t 0 (i+1)).length (iD (gW s t 0 (i+1))) M8:=by
              rw [eX,hwt,iK,iD,kC,List.flatten_append];exact qg
            refine kH H (bS bI O (SC (Rm O (Rd O (Ra O ?_)))));clear H bI;intro a H;refine aj ?_;refine bg ((i+1,uM,w5,v77,M8,M5,M7,G)) (by exact (H.dR (Pl:=[_,_,_]) (dx:=[_]) [2] Y O).sub ⟨O,O,O,O,O,O,O,O,O,aL⟩) ?_
            (try dsimp only);exact ⟨V,qb,qd,wK,fun b o h=>nk b o (jN b o (eH b o h)),fun b o h=>nk b o (jN b o (hgt b o h))⟩
          intro h97 a H
          try have zG:=dF h97
          have hd0:d=1:=by omega
          subst hd0
          have eY:gX s t 1 (i+1)=gX s t 1 i++[⟨((k+1:Nat):Int),jF tok⟩]:=by simp only [gX,if_true];exact wG
          have qb:bP 60 2 w4 (gW s t 1 (i+1)).length (iD (gW s t 1 (i+1))) M4:=hq4;refine kP H (SC (Rm O (Rm O (Rd O (Rm O ?_)))));clear H;intro a H;refine kF sW [_,_] H wn O O O O ?_;clear H;intro a H;refine eU bG bO [_,_] [_,_] H wn O O O O O (by intro i q h;match i,h with|0,h=>exact h|n+1,h=>simp at h) O O ?_;clear H;intro b110 a w IL H
          first
            | refine eD (Li:=[_,_,_]++(M4++M7)) (Lo:=M5) (news:=[vi ((k:Int)+1),vi 1]) bG bO O O (H.perm (iG [_,_,_] M4 M5 M7)) wn O O kZ O ((H.perm (iG [_,_,_] M4 M5 M7)).hp.dG 0 O O) O V V O ?_
            | refine eD (Li:=[_,_,_]++(M4++M7)) (Lo:=M5) (news:=[vi ((k:Int)+1),vi (min (tok.dP - tok.from_) 1000)]) bG bO O O (H.perm (iG [_,_,_] M4 M5 M7)) wn O O kZ O ((H.perm (iG [_,_,_] M4 M5 M7)).hp.dG 0 O O) O V V O ?_
            | refine eD (Li:=[_,_]++(M4++M6)) (Lo:=M5) (news:=[vi ((k:Int)+1),vi 1]) bG bO O O (H.perm (iG [_,_] M4 M5 M6)) wn O O kZ O ((H.perm (iG [_,_] M4 M5 M6)).hp.dG 0 O O) O V V O ?_
            | refine eD (Li:=[_,_]++(M4++M6)) (Lo:=M5) (news:=[vi ((k:Int)+1),vi (min (tok.dP - tok.from_) 1000)]) bG bO O O (H.perm (iG [_,_] M4 M5 M6)) wn O O kZ O ((H.perm (iG [_,_] M4 M5 M6)).hp.dG 0 O O) O V V O ?_
          clear H;intro tu M9 a w qg H;replace H:=H.perm (by first|exact (iG [_,_,_] M4 M9 M7).symm|exact (iG [_,_] M4 M9 M6).symm);dsimp only [lca,dB] at H
          have qd:bP 60 2 tu (gX s t 1 (i+1)).length (iD (gX s t 1 (i+1))) M9:=by
            rw [eY,hwt,iK,iD,kC,List.flatten_append];exact qg
          refine kH H (bS bI O (SC (Rm O (Rd O (Ra O ?_)))));clear H bI;intro a H;refine aj ?_;refine bg ((i+1,w4,tu,v77,M4,M9,M7,G)) (by exact (H.dR (Pl:=[_,_,_]) (dx:=[_]) [2] Y O).sub ⟨O,O,O,O,O,O,O,O,O,aL⟩) ?_
          (try dsimp only);exact ⟨V,qb,qd,wK,fun b o h=>nk b o (jN b o (eH b o h)),fun b o h=>nk b o (jN b o (hgt b o h))⟩
        intro ze a H
        try have p73:=dF ze
        exact absurd p73 V
      intro Iq a H
      try have p38:=dF Iq
      refine dD ?_;refine K7 _ _ ?_;clear K7;refine kP H (SC (Rm O (Rd O (Ra O ?_))));clear H;intro a H;refine aj ?_;refine bg ((d+1,w4,w5,w6,M4,M5,M6,g2)) (by exact (H.dR (Pl:=[_]) (dx:=[]) [] Y O).sub ⟨O,O,O,O,O,O,aL⟩) ?_
      try dsimp only
      have hie:i=min (bR (gL s t d)).length 2048:=by omega
      subst hie;obtain ⟨o1,o2,o3⟩:=P8 (a:=s) (b:=t) hd1;rw [o1] at hq4;rw [o2] at kZ;rw [o3] at wJ;exact ⟨V,hq4,kZ,wJ,eH⟩
    intro nW a H
    try have p35:=dF nW
    refine kH H (aO nW O (Pf nW O (Kz bL (Cf O O ?_))));clear H bL;intro a H;refine dD ?_;refine K7 _ _ ?_;clear K7;refine kP H (SC (Rm O (Rd O (Ra O ?_))));clear H;intro a H;refine aj ?_;refine bg ((d+1,w4,w5,w6,M4,M5,M6,g2)) (by exact (H.dR (Pl:=[_]) (dx:=[]) [] Y O).sub ⟨O,O,O,O,O,O,aL⟩) ?_
    try dsimp only
    have hie:i=min (bR (gL s t d)).length 2048:=by omega
    subst hie;obtain ⟨o1,o2,o3⟩:=P8 (a:=s) (b:=t) hd1;rw [o1] at hq4;rw [o2] at kZ;rw [o3] at wJ;exact ⟨V,hq4,kZ,wJ,eH⟩
  intro dZ a H
  try have lg:=dF dZ
  refine dD ?_;refine K3 _ _ ?_;clear K3;refine kP H (SR fun _ nP=>Rm O (Rm O (Ra O (aB nP O ?_))));clear H nP;intro a H;refine aV ?_
  have hde:d=2:=by omega
  subst hde;have H:=H.perm (iB [] L4 L5 L6);obtain ⟨Ga,hma,hra,H⟩:=St.ni (Li:=[]++(L5++L6)) (Lo:=L4) H hr4 (rows:=(yw s).map cK.dat) (by simp [gW]) (by have:=KE g (yw s);simpa [gW] using this);have H:=H.perm (List.perm_append_comm (l₁:=L5) (l₂:=L6));obtain ⟨Gb,hmb,hrb,H⟩:=St.ni (Li:=L6) (Lo:=L5) H OM (rows:=(qQ s t).map cK.dat) (by simp [gX]) (by have:=KE Ga (qQ s t);simpa [gX] using this);refine (aY H results37 (.cons (aD H O) (.cons (aD H O) .nil)) ?_).1;exact H.rt ⟨_,_,O,hra.mono hmb,hrb⟩
theorem GV {a b:ByteArray} {i:Nat} (h:i < a.size):gy (a++b) i=gy a i:=by
 rw [pU h,pU (by rw [ByteArray.size_append];omega),ByteArray.getElem_append_left h]
theorem GX (a b:ByteArray) (j:Nat):gy (a++b) (a.size+j)=gy b j:=by
 by_cases h:j < b.size
 ·rw [pU h,pU (by rw [ByteArray.size_append];omega),ByteArray.getElem_append_right V]
  congr 2
  simp
 unfold gy
 rw [dif_neg (by rw [ByteArray.size_append];omega),dif_neg h]
theorem Nl {a b:ByteArray} {t n:Nat}:∀ (f k:Nat) (low high p:Int),(kK a t n f k low high p).2.2=true->kK (a++b) t n f k low high p=kK a t n f k low high p
 | 0,_,_,_,_,_=>rfl
 | f+1,k,low,high,p,h=>by
  unfold kK at h |-
  by_cases h1:n<=k
  ·rw [aM h1,aM h1]
  rw [aJ h1] at h;rw [aJ h1,aJ h1]
  by_cases h2:a.size<=t+k∨gy a (t+k) < low∨high < gy a (t+k)
  ·rw [aM h2] at h;cases h
  rw [aJ h2] at h
  have h3:t+k < a.size:=by omega
  rw [GV h3,aJ h2,aJ (by rw [ByteArray.size_append];omega)];exact Nl f (k+1) _ _ _ h
theorem Nn (a b:ByteArray) (j n:Nat):∀ (f k:Nat) (low high p:Int),kK (a++b) (a.size+j) n f k low high p=kK b j n f k low high p
 | 0,_,_,_,_=>rfl
 | f+1,k,low,high,p=>by
  unfold kK
  have e:gy (a++b) (a.size+j+k)=gy b (j+k):=by rw [Nat.add_assoc];exact GX a b (j+k)
  have e2:((a++b).size<=a.size+j+k)↔(b.size<=j+k):=by rw [ByteArray.size_append];omega
  rw [e,Nn a b j n f]
  simp only [e2]
theorem Nq {a b:ByteArray} {i:Nat} (hi:i < a.size) (h:(fB a i).2.2=true):fB (a++b) i=fB a i:=by
 unfold fB at h |-
 simp only [GV hi] at h |-
 split
 ·rfl
 rename_i h1
 rw [aJ h1] at h
 split
 ·rfl
 rename_i h2
 rw [aJ h2] at h;exact Nl _ _ _ _ _ h
theorem Nr (a b:ByteArray) (j:Nat):fB (a++b) (a.size+j)=fB b j:=by
 unfold fB
 simp only [GX,Nn]
theorem WM (a b:ByteArray):∀ (n j:Nat),b.size - j=n->gK b j < 0->gK (a++b) (a.size+j) < 0:=by
 intro n
 induction n using Nat.strongRecOn with
 | _ n ih =>
  intro j hn h;rw [gK]
  by_cases hj:j < b.size
  ·rw [gK,dif_pos hj] at h;rw [dif_pos (by rw [ByteArray.size_append];omega)]
   by_cases hd:(fB b j).2.2=true
   ·rw [dif_pos hd] at h;have hs:=(Am b j hj).2 hd;rw [dif_pos (by rw [Nr];exact hd),Nr,Nat.add_assoc];exact ih _ V (j+(fB b j).2.1) O h
   rw [dif_neg hd] at h;omega
  rw [dif_neg (by rw [ByteArray.size_append];omega)];decide
theorem WK (a b:ByteArray) (hb:gK b 0 < 0):∀ (n i:Nat),a.size - i=n->i<=a.size->gK a i < 0->gK (a++b) i < 0:=by
 intro n
 induction n using Nat.strongRecOn with
 | _ n ih =>
  intro i hn hi h
  by_cases hj:i < a.size
  ·rw [gK,dif_pos hj] at h;rw [gK,dif_pos (by rw [ByteArray.size_append];omega)]
   by_cases hd:(fB a i).2.2=true
   ·rw [dif_pos hd] at h;have hs:=(Am a i hj).2 hd;rw [dif_pos (by rw [Nq hj hd];exact hd),Nq hj hd];exact ih _ V (i+(fB a i).2.1) O hs.2 h
   rw [dif_neg hd] at h;omega
  obtain rfl:i=a.size:=by omega
  exact WM a b b.size 0 O hb
theorem Gd {a b:ByteArray} (ha:fJ a=true) (hb:fJ b=true):fJ (a++b)=true:=by
 unfold fJ at *
 exact decide_eq_true (WK a b (tY hb) a.size 0 O (dU _) (tY ha))
theorem Nh (a b:ByteArray):∀ (n j:Nat),b.size - j=n->kD (a++b) (a.size+j)=kD b j
 | 0,j,h=>by
  rw [kD.eq_def (a++b),kD.eq_def b,aJ (show ¬ a.size+j < (a++b).size by rw [ByteArray.size_append];omega),aJ (show ¬ j < b.size by omega)]
 | n+1,j,h=>by
  have ih:=Nh a b n (j+1) V;rw [kD.eq_def (a++b),kD.eq_def b,aM (show a.size+j < (a++b).size by rw [ByteArray.size_append];omega),aM (show j < b.size by omega),GX,Nat.add_assoc,ih]
theorem Ng (a b:ByteArray):∀ (n i:Nat),a.size - i=n->i<=a.size->kD (a++b) i=kD a i+kD b 0
 | 0,i,h,hi=>by
  obtain rfl:i=a.size:=by omega
  rw [kD.eq_def a a.size,aJ (Nat.lt_irrefl _),fC];exact Nh a b b.size 0 rfl
 | n+1,i,h,hi=>by
  have ih:=Ng a b n (i+1) V V;rw [kD.eq_def (a++b),kD.eq_def a i,aM (show i < (a++b).size by rw [ByteArray.size_append];omega),aM (show i < a.size by omega),GV (show i < a.size by omega),ih,Nat.add_assoc]
theorem UJ {a b:ByteArray} (ha:fJ a=true) (hb:fJ b=true):ng (a++b)=ng a+ng b:=by
 unfold ng
 rw [aM ha,aM hb,aM (Gd ha hb)];exact Ng a b a.size 0 O (dU _)
theorem EB:gQ prog 34 0 0:=⟨Z⟩
theorem EC:gQ prog 34 3 3:=⟨Z⟩
theorem VX:bX 71:=cu func71 O
theorem jZ:prog.underlying 32=some (.slice 34):=by kernel_rfl
theorem jq:Ty prog 34 11 176 [.int .i64 0,.int .i64 0,.int .i64 0,.string ⟨#[]⟩,.slice none 0 0,.int .i64 0,.int .i64 0,.slice none 0 0,.slice none 0 0,.slice none 0 0,.slice none 0 0] true:=⟨Z,Z⟩
theorem VL:bX 62:=cu func62 O
def yJ (x:aS):Nat:=if x.kind=1 then ng x.text else 1
def yI (x:aS):Int:=if x.kind=1 then BH x.text else 0
theorem acD (G:GH) (w0:World) (hG:Hold G w0) (x:aS) (i2 i3:Int) (p i5 i6 d l f r:av) (hs:x.text.size < 4611686018427387904) :
  Calls prog 62 #[.agg #[vi x.kind,vi i2,vi i3,.string x.text,p,i5,i6,d,l,f,r]] w0 (cO w0 G fun v G'=>v=.tuple #[vi (yJ x),vi (yI x)]∧G=G'):=by
 refine eN [(0,_)] func62 O ntmps62 O O hG ?_;intro a H;refine jL (fun _ K1=>?_);refine oo (cs:=[_,_,_,_,_,_,_,_,_,_,_]) H wn O O O ?_;clear H;intro b1 a w hb1 H;refine kH H (Ra O (aB K1 O (SQ fun _ K2=>SR fun _ K3=>gH EB aF 0 O O (Rc O (Kz K3 (Cd O ?_ ?_)))))) <;> clear H K1 K3
 ·intro h6 a H
  try have p6:=dT h6
  refine kP H (SR fun _ K4=>Ra O (aB K4 O ?_));clear H K4;intro a H;refine aV ?_;refine (aY H results62 (.cons (aD H O) (.cons (aD H O) .nil)) ?_).1;exact H.rt ⟨by simp only [yJ,yI,aJ p6];rfl,rfl⟩
 intro h6 a H
 try have p6:=dF h6
 refine kP H (Kc K2 (SR fun _ K5=>gH EC jQ 0 O O ?_));clear H K2;intro a H;refine s_call VX H wn O (UU _ _ H.ro _ hs) O ?_;clear H;rintro v9 _ a w ⟨rfl,rfl⟩ - H;(iterate 2 refine fZ H wn O O O ?_;clear H;intro a H);refine kH H (Ra O (aB K5 O ?_));clear H K5;intro a H;refine aV ?_;refine (aY H results62 (.cons (aD H O) (.cons (aD H O) .nil)) ?_).1;exact H.rt ⟨by rw [Af] at p6;simp only [yJ,yI,aM p6],O⟩
def sI (l:List aS):Bool:=l.all fun x=>decide (yI x=0)
def qw:List aS->Nat
 | []=>0
 | x :: l=>yJ x+qw l
def JE (l:List aS):Int:=if sI l then qw l else 0
def wM (l:List aS):Int:=if sI l then 0 else 12
def pI:List aS->Nat
 | []=>0
 | x :: l=>x.text.size+1+pI l
theorem Rj:∀ l:List aS,qw l<=pI l
 | []=>bD _
 | x :: l=>by
  have:=Rj l;have h2:=UK x.text
  simp only [qw,pI,yJ];split <;> omega
theorem RP {x:aS}:∀ {l:List aS},x∈l->x.text.size < pI l
 | [],h=>by cases h
 | y :: l,h=>by
  simp only [pI]
  rcases oL.1 h with rfl|h
  ·omega
  have:=RP h;omega
theorem abP (l m:List aS):qw (l++m)=qw l+qw m:=by
 induction l with
 | nil=>simp [qw]
 | cons x l ih=>simp [qw,ih];omega
theorem abQ {l:List aS} {k:Nat} (h:k < l.length):qw (l.take (k+1))=qw (l.take k)+yJ l[k]:=by
 rw [lZ h,abP];simp [qw]
theorem acy (l m:List aS):pI (l++m)=pI l+pI m:=by
 induction l with
 | nil=>simp [pI]
 | cons x l ih=>simp [pI,ih];omega
theorem acz (l:List aS) (k:Nat):pI (l.take k)<=pI l:=by
 have:=acy (l.take k) (l.drop k);rw [List.take_append_drop] at this;omega
theorem EG {G:GH} {l:List aS} {A:Option Addr} {k:Nat} (hk:k < l.length) (hg:∀ k r,(l.map aS.dat)[k]?=some r->∃ b o cs,A=some ⟨b,o,none⟩∧cs.length=11∧(∀ j u,cs[j]?=some u->aR G b (o+k*11+j)=some u)∧aZ G r cs) :
  ∃ b o pA pn pc dA dn dc yA yn yc fA fn fc rA rn rc,A=some ⟨b,o,none⟩∧(∀ j u,[vi l[k].kind,vi l[k].code,vi l[k].id,.string l[k].text,.slice pA pn pc,vi l[k].head.marks.ins,vi l[k].head.marks.move,.slice dA dn dc,.slice yA yn yc,.slice fA fn fc,.slice rA rn rc][j]?=some u->aR G b (o+k*11+j)=some u) ∧
   rW G l[k].head (.slice pA pn pc) (.slice dA dn dc) (.slice yA yn yc)∧aC G (.sl 11 (l[k].flow.map aS.dat)) (.slice fA fn fc)∧aC G (.sl 6 (l[k].rows.map bV.dat)) (.slice rA rn rc):=by
 obtain ⟨b,o,cs,h1,h2,h3,h4⟩:=hg k l[k].dat (by simp [hk]);obtain ⟨pA,pn,pc,dA,dn,dc,yA,yn,yc,fA,fn,fc,rA,rn,rc,rfl,h5,h6,h7⟩:=h4.item;exact ⟨b,o,pA,pn,pc,dA,dn,dc,yA,yn,yc,fA,fn,fc,rA,rn,rc,h1,h3,h5,h6,h7⟩
theorem U5 {l:List aS} {k:Nat} (h:k < l.length):sI (l.take (k+1))=(sI (l.take k) && decide (yI l[k]=0)):=by
 unfold sI
 rw [lZ h,List.all_append];simp
theorem U4 {l:List aS} {k:Nat} (h:k < l.length) (hn:¬ yI l[k]=0):sI l=false:=by
 unfold sI
 rw [List.all_eq_false];exact ⟨l[k],dV h,by simpa using hn⟩
theorem Pw:∀ l:List aS,l.length<=pI l
 | []=>bD _
 | x :: l=>by have:=Pw l;simp only [kI,pI];omega
theorem RO:∀ l:List aS,pI l<=gZ l
 | []=>bD _
 | x :: l=>by
  have:=RO l;have h2:=zW x
  simp only [pI,gZ,iT,jl] at *;omega
theorem Zt (G:GH) (w0:World) (hG:Hold G w0) (l:List aS) (v:av) (hv:aC G (.sl 11 (l.map aS.dat)) v) (hz:gZ l<=4294967296) :
  Calls prog 48 #[v] w0 (cO w0 G fun v G'=>v=.tuple #[vi (JE l),vi (wM l)]∧G=G'):=by
 obtain ⟨A,c,rfl,hc1,hc2,hg⟩:=hv.slice;rw [bN] at *;have hll:=Pw l;have htz:=RO l;refine eN [(0,_)] func48 O ntmps48 O O hG ?_;intro a H;refine kP H (SR fun _ K1=>Ra O (aB K1 O (SR fun _ K2=>aB K2 O (SQ fun _ K3=>SR fun _ K4=>Rm O (Rl jZ O (Rm O (Kz K4 (SB ?_))))))));clear H K1 K2 K4;intro a H;skip;refine eG (ι:=Nat) (Tc:=[(9,_),(10,_)]) (Lc:=[]) (fun gh=>[(4,vi (qw (l.take gh))),(11,vi gh)]) (fun gh=>[]) (fun gh=>G) (fun gh=>gh<=l.length∧sI (l.take gh)=true) (fun gh=>l.length - gh) (0) (by exact H.sub ⟨O,O,O,O,aL⟩) ?_ ?_
 ·exact ⟨V,by simp [sI]⟩
 clear H;intro k a w hI H;obtain ⟨hk,hd⟩:=hI;dsimp only [lca,dB] at H;refine kP H (SR fun _ K5=>Rc O (Kz K5 (SQ fun _ K6=>Cd O ?_ ?_))) <;> clear H K5
 ·intro h12 a H
  try have vJ:=dT h12
  have hk2:k < l.length:=by omega
  obtain ⟨b,o,pA,pn,pc,dA,dn,dc,yA,yn,yc,fA,fn,fc,rA,rn,rc,rfl,hrow,-⟩:=EG hk2 hg;have hsm:=abQ hk2;have hle:=Rj (l.take (k+1));have hle2:=acz l (k+1);refine kP H (Kc K6 (SQ fun _ K7=>SB (SR fun _ K8=>Ri jZ jq O O ?_)));clear H K6;intro a H;refine dX jq (cs:=[_,_,_,_,_,_,_,_,_,_,_]) H wn O O (fun j v hj=>H.hp.aR (hrow j v hj)) O ?_;clear H;intro a H;refine kE jq H wn O ?_;clear H;intro b6 a w hb6 H;refine eO jq 0 (vs:=[_,_,_,_,_,_,_,_,_,_,_]) H wn O ?_;clear H;intro w H;refine K8 _ _ ?_;clear K8;refine jL (fun _ K9=>?_);refine dX jq (cs:=[_,_,_,_,_,_,_,_,_,_,_]) H wn O O (H.hp.dG 0 O O) O ?_;clear H;intro a H;refine s_call VL H wn O (acD _ _ H.ro _ _ _ _ _ _ _ _ _ _ (by have:=RP (dV hk2);omega)) rfl ?_;clear H;rintro v17 _ a w ⟨rfl,rfl⟩ - H;refine kH H (Rm O ?_);clear H;intro a H;(iterate 2 refine fZ H wn O O O ?_;clear H;intro a H);refine kH H (Ra O (aB K9 O (SQ fun _ aP=>SR fun _ bH=>Rm O (Rc O (Kz bH (Cd O ?_ ?_)))))) <;> clear H K9 bH
  ·intro h21 a H
   try have mD:=dT h21
   refine kP H (SR fun _ bL=>Ra O (aB bL O ?_));clear H bL;intro a H;refine aV ?_;refine (aY H results48 (.cons (aD H O) (.cons (aD H O) .nil)) ?_).1;exact H.rt ⟨by simp [JE,wM,U4 hk2 mD],O⟩
  intro h21 a H
  try have mD:=dF h21
  refine kP H (Kc aP (SC (Rm O (Rm O (Rd O ?_)))));clear H aP;intro a H;rw [<- Int.natCast_add,<- hsm] at H;refine kH H (bS K7 O (SC (Rd O (Rm O ?_))));clear H K7;intro a H;refine aj ?_;refine bg ((k+1)) (by exact (H.dR (Pl:=[_]) (dx:=[]) [] Y O).sub ⟨O,O,O,O,aL⟩) ?_
  exact ⟨V,by rw [U5 hk2,hd];simpa using mD⟩
 intro h12 a H
 try have vJ:=dF h12
 refine dD ?_;refine K3 _ _ ?_;clear K3;refine kP H (SR fun _ bI=>Rm O (Ra O (aB bI O ?_)));clear H bI;intro a H;refine aV ?_;refine (aY H results48 (.cons (aD H O) (.cons (aD H O) .nil)) ?_).1;exact H.rt ⟨by rw [show l.take k=l from iU V] at hd |-;simp [JE,wM,hd],O⟩
def mY (x:aS):ByteArray :=
 if x.kind=2 then ⟨#[10]⟩ else if x.kind=3 then ⟨#[29]⟩ else if x.kind=5∨x.kind=6∨x.kind=7∨x.kind=8 then ⟨#[239,191,188]⟩
 else if x.kind=4∧x.code=1 then ⟨#[11]⟩ else if x.kind=4∧x.code=2 then ⟨#[12]⟩ else if x.kind=4∧x.code=3 then ⟨#[9]⟩ else ⟨#[239,191,189]⟩
def oP (x:aS):ByteArray:=if x.kind=1 then x.text else mY x
theorem Fu {s:ByteArray} {c:Int} {n:Nat} (hz:s.size=n) (hn:0 < n) (hd:fB s 0=(c,n,true)) (hc:¬ nS .and .u8 (gy s 0) 192=128) (hr:∀ j,0 < j->j < n->nS .and .u8 (gy s j) 192=128):fJ s=true∧ng s=1:=by
 have hv:fJ s=true:=by
  unfold fJ
  rw [gK,dif_pos V,dif_pos (by rw [hd]),hd,gK,dif_neg (by dsimp only;omega)]
  rfl
 refine ⟨hv,?_⟩
 have h0:∀ m j,n - j=m->0 < j->kD s j=0:=by
  intro m
  induction m with
  | zero=>intro j h1 h2;rw [kD,aX]
  | succ m ih =>
   intro j h1 h2;have h3:=ih (j+1) V V;rw [kD.eq_def,aM (show j < s.size by omega),aM (hr j h2 V),h3]
 unfold ng
 rw [aM hv,kD.eq_def,aM (show 0 < s.size by omega),aJ hc,h0 _ 1 rfl Y]
theorem Rx {P:Nat->Prop} (h1:P 1) (h2:P 2):∀ j,0 < j->j < 3->P j
 | 1,_,_=>h1
 | 2,_,_=>h2
 | 0,h,_=>absurd h Y
 | _+3,_,h=>by omega
theorem Nu:fJ ⟨#[]⟩=true∧ng ⟨#[]⟩=0:=by
 have hv:fJ ⟨#[]⟩=true:=by unfold fJ;rw [gK,dif_neg Y];rfl
 exact ⟨hv,by unfold ng;rw [aM hv,kD,aJ Y]⟩
theorem MS (x:aS):(fJ (mY x)=true∧ng (mY x)=1)∧(mY x).size<=3∧(mY x).size≠0:=by
 have o1:∀ b:UInt8,fB ⟨#[b]⟩ 0=((b.toNat:Int),1,true)->¬ nS .and .u8 (gy ⟨#[b]⟩ 0) 192=128->(fJ ⟨#[b]⟩=true∧ng ⟨#[b]⟩=1)∧(⟨#[b]⟩:ByteArray).size<=3∧(⟨#[b]⟩:ByteArray).size≠0:=fun b h1 h2=>⟨Fu (n:=1) O Y h1 h2 fun j h3 h4=>by omega,by show 1<=3;decide,by show 1≠0;decide⟩
 unfold mY
 split
 ·exact o1 10 Y Y
 split
 ·exact o1 29 Y Y
 split
 ·exact ⟨Fu (c:=65532) (n:=3) O Y Y Y (Rx Y Y),Y,Y⟩
 split
 ·exact o1 11 Y Y
 split
 ·exact o1 12 Y Y
 split
 ·exact o1 9 Y Y
 exact ⟨Fu (c:=65533) (n:=3) O Y Y Y (Rx Y Y),Y,Y⟩
theorem Ux {x:aS} (h:x.kind=1->fJ x.text=true):fJ (oP x)=true∧ng (oP x)=yJ x:=by
 unfold oP yJ
 by_cases h1:x.kind=1
 ·rw [aM h1,aM h1];exact ⟨h h1,O⟩
 rw [aJ h1,aJ h1];exact (MS x).1
def gY (l:List aS):List UInt8:=l.flatMap fun x=>(oP x).data.toList
theorem acv (x:aS) (l:List aS):(⟨(gY (x :: l)).toArray⟩:ByteArray)=oP x++⟨(gY l).toArray⟩:=by
 apply ByteArray.ext
 simp [gY]
theorem KJ:∀ {l:List aS},(∀ x∈l,x.kind=1->fJ x.text=true)->fJ ⟨(gY l).toArray⟩=true∧ng ⟨(gY l).toArray⟩=qw l
 | [],_=>Nu
 | x :: l,h=>by
  obtain ⟨h3,h4⟩:=Ux (h x (qH ..));obtain ⟨h5,h6⟩:=KJ fun y hy=>h y (List.mem_cons_of_mem _ hy);rw [acv];exact ⟨Gd h3 h5,by rw [UJ h3 h5,h4,h6,qw]⟩
theorem acw {l:List aS} {k:Nat} (hk:k < l.length):gY (l.take (k+1))=gY (l.take k)++(oP l[k]).data.toList:=by
 rw [lZ hk];simp only [gY,List.flatMap_append,List.flatMap_cons,List.flatMap_nil,mg]
theorem Uw (x:aS):(oP x).data.toList.length<=iC x.dat:=by
 have h2:=zW x;have h3:(oP x).data.toList.length=(oP x).size:=Array.length_toList;have h4:=(MS x).2.1;rw [h3]
 unfold oP
 split <;> omega
theorem DR:∀ l:List aS,(gY l).length<=gZ l
 | []=>bD _
 | x :: l=>by
  have:=DR l;have h2:=Uw x
  simp only [gY,List.flatMap_cons,iK,gZ,iT,jl] at *;omega
theorem Kg:zZ prog 87:=⟨Z⟩
theorem u8B:U8 prog 5:=⟨Z⟩
theorem Zu:liesAt prog prog.depth 87 (2 / prog.cellsOf 87) 0 87 1=true:=by kernel_rfl
theorem Uv:prog.cellsOf 5=1:=by kernel_rfl
theorem ZP (v:av) (w:World):(callFunc 58 #[v]).run prog w=.ok (.value v) w:=aas func58 Z Z Z Z v w
theorem DW:prog.underlying 84=some (.pointer 87):=by kernel_rfl
theorem R5:prog.underlying 132=some .unsafePointer:=by kernel_rfl
theorem EF:gQ prog 87 0 0:=⟨Z⟩
theorem F7:Ty prog 84 1 8 [.pointer none] false:=⟨Z,Z⟩
theorem Vx:bX 45:=cu func45 O
theorem AA:gQ prog 87 1 1:=⟨Z⟩
abbrev bB (b:Nat) (p v:av):Nat × Obj:=(b,.cells #[p,v] 87 (0,0))
theorem UO (G:GH) (L:OL) (w0:World) (b:Nat) (A:Option Addr) (n c:Nat) (hO:jS G (bB b (.pointer none) (.slice A n c) :: L) w0) :
  Calls prog 45 #[(aH b 0)] w0 (jT w0 G (bB b (.pointer none) (.slice A n c) :: L) fun u G' L'=>L'=bB b (aH b 0) (.slice A n c) :: L∧G'=G):=by
 refine nU (N:=20) (T:=[(0,_)]) func45 O ntmps45 O O hO ?_;intro a H;refine kP H (SR fun _ K1=>Rm O (Rk O (gH EF F7 0 O O ?_)));clear H;intro a H;refine QD DW H wn O O ?_;clear H;intro a H;refine K1 _ _ ?_;clear K1;refine vk H O ?_ ?_
 ·intro h6
  refine kP H (SC (Rm O (Rm O ?_)));clear H;intro a H;refine abe DW R5 Kg H wn O 0 O O O ?_;clear H;intro a H;refine aaR (xs:=[.tmp 9]) (ZP _) H wn O O ?_;clear H;intro a H;refine aaH R5 DW Kg H wn O 0 O Zu O ?_;clear H;intro a H;refine kH H (Rk O (Rf EF O ?_));clear H;intro a H;refine eO F7 0 (vs:=[_]) H wn O ?_;clear H;intro w H;refine aj ?_;refine (leave0 H results45 ?_).2;exact H.hp.dO ⟨O,O⟩
 intro h6
 exact absurd h6 Y
theorem UQ (G:GH) (L:OL) (w0:World) (b:Nat) (A:Option Addr) (n c:Nat) (hO:jS G (bB b (aH b 0) (.slice A n c) :: L) w0) :
  Calls prog 45 #[(aH b 0)] w0 (jT w0 G (bB b (aH b 0) (.slice A n c) :: L) fun u G' L'=>L'=bB b (aH b 0) (.slice A n c) :: L∧G'=G):=by
 refine nU (N:=20) (T:=[(0,_)]) func45 O ntmps45 O O hO ?_;intro a H;refine kP H (SR fun _ K1=>Rm O (Rk O (gH EF F7 0 O O ?_)));clear H;intro a H;refine QD DW H wn O O ?_;clear H;intro a H;refine K1 _ _ ?_;clear K1;refine vk H O ?_ ?_
 ·intro h6
  exact absurd h6 (by simp)
 intro h6
 refine kP H (SR fun _ K2=>Rm O (Rk O (gH EF F7 0 O O (Rm O ?_))));clear H;intro a H;refine aaO DW Kg H wn O O O ?_;clear H;intro a H;refine K2 _ _ ?_;clear K2;refine vk H O ?_ ?_
 ·intro h19
  exact absurd h19 Y
 intro h19
 refine mh ?_;refine (leave0 H results45 ?_).2;exact H.hp.dO ⟨O,O⟩
theorem UR (G:GH) (L:OL) (w0:World) (b:Nat) (p:av) (A:Option Addr) (n c:Nat) (hp:p=.pointer none∨p=(aH b 0)) (hO:jS G (bB b p (.slice A n c) :: L) w0) :
  Calls prog 45 #[(aH b 0)] w0 (jT w0 G (bB b p (.slice A n c) :: L) fun u G' L'=>L'=bB b (aH b 0) (.slice A n c) :: L∧G'=G):=by
 rcases hp with rfl|rfl
 ·exact UO G L w0 b A n c hO
 exact UQ G L w0 b A n c hO
theorem Le (G:GH) (Lo:OL) (w0:World) (b:Nat) (p v:av) (n:Nat) (xs:List av) (s:ByteArray) (hp:p=.pointer none∨p=(aH b 0)) (hO:jS G (bB b p v :: Lo) w0) (hrow:bP 5 1 v n xs Lo) (hn:n+s.size<=140737488355328) :
  Calls prog 34 #[(aH b 0),.string s] w0 (jT w0 G (bB b p v :: Lo) fun u G' L'=>∃ v' kG,L'=bB b (aH b 0) v' :: kG∧bP 5 1 v' (n+s.size) (xs++Lib.strCells s) kG∧G'=G∧(v=.slice none 0 0->s.size=0->v'=.slice none 0 0)):=by
 obtain ⟨A,c,rfl,-,-⟩:=hrow.shape;refine nU (N:=19) (T:=[(0,_),(1,_)]) func34 O ntmps34 O O hO ?_;intro a H;refine kP H (SR fun _ K1=>Ra O (aB K1 O (SR fun _ K2=>Rm O ?_)));clear H K1;intro a H;refine jH Vx (Li:=[]) (L:=bB b p _ :: Lo) H wn O (UR _ _ _ b p A n c hp (Hp.owns (Li:=[]) H.hp)) O ?_;clear H;rintro v7 _ L7 a w ⟨rfl,rfl⟩ vG H;dsimp only [List.nil_append] at H;refine K2 _ _ ?_;clear K2;refine kP H (SR fun _ K3=>Rm O (Rm O (Rk O (gH AA vQ 0 O O (Rm O ?_)))));clear H;intro a H;refine aaC (Li:=[_]) (Lo:=Lo) wX jA u8B H wn O O hrow hn O ?_;clear H;intro v14 adv a w OP Yp H;obtain ⟨A14,c14,rfl,-,-⟩:=OP.shape;refine kH H (Rk O (Rf AA O ?_));clear H;intro a H;refine eO vQ 0 (vs:=[_]) H wn O ?_;clear H;intro w H;refine K3 _ _ ?_;clear K3;refine kP H (SR fun _ K4=>Rm O (Rv jA O (Ra O (aB K4 O ?_))));clear H K4;intro a H;refine aV ?_;refine (aY H results34 (.cons (aD H O) (.cons (aD H O) .nil)) ?_).1;exact H.hp.dO ⟨_,_,O,OP,O,Yp⟩
theorem acZ (G:GH) (Lo:OL) (w0:World) (b:Nat) (p v:av) (n:Nat) (xs:List av) (s:ByteArray) (hp:p=.pointer none∨p=(aH b 0)) (hO:jS G (bB b p v :: Lo) w0) (hrow:bP 5 1 v n xs Lo) (hn:n+s.size<=140737488355328) :
  Calls prog 34 #[(aH b 0),.string s] w0 (jT w0 G (bB b p v :: Lo) fun u G' L'=>∃ v' kG,L'=bB b (aH b 0) v' :: kG∧bP 5 1 v' (n+s.size) (xs++Lib.strCells s) kG∧G'=G):=by
 refine Calls.mono (Le G Lo w0 b p v n xs s hp hO hrow hn) ?_;rintro e w' ⟨u,G',L',he,hc,v',kG,h1,h2,h3,-⟩;exact ⟨u,G',L',he,hc,v',kG,h1,h2,h3⟩
theorem abO (G:GH) (Lo:OL) (w0:World) (b:Nat) (p v:av) (l:List UInt8) (hO:jS G (bB b p v :: Lo) w0) (hrow:bP 5 1 v l.length (Lib.byteCells l) Lo) (h0:l≠[]) :
  Calls prog 35 #[(aH b 0)] w0 (jT w0 G (bB b p v :: Lo) fun u G' L'=>u=.string ⟨l.toArray⟩):=by
 rcases hrow.2 with ⟨-,h,-⟩|⟨b2,cap,cur,rfl,rfl,hc1,hc2,hc3,hc4⟩
 ·exact absurd (List.eq_nil_of_length_eq_zero h) h0
 have hl0:l.length≠0:=fun h=>h0 (List.eq_nil_of_length_eq_zero h);have hml:maxLen=9223372036854775807:=rfl;refine nU (N:=14) (T:=[(0,_)]) func35 O ntmps35 O O hO ?_;intro a H;refine kP H (SR fun _ K1=>aB K1 O (SQ fun _ K2=>?_));clear H K1;intro a H;have H:=H.sub (T':=[(0,_)]) ⟨O,aL⟩;refine dI gG [[],[0],[0,1],[0,1,2],ra 0 4,[],[5],[5,6],[5,6,7],ra 5 4,ra 0 10,ra 0 11] [10,11] Z [_,_,_,.slice (some ⟨b2,0,none⟩) l.length cap,(aH b2 0),_,_,_,.slice (some ⟨b2,0,none⟩) l.length cap,_] H (aI (Z0 O (Rm O)) (Z1 0 3 O (Rk O)) (Z1 1 4 O (Rf AA O)) (Z1 2 5 O (Ro vQ 0 O)) (aI ?_ (Z0 O (Rm O)) (Z1 5 8 O (Rk O)) (Z1 6 9 O (Rf AA O)) (aI (Z1 7 10 O (Ro vQ 0 O)) (Z1 8 11 O (Rl wX O)) (gB O) (gB O) fQ))) ?_
 ·refine Eb 3 6 O O fun _ a w G1 hG HT H fin=>?_;refine aaX H wn O V O ?_;clear H;intro a H;exact fin H iJ O
 clear H;intro a w G IC H hv;have H:=H.ak (hv 4 7 O O) O;have H:=H.ak (hv 9 12 O O) O;clear hv;refine QL (i:=1) l RZ Uv h0 V H wn O O O (by rw [<- hc4,Nat.mul_one]) O ?_;clear H;intro fz a w H;dsimp only [List.set] at H;refine kH H (Ra O ?_);clear H;intro a H;refine aj ⟨O,?_⟩;refine K2 _ _ ?_;clear K2;refine lr H results35 O ?_;exact H.hp.dO O
section
section
variable {N:Nat} {D:List Deferred} {w0:World} {F:Nat->Prop} {G0 G:GH} {L:OL} {T:List (Nat × av)}
variable {r:Option Nat} {P:Program} {ops:Array Oper} {Q:Exit->Act->World->Prop} {rest:List Oper} {a:Act} {w:World}
variable {d:Nat} {ty:TypeId} {pos:String} {aG:Array Edge} {g:Option (Nat × Bool)}
theorem aaY {t:TypeId} {x:Operand} {n c:Nat} (H:St N D w0 F G0 G L T a w) (hw:Region.wanted ⟨some d,.call { callee:=.builtin .unsafeSliceData,args:=#[x],argTypes:=#[t] },ty,pos,aG,g⟩ (yielded ops a.tmps)=true) (hx:ev T x=some (.slice none n c)) (hd:Nat.blt d N=true)
  (k:∀ a',St N D w0 F G0 G L ((d,.pointer none) :: T) a' w->WL r P ops Q rest a' w):WL r P ops Q (⟨some d,.call { callee:=.builtin .unsafeSliceData,args:=#[x],argTypes:=#[t] },ty,pos,aG,g⟩ :: rest) a w:=by
 refine dQ (v:=.pointer none) (w':=w) hw O ?_ (k _ (H.put hd _ H.hp))
 have h:=Lib.run_unsafeSliceData_nil (P:=P) (w:=w) #[t] ty n c
 simp [execOp,resolve,invoke,builtin,H.ev hx,bZ,h]
theorem abf {pt it:TypeId} {x y:Operand} {p:Option Addr} (H:St N D w0 F G0 G L T a w)
  (hw:Region.wanted ⟨some d,.call { callee:=.builtin .unsafeString,args:=#[x,y],argTypes:=#[pt,it] },ty,pos,aG,g⟩ (yielded ops a.tmps)=true) (hx:ev T x=some (.pointer p)) (hy:ev T y=some (.int .i64 0)) (hd:Nat.blt d N=true)
  (k:∀ a',St N D w0 F G0 G L ((d,.string ⟨#[]⟩) :: T) a' w->WL r P ops Q rest a' w):WL r P ops Q (⟨some d,.call { callee:=.builtin .unsafeString,args:=#[x,y],argTypes:=#[pt,it] },ty,pos,aG,g⟩ :: rest) a w:=by
 have h:=Lib.run_unsafeString_none (P:=P) (w:=w) pt it ty p
 refine dQ (v:=.string ⟨#[]⟩) (w':=w) hw O ?_ (k _ (H.put hd _ H.hp))
 simp [execOp,resolve,invoke,builtin,H.ev hx,H.ev hy,bZ,h]
 rfl
end
end
theorem GY (a b:List UInt8):Lib.byteCells (a++b)=Lib.byteCells a++Lib.byteCells b:=by simp [Lib.byteCells]
theorem abL (G:GH) (Lo:OL) (w0:World) (b:Nat) (p:av) (hO:jS G (bB b p (.slice none 0 0) :: Lo) w0) :
  Calls prog 35 #[(aH b 0)] w0 (jT w0 G (bB b p (.slice none 0 0) :: Lo) fun u G' L'=>u=.string ⟨#[]⟩):=by
 refine nU (N:=14) (T:=[(0,_)]) func35 O ntmps35 O O hO ?_;intro a H;refine kP H (SR fun _ K1=>aB K1 O (SQ fun _ K2=>?_));clear H K1;intro a H;have H:=H.sub (T':=[(0,_)]) ⟨O,aL⟩;refine dI gG [[],[0],[0,1],[0,1,2],ra 0 4,[],[5],[5,6],[5,6,7],ra 5 4,ra 0 10,ra 0 11] [11] Z [_,_,_,.slice none 0 0,.pointer none,_,_,_,.slice none 0 0,_,.string ⟨#[]⟩] H (aI (Z0 O (Rm O)) (Z1 0 3 O (Rk O)) (Z1 1 4 O (Rf AA O)) (Z1 2 5 O (Ro vQ 0 O)) (aI ?_ (Z0 O (Rm O)) (Z1 5 8 O (Rk O)) (Z1 6 9 O (Rf AA O)) (aI (Z1 7 10 O (Ro vQ 0 O)) (Z1 8 11 O (Rl wX O)) ?_ (gB O) fQ))) ?_
 ·refine Eb 3 6 O O fun _ a w G1 hG HT H fin=>?_;refine aaY H wn O O ?_;clear H;intro a H;exact fin H iJ O
 ·refine Me 4 7 9 12 O O fun _ a w G1 hG HT H fin=>?_;refine abf H wn O O O ?_;clear H;intro a H;exact fin H iJ O
 clear H;intro a w G IC H hv;have H:=H.ak (hv 10 13 O O) O;clear hv;refine kH H (Ra O ?_);clear H;intro a H;refine aj ⟨O,?_⟩;refine K2 _ _ ?_;clear K2;refine lr H results35 O ?_;exact H.hp.dO O
theorem Q9 (G:GH) (Lo:OL) (w0:World) (b:Nat) (p v:av) (l:List UInt8) (hO:jS G (bB b p v :: Lo) w0) (hrow:bP 5 1 v l.length (Lib.byteCells l) Lo) (h0:l=[]->v=.slice none 0 0) :
  Calls prog 35 #[(aH b 0)] w0 (jT w0 G (bB b p v :: Lo) fun u G' L'=>u=.string ⟨l.toArray⟩):=by
 by_cases h:l=[]
 ·obtain rfl:=h0 h;subst h;exact abL G Lo w0 b p hO
 exact abO G Lo w0 b p v l hO hrow h
theorem WI:gQ prog 34 1 1:=⟨Z⟩
theorem HV:bX 34:=cu func34 O
theorem NI:bX 35:=cu func35 O
theorem RS:Ty prog 87 2 32 [.pointer none,.slice none 0 0] true:=⟨Z,Z⟩
theorem Vs:bX 39:=cu func39 O
theorem Uy (G:GH) (w0:World) (hG:Hold G w0) (x:aS) (cs:List av) (hv:aZ G x.dat cs) :
  Calls prog 39 #[.agg cs.toArray] w0 (cO w0 G fun u G'=>u=.string (mY x)):=by
 obtain ⟨pA,pn,pc,dA,dn,dc,yA,yn,yc,fA,fn,fc,rA,rn,rc,rfl,-⟩:=hv.item;refine eN [(0,_)] func39 O ntmps39 O O hG ?_;intro a H;refine jL (fun _ K1=>?_);refine oo (cs:=[_,_,_,_,_,_,_,_,_,_,_]) H wn O O O ?_;clear H;intro b1 a w hb1 H;refine kH H (aB K1 O (SQ fun _ K2=>SR fun _ K3=>gH EB aF 0 O O (Kz K3 (SB (SR fun _ K4=>Rc O (aB K4 O (Cd O ?_ ?_))))))) <;> clear H K1 K3 K4
 ·intro h5 a H
  try have p5:=dT h5
  refine kP H (SR fun _ K5=>aB K5 O ?_);clear H K5;intro a H;refine lr H results39 O ?_
  exact H.rt (jD Value.string (by
   unfold mY
   repeat (first|rw [dJ]|rw [aX])))
 intro h5 a H
 try have p5:=dF h5
 refine kP H (SR fun _ K6=>Rc O (aB K6 O (Cd O ?_ ?_))) <;> clear H K6
 ·intro h7 a H
  try have p7:=dT h7
  refine kP H (SR fun _ K7=>aB K7 O ?_);clear H K7;intro a H;refine lr H results39 O ?_
  exact H.rt (jD Value.string (by
   unfold mY
   repeat (first|rw [dJ]|rw [aX])))
 intro h7 a H
 try have p7:=dF h7
 refine kP H (SQ fun _ K8=>SR fun _ K9=>Rc O (aB K9 O (Cd O ?_ ?_))) <;> clear H K9
 ·intro h9 a H
  try have p9:=dT h9
  refine kP H (Kc K8 (Ct O h9 (SR fun _ aP=>aB aP O ?_)));clear H K8 aP;intro a H;refine lr H results39 O ?_
  exact H.rt (jD Value.string (by
   unfold mY
   repeat (first|rw [dJ]|rw [aX])))
 intro h9 a H
 try have p9:=dF h9
 refine kP H (SR fun _ bH=>Rc O (aB bH O (Cd O ?_ ?_))) <;> clear H bH
 ·intro h9 a H
  try have p9:=dT h9
  refine kP H (Kc K8 (Ct O h9 (SR fun _ bL=>aB bL O ?_)));clear H K8 bL;intro a H;refine lr H results39 O ?_
  exact H.rt (jD Value.string (by
   unfold mY
   repeat (first|rw [dJ]|rw [aX])))
 intro h9 a H
 try have p9:=dF h9
 refine kP H (SR fun _ bI=>Rc O (aB bI O (Cd O ?_ ?_))) <;> clear H bI
 ·intro h9 a H
  try have p9:=dT h9
  refine kP H (Kc K8 (Ct O h9 (SR fun _ cB=>aB cB O ?_)));clear H K8 cB;intro a H;refine lr H results39 O ?_
  exact H.rt (jD Value.string (by
   unfold mY
   repeat (first|rw [dJ]|rw [aX])))
 intro h9 a H
 try have p9:=dF h9
 refine kP H (SC (Rc O (bS K8 O (Cd O ?_ ?_)))) <;> clear H K8
 ·intro h9 a H
  try have p9:=dT h9
  refine kP H (SR fun _ dw=>aB dw O ?_);clear H dw;intro a H;refine lr H results39 O ?_
  exact H.rt (jD Value.string (by
   unfold mY
   repeat (first|rw [dJ]|rw [aX])))
 intro h9 a H
 try have p9:=dF h9
 refine kP H (SR fun _ dN=>Rc O (aB dN O (Cd O ?_ ?_))) <;> clear H dN
 ·intro fF a H
  try have jY:=dT fF
  refine kP H (SR fun _ eP=>gH WI aF 0 O O (Kz eP (SB (SR fun _ fM=>Rc O (aB fM O (Cd O ?_ ?_)))))) <;> clear H eP fM
  ·intro h18 a H
   try have sQ:=dT h18
   refine kP H (SR fun _ fO=>aB fO O ?_);clear H fO;intro a H;refine lr H results39 O ?_
   exact H.rt (jD Value.string (by
    unfold mY
    repeat (first|rw [dJ]|rw [aX])))
  intro h18 a H
  try have sQ:=dF h18
  refine kP H (SR fun _ ig=>Rc O (aB ig O (Cd O ?_ ?_))) <;> clear H ig
  ·intro h20 a H
   try have pq:=dT h20
   refine kP H (SR fun _ iq=>aB iq O ?_);clear H iq;intro a H;refine lr H results39 O ?_
   exact H.rt (jD Value.string (by
    unfold mY
    repeat (first|rw [dJ]|rw [aX])))
  intro h20 a H
  try have pq:=dF h20
  refine kP H (SR fun _ gM=>Rc O (aB gM O (Cd O ?_ ?_))) <;> clear H gM
  ·intro h22 a H
   try have mR:=dT h22
   refine kP H (SR fun _ jC=>aB jC O ?_);clear H jC;intro a H;refine lr H results39 O ?_
   exact H.rt (jD Value.string (by
    unfold mY
    repeat (first|rw [dJ]|rw [aX])))
  intro h22 a H
  try have mR:=dF h22
  refine kP H (Kc K2 (SR fun _ iw=>aB iw O ?_));clear H K2 iw;intro a H;refine lr H results39 O ?_
  exact H.rt (jD Value.string (by
   unfold mY
   repeat (first|rw [dJ]|rw [aX])))
 intro fF a H
 try have jY:=dF fF
 refine kP H (Kc K2 (SR fun _ lu=>aB lu O ?_));clear H K2 lu;intro a H;refine lr H results39 O ?_
 exact H.rt (jD Value.string (by
  unfold mY
  repeat (first|rw [dJ]|rw [aX])))
theorem J2 (G:GH) (w0:World) (hG:Hold G w0) (l:List aS) (v:av) (hv:aC G (.sl 11 (l.map aS.dat)) v) (hz:gZ l<=1073741824) :
  Calls prog 30 #[v] w0 (cO w0 G fun u G'=>u=.string ⟨(gY l).toArray⟩):=by
 obtain ⟨A,c,rfl,hc1,hc2,hg⟩:=hv.slice;rw [bN] at *;have hll:=Lj l;refine eN [(0,_)] func30 O ntmps30 O O hG ?_;intro a H;refine kP H (SR fun _ K1=>aB K1 O (SR fun _ K2=>?_));clear H K1;intro a H;refine kE RS H wn O ?_;clear H;intro b3 a w hb3 H;refine K2 _ _ ?_;clear K2;refine kP H (SQ fun _ K3=>SR fun _ K4=>Rm O (Rl jZ O (Rm O (Kz K4 (SB ?_)))));clear H K4;intro a H;skip;refine eG (ι:=Nat × av × av × OL × GH) (Tc:=[(3,_),(6,_),(7,_)]) (Lc:=[]) (fun gh=>[(8,vi gh.1)]) (fun gh=>[bB b3 gh.2.1 gh.2.2.1]++gh.2.2.2.1) (fun gh=>gh.2.2.2.2) (fun gh=>gh.1<=l.length∧(gh.2.1=.pointer none∨gh.2.1=(aH b3 0))∧bP 5 1 gh.2.2.1 (gY (l.take gh.1)).length (Lib.byteCells (gY (l.take gh.1))) gh.2.2.2.1∧(gY (l.take gh.1)=[]->gh.2.2.1=.slice none 0 0)∧(∀ b o,G b=some o->gh.2.2.2.2 b=some o)) (fun gh=>l.length - gh.1) ((0,.pointer none,.slice none 0 0,[],G)) (by exact H.sub ⟨O,O,O,O,aL⟩) ?_ ?_
 ·exact ⟨V,.inl O,bP.nil,fun _=>rfl,fun _ _ h=>h⟩
 clear H;rintro ⟨k,p,v,Lo,g⟩ a w hI H;dsimp only at hI H;obtain ⟨hk,hp,hrw,hnl,hgm⟩:=hI;dsimp only [lca,dB] at H;refine kP H (SR fun _ K5=>Rc O (Kz K5 (SQ fun _ K6=>Cd O ?_ ?_))) <;> clear H K5
 ·intro h9 a H
  try have p9:=dT h9
  have hk2:k < l.length:=by omega
  obtain ⟨b,o,cs,rfl,hcl,hrow,hrep⟩:=hg k l[k].dat (by simp [hk2]);obtain ⟨pA,pn,pc,dA,dn,dc,yA,yn,yc,fA,fn,fc,rA,rn,rc,rfl,-⟩:=hrep.item;replace hrow:=fun j u hj=>aK hgm (hrow j u hj);replace hrep:=hrep.mono hgm;have hbl:=DR (l.take (k+1))
  have Zh:gZ l=gZ (l.take (k+1))+gZ (l.drop (k+1)):=by
   have h:=FV ((l.take (k+1)).map aS.dat) ((l.drop (k+1)).map aS.dat);rw [<- kC,List.take_append_drop] at h;exact h
  have hbs:=acw hk2;have hbz:=jD List.length hbs;rw [iK] at hbz;have hts:(oP l[k]).data.toList.length=(oP l[k]).size:=Array.length_toList;refine kP H (Kc K6 (SQ fun _ K7=>SB (SR fun _ K8=>Ri jZ jq O O ?_)));clear H K6;intro a H;refine dX jq (cs:=[_,_,_,_,_,_,_,_,_,_,_]) H wn O O (fun j v hj=>H.hp.aR (hrow j v hj)) O ?_;clear H;intro a H;refine kE jq H wn O ?_;clear H;intro b5 a w hb5 H;refine eO jq 0 (vs:=[_,_,_,_,_,_,_,_,_,_,_]) H wn O ?_;clear H;intro w H;refine K8 _ _ ?_;clear K8;refine kP H (SR fun _ K9=>gH EB aF 0 O O (Rc O (Kz K9 (Cd O ?_ ?_)))) <;> clear H K9
  ·intro fF a H
   try have jY:=dT fF
   have hch:oP l[k]=l[k].text:=aM jY;refine kP H (SC (gH EC jQ 0 O O ?_));clear H;intro a H
   first|rw [<- hch] at H|skip
   refine jH HV (Li:=[_]) (L:=bB b3 p v :: Lo) H wn O (Le _ _ _ b3 p v _ _ (oP l[k]) hp (Hp.owns (Li:=[_]) H.hp) hrw V) O ?_;clear H;rintro v_ _ LZ a w ⟨v17,BZ,rfl,Dh,rfl,Jj⟩ AX H;refine kH H (Kn K7 (SC (Rd O (Rm O ?_))));clear H K7;intro a H;refine aj ?_;refine bg ((k+1,(aH b3 0),v17,BZ,_)) (by exact (H.dR (Pl:=[_,_]) (dx:=[_]) [1] Y O).sub ⟨O,O,O,O,aL⟩) ?_
   (try dsimp only);exact ⟨V,.inr O,by rw [hbs,GY,iK,hts];exact Dh,fun e=>Jj (hnl (List.eq_nil_of_length_eq_zero (by rw [e] at hbz;simp only [List.length_nil] at hbz;omega))) (by rw [e] at hbz;simp only [List.length_nil] at hbz;omega),by first|exact hgm|exact fun b o h=>mP b o (hgm b o h)⟩
  intro fF a H
  try have jY:=dF fF
  have hch:oP l[k]=mY l[k]:=aJ jY;refine uf ?_;refine dX jq (cs:=[_,_,_,_,_,_,_,_,_,_,_]) H wn O O (H.hp.dG 0 O O) O ?_;clear H;intro a H;refine s_call Vs H wn O (Uy _ _ H.ro l[k] [_,_,_,_,_,_,_,_,_,_,_] hrep) O ?_;clear H;rintro v19 rV a w rfl mP H;rw [<- hch] at H
  first|rw [<- hch] at H|skip
  refine jH HV (Li:=[_]) (L:=bB b3 p v :: Lo) H wn O (Le _ _ _ b3 p v _ _ (oP l[k]) hp (Hp.owns (Li:=[_]) H.hp) hrw V) O ?_;clear H;rintro v_ _ LZ a w ⟨v17,BZ,rfl,Dh,rfl,Jj⟩ AX H;refine kH H (Kn K7 (SC (Rd O (Rm O ?_))));clear H K7;intro a H;refine aj ?_;refine bg ((k+1,(aH b3 0),v17,BZ,_)) (by exact (H.dR (Pl:=[_,_]) (dx:=[_]) [1] Y O).sub ⟨O,O,O,O,aL⟩) ?_
  (try dsimp only);exact ⟨V,.inr O,by rw [hbs,GY,iK,hts];exact Dh,fun e=>Jj (hnl (List.eq_nil_of_length_eq_zero (by rw [e] at hbz;simp only [List.length_nil] at hbz;omega))) (by rw [e] at hbz;simp only [List.length_nil] at hbz;omega),by first|exact hgm|exact fun b o h=>mP b o (hgm b o h)⟩
 intro h9 a H
 try have p9:=dF h9
 refine dD ?_;refine K3 _ _ ?_;clear K3;refine iF (fun _ aP=>?_);rw [show l.take k=l from iU V] at hrw hnl;refine uf ?_;refine jH NI (Li:=[]) (L:=bB b3 p v :: Lo) H wn O (Q9 _ _ _ b3 p v (gY l) (Hp.owns (Li:=[]) H.hp) hrw hnl) O ?_;clear H;rintro v22 BM Tf a w rfl zl H;exact kH H (bS aP O (LR results30 O fun H=>H.rt O))
theorem kX:prog.underlying 47=some (.slice 76):=by kernel_rfl
theorem kV:Ty prog 76 7 120 [.int .i64 0,.slice none 0 0,.int .i64 0,.int .i64 0,.slice none 0 0,.slice none 0 0,.slice none 0 0] true:=⟨Z,Z⟩
theorem Az:gQ prog 76 2 6:=⟨Z⟩
theorem rT:Ty prog 32 1 24 [.slice none 0 0] false:=⟨Z,Z⟩
theorem NJ:bX 38:=cu func38 O
theorem jR:prog.underlying 22=some (.slice 49):=by kernel_rfl
theorem jI:Ty prog 49 6 112 [.slice none 0 0,.int .i64 0,.int .i64 0,.slice none 0 0,.slice none 0 0,.slice none 0 0] true:=⟨Z,Z⟩
theorem nV:gQ prog 49 1 5:=⟨Z⟩
theorem oF:Ty prog 47 1 24 [.slice none 0 0] false:=⟨Z,Z⟩
theorem Hy:bX 27:=cu func27 O
theorem Vz:bX 48:=cu func48 O
theorem ED:gQ prog 34 5 9:=⟨Z⟩
theorem yV:gQ prog 34 6 10:=⟨Z⟩
theorem zU:Ty prog 22 1 24 [.slice none 0 0] false:=⟨Z,Z⟩
theorem Hw:bX 18:=cu func18 O
theorem Eu:bX 7:=cu func7 O
theorem NA:bX 23:=cu func23 O
mutual
/-- All texts are valid. -/
def yT:aS->Bool
 | .mk k _ _ tx _ f r=>(decide (¬ k=1) || fJ tx) && lN f && kL r
def yU:bV->Bool
 | .mk _ cs=>mK cs
def Ap:dh->Bool
 | .mk _ _ f=>lN f
def lN:List aS->Bool
 | []=>true
 | x :: l=>yT x && lN l
def kL:List bV->Bool
 | []=>true
 | x :: l=>yU x && kL l
def mK:List dh->Bool
 | []=>true
 | x :: l=>Ap x && mK l
end
theorem uh (x:aS):yT x=((decide (¬ x.kind=1) || fJ x.text) && lN x.flow && kL x.rows):=by cases x;rw [yT];rfl
theorem xQ (x:bV):yU x=mK x.cells:=by cases x;rw [yU];rfl
theorem Aq (x:dh):Ap x=lN x.flow:=by cases x;rw [Ap];rfl
theorem uj:∀ l:List aS,lN l=l.all yT
 | []=>by rw [lN];rfl
 | x :: l=>by rw [lN,uj l,List.all_cons]
theorem wz:∀ l:List bV,kL l=l.all yU
 | []=>by rw [kL];rfl
 | x :: l=>by rw [kL,wz l,List.all_cons]
theorem Ar:∀ l:List dh,mK l=l.all Ap
 | []=>by rw [mK];rfl
 | x :: l=>by rw [mK,Ar l,List.all_cons]
theorem xL {α:Type} {p:α->Bool} {l:List α} {k:Nat} (hk:k < l.length) (h:(l.take k).all p=true) (h2:p l[k]=true):(l.take (k+1)).all p=true:=by
 rw [lZ hk,List.all_append,h];simp [h2]
theorem sF {α:Type} {p:α->Bool} {l:List α} {k:Nat} (hk:k < l.length) (h:p l[k]=false):l.all p=false:=by
 rw [List.all_eq_false];exact ⟨_,dV hk,by simp [h]⟩
theorem yP {α:Type} {p:α->Bool} {l:List α} {k:Nat} (hk:¬ k < l.length) (h:(l.take k).all p=true):l.all p=true:=by
 rwa [iU V] at h
theorem Hq {l:List aS} (h:lN l=true):∀ x∈l,x.kind=1->fJ x.text=true:=fun x hx hk=>by
 rw [uj,gq] at h;have:=h x hx;rw [uh] at this
 simp [hk] at this
 exact this.1.1
theorem Vd {l:List aS} (h:lN l=true):wM l=0:=by
 unfold wM
 rw [aM]
 unfold sI
 rw [gq];intro x hx
 unfold yI BH
 by_cases hk:x.kind=1
 ·simp [hk,Hq h x hx hk]
 simp [hk]
theorem Vb {l:List aS} (h:¬ wM l=0):lN l=false:=by
 cases e:lN l with
 | false=>rfl
 | true=>exact absurd (Vd e) h
theorem Zr {l:List aS} (h:wM l=0) {x:aS} (hx:x∈l):(decide (¬ x.kind=1) || fJ x.text)=true:=by
 have hd:sI l=true:=by
  unfold wM at h
  split at h
  ·assumption
  exact absurd h Y
 unfold sI at hd
 rw [gq] at hd;have:=hd x hx
 by_cases hk:x.kind=1
 ·cases e:fJ x.text with
  | true=>simp
  | false=>simp [yI,BH,hk,e] at this
 simp [hk]
def BK (f n:Nat):Prop:=∀ (G:GH) (w0:World),Hold G w0->∀ (l:List aS) (v:av),aC G (.sl 11 (l.map aS.dat)) v->gZ l < n ->
 Calls prog f #[v] w0 (cO w0 G fun u G'=>u=.bool (lN l))
set_option maxHeartbeats 1000000 in
theorem Hl {n:Nat} (ih:BK 38 n) (G:GH) (w0:World) (hG:Hold G w0) (l:List dh) (v:av) (hv:aC G (.sl 7 (l.map dh.dat)) v) (hz:jJ l < n) :
  Calls prog 27 #[v] w0 (cO w0 G fun u G'=>u=.bool (mK l)):=by
 obtain ⟨A,c,rfl,hc1,hc2,hg⟩:=hv.slice;have hml:maxLen=9223372036854775807:=rfl;rw [bN] at *;refine eN [(0,_)] func27 O ntmps27 O O hG ?_;intro a H;refine kP H (SR fun _ K1=>aB K1 O (SQ fun _ K2=>SR fun _ K3=>Rm O (Rl kX O (Rm O (Kz K3 (SB ?_))))));clear H K1 K3;intro a H;skip;refine eG (ι:=Nat × GH) (Tc:=[(5,_),(6,_)]) (Lc:=[]) (fun gh=>[(7,vi gh.1)]) (fun gh=>[]) (fun gh=>gh.2) (fun gh=>gh.1<=l.length∧(l.take gh.1).all Ap=true∧(∀ b o,G b=some o->gh.2 b=some o)) (fun gh=>l.length - gh.1) ((0,G)) (by exact H.sub ⟨O,O,O,aL⟩) ?_ ?_
 ·exact ⟨dU _,O,fun _ _ h=>h⟩
 clear H;rintro ⟨k,g⟩ a w hI H;dsimp only at hI H;obtain ⟨hk,hd,hgm⟩:=hI;dsimp only [lca,dB] at H;refine kP H (SR fun _ K4=>Rc O (Kz K4 (SQ fun _ K5=>Cd O ?_ ?_))) <;> clear H K4
 ·intro h8 a H
  try have p8:=dT h8
  have hk2:k < l.length:=by omega
  obtain ⟨b,o,cs,rfl,hcl,hrow,hrep⟩:=hg k l[k].dat (by simp [hk2]);obtain ⟨pA,pn,pc,dA,dn,dc,yA,yn,yc,fA,fn,fc,rfl,hh,hf⟩:=hrep.cell;replace hrow:=fun j u hj=>aK hgm (hrow j u hj);have he:=uP l[k];have hm:=xg (dV hk2);refine kP H (Kc K5 (SQ fun _ K6=>SB (SR fun _ K7=>Ri kX kV O O ?_)));clear H K5;intro a H;refine dX kV (cs:=[_,_,_,_,_,_,_]) H wn O O (fun j v hj=>H.hp.aR (hrow j v hj)) O ?_;clear H;intro a H;refine kE kV H wn O ?_;clear H;intro b4 a w hb4 H;refine eO kV 0 (vs:=[_,_,_,_,_,_,_]) H wn O ?_;clear H;intro w H;refine K7 _ _ ?_;clear K7;refine kP H (SR fun _ K8=>gH Az rT 0 O O ?_);clear H;intro a H;refine s_call NJ H wn O (ih _ _ H.ro l[k].flow _ (hf.mono hgm) V) O ?_;clear H;rintro v13 Gp a w rfl yh H;refine kH H (Rn O (Kz K8 (Cd O ?_ ?_))) <;> clear H K8
  ·intro fF a H
   exact kP H (SR fun _ K9=>aB K9 O (LR results27 O fun H=>H.rt (oO (by rw [Ar];exact (sF hk2 (by rw [Aq];simpa using fF)).symm))))
  intro fF a H
  try have jY:=dF fF
  refine kP H (Kc K6 (SC (Rd O (Rm O ?_))));clear H K6;intro a H;refine aj ?_;refine bg ((k+1,_)) (by exact (H.dR (Pl:=[_]) (dx:=[]) [] Y O).sub ⟨O,O,O,aL⟩) ?_
  (try dsimp only);exact ⟨V,xL hk2 hd (by rw [Aq];simpa using fF),fun b o h=>yh b o (hgm b o h)⟩
 intro h8 a H
 try have p8:=dF h8
 refine dD ?_;refine K2 _ _ ?_;clear K2;exact kP H (SR fun _ aP=>aB aP O (LR results27 O fun H=>H.rt (oO (by rw [Ar];exact (yP V hd).symm))))
set_option maxHeartbeats 1000000 in
theorem Ho {n:Nat} (ih:BK 38 n) (G:GH) (w0:World) (hG:Hold G w0) (l:List bV) (v:av) (hv:aC G (.sl 6 (l.map bV.dat)) v) (hz:kg l < n) :
  Calls prog 18 #[v] w0 (cO w0 G fun u G'=>u=.bool (kL l)):=by
 obtain ⟨A,c,rfl,hc1,hc2,hg⟩:=hv.slice;have hml:maxLen=9223372036854775807:=rfl;rw [bN] at *;refine eN [(0,_)] func18 O ntmps18 O O hG ?_;intro a H;refine kP H (SR fun _ K1=>aB K1 O (SQ fun _ K2=>SR fun _ K3=>Rm O (Rl jR O (Rm O (Kz K3 (SB ?_))))));clear H K1 K3;intro a H;skip;refine eG (ι:=Nat × GH) (Tc:=[(5,_),(6,_)]) (Lc:=[]) (fun gh=>[(7,vi gh.1)]) (fun gh=>[]) (fun gh=>gh.2) (fun gh=>gh.1<=l.length∧(l.take gh.1).all yU=true∧(∀ b o,G b=some o->gh.2 b=some o)) (fun gh=>l.length - gh.1) ((0,G)) (by exact H.sub ⟨O,O,O,aL⟩) ?_ ?_
 ·exact ⟨dU _,O,fun _ _ h=>h⟩
 clear H;rintro ⟨k,g⟩ a w hI H;dsimp only at hI H;obtain ⟨hk,hd,hgm⟩:=hI;dsimp only [lca,dB] at H;refine kP H (SR fun _ K4=>Rc O (Kz K4 (SQ fun _ K5=>Cd O ?_ ?_))) <;> clear H K4
 ·intro h8 a H
  try have p8:=dT h8
  have hk2:k < l.length:=by omega
  obtain ⟨b,o,cs,rfl,hcl,hrow,hrep⟩:=hg k l[k].dat (by simp [hk2]);obtain ⟨pA,pn,pc,dA,dn,dc,yA,yn,yc,fA,fn,fc,rfl,hh,hf⟩:=hrep.row;replace hrow:=fun j u hj=>aK hgm (hrow j u hj);have he:=uQ l[k];have hm:=vS (dV hk2);refine kP H (Kc K5 (SQ fun _ K6=>SB (SR fun _ K7=>Ri jR jI O O ?_)));clear H K5;intro a H;refine dX jI (cs:=[_,_,_,_,_,_]) H wn O O (fun j v hj=>H.hp.aR (hrow j v hj)) O ?_;clear H;intro a H;refine kE jI H wn O ?_;clear H;intro b4 a w hb4 H;refine eO jI 0 (vs:=[_,_,_,_,_,_]) H wn O ?_;clear H;intro w H;refine K7 _ _ ?_;clear K7;refine kP H (SR fun _ K8=>gH nV oF 0 O O ?_);clear H;intro a H;refine s_call Hy H wn O (Hl ih _ _ H.ro l[k].cells _ (hf.mono hgm) V) O ?_;clear H;rintro v13 Gp a w rfl yh H;refine kH H (Rn O (Kz K8 (Cd O ?_ ?_))) <;> clear H K8
  ·intro fF a H
   exact kP H (SR fun _ K9=>aB K9 O (LR results18 O fun H=>H.rt (oO (by rw [wz];exact (sF hk2 (by rw [xQ];simpa using fF)).symm))))
  intro fF a H
  try have jY:=dF fF
  refine kP H (Kc K6 (SC (Rd O (Rm O ?_))));clear H K6;intro a H;refine aj ?_;refine bg ((k+1,_)) (by exact (H.dR (Pl:=[_]) (dx:=[]) [] Y O).sub ⟨O,O,O,aL⟩) ?_
  (try dsimp only);exact ⟨V,xL hk2 hd (by rw [xQ];simpa using fF),fun b o h=>yh b o (hgm b o h)⟩
 intro h8 a H
 try have p8:=dF h8
 refine dD ?_;refine K2 _ _ ?_;clear K2;exact kP H (SR fun _ aP=>aB aP O (LR results18 O fun H=>H.rt (oO (by rw [wz];exact (yP V hd).symm))))
set_option maxHeartbeats 1000000 in
theorem Cu:∀ n:Nat,n<=4294967297->BK 38 n
 | 0,_=>fun _ _ _ _ _ _ h=>absurd h V
 | n+1,hn=>by
  intro G w0 hG l v hv hz;have ih:=Cu n V;obtain ⟨A,c,rfl,hc1,hc2,hg⟩:=hv.slice;have hml:maxLen=9223372036854775807:=rfl;rw [bN] at *;refine eN [(0,_)] func38 O ntmps38 O O hG ?_;intro a H;refine kP H (SR fun _ K1=>aB K1 O (SQ fun _ K2=>SR fun _ K3=>Rm O ?_));clear H K1;intro a H;refine s_call Vz H wn O (Zt _ _ H.ro l _ hv V) O ?_;clear H;rintro v9 _ a w ⟨rfl,rfl⟩ - H;refine kH H (Rm O ?_);clear H;intro a H;(iterate 2 refine fZ H wn O O O ?_;clear H;intro a H);refine kH H (Ra O (aB K3 O (SR fun _ K4=>Rm O (Rc O (Kz K4 (Cd O ?_ ?_)))))) <;> clear H K3 K4
  ·intro jM a H
   try have sP:=dT jM
   exact kP H (SR fun _ K5=>aB K5 O (LR results38 O fun H=>H.rt (oO (Vb sP).symm)))
  intro jM a H
  try have sP:=dF jM
  have hl0:wM l=0:=Af.1 sP;refine kP H (Kc K2 (SQ fun _ K6=>SR fun _ K7=>Rm O (Rl jZ O (Rm O (Kz K7 (SB ?_))))));clear H K2 K7;intro a H;skip;refine eG (ι:=Nat × GH) (Tc:=[(14,_),(15,_)]) (Lc:=[]) (fun gh=>[(16,vi gh.1)]) (fun gh=>[]) (fun gh=>gh.2) (fun gh=>gh.1<=l.length∧(l.take gh.1).all yT=true∧(∀ b o,G b=some o->gh.2 b=some o)) (fun gh=>l.length - gh.1) ((0,G)) (by exact H.sub ⟨O,O,O,aL⟩) ?_ ?_
  ·exact ⟨dU _,O,fun _ _ h=>h⟩
  clear H;rintro ⟨k,g⟩ a w hI H;dsimp only at hI H;obtain ⟨hk,hd,hgm⟩:=hI;dsimp only [lca,dB] at H;refine kP H (SR fun _ K8=>Rc O (Kz K8 (SQ fun _ K9=>Cd O ?_ ?_))) <;> clear H K8
  ·intro dZ a H
   try have lg:=dT dZ
   have hk2:k < l.length:=by omega
   obtain ⟨b,o,pA,pn,pc,dA,dn,dc,yA,yn,yc,fA,fn,fc,rA,rn,rc,rfl,hrow,hh,hf,hr⟩:=EG hk2 hg;replace hrow:=fun j u hj=>aK hgm (hrow j u hj);have he:=zW l[k];have hm:=Ll (dV hk2);refine kP H (Kc K9 (SQ fun _ aP=>SB (SR fun _ bH=>Ri jZ jq O O ?_)));clear H K9;intro a H;refine dX jq (cs:=[_,_,_,_,_,_,_,_,_,_,_]) H wn O O (fun j v hj=>H.hp.aR (hrow j v hj)) O ?_;clear H;intro a H;refine kE jq H wn O ?_;clear H;intro b6 a w hb6 H;refine eO jq 0 (vs:=[_,_,_,_,_,_,_,_,_,_,_]) H wn O ?_;clear H;intro w H;refine bH _ _ ?_;clear bH;refine kP H (SR fun _ bL=>gH ED rT 0 O O ?_);clear H;intro a H;refine s_call NJ H wn O (ih _ _ H.ro l[k].flow _ (hf.mono hgm) V) O ?_;clear H;rintro v22 BM a w rfl zl H;refine kH H (Rn O (Rm O (Sp 24 O ?_ ?_))) <;> clear H
   ·intro aN a H
    exact kH H (aO aN O (aO aN O (Pt aN O (Kz bL (Ct O O (SR fun _ bI=>aB bI O (LR results38 O fun H=>H.rt (oO (by rw [uj];exact (sF hk2 (by rw [uh,show lN l[k].flow=false by simpa using aN];simp)).symm)))))))))
   intro aN a H
   try have fK:=dF aN
   have hf1:lN l[k].flow=true:=by simpa using aN
   refine kH H (YF yV aN O (YO zU 0 aN O ?_));clear H;intro a H;refine s_call Hw H (wg H O O aN) O (Ho ih _ _ H.ro l[k].rows _ ((hr.mono hgm).mono zl) V) O ?_;clear H;rintro v27 G27 a w rfl Yg H;refine kH H (YN aN O (Pf aN O (Kz bL (Cd O ?_ ?_)))) <;> clear H bL
   ·intro xU a H
    exact kP H (SR fun _ cB=>aB cB O (LR results38 O fun H=>H.rt (oO (by rw [uj];exact (sF hk2 (by rw [uh,show kL l[k].rows=false by simpa using xU];simp)).symm))))
   intro xU a H
   try have p29:=dF xU
   have hr1:kL l[k].rows=true:=by simpa using xU
   refine kP H (Kc aP (SC (Rd O (Rm O ?_))));clear H aP;intro a H;refine aj ?_;refine bg ((k+1,_)) (by exact (H.dR (Pl:=[_]) (dx:=[]) [] Y O).sub ⟨O,O,O,aL⟩) ?_
   (try dsimp only);exact ⟨V,xL hk2 hd (by rw [uh,Zr hl0 (dV hk2),hf1,hr1];rfl),fun b o h=>Yg b o (zl b o (hgm b o h))⟩
  intro dZ a H
  try have lg:=dF dZ
  refine dD ?_;refine K6 _ _ ?_;clear K6;exact kP H (SR fun _ dw=>aB dw O (LR results38 O fun H=>H.rt (oO (by rw [uj];exact (yP V hd).symm))))
set_option maxHeartbeats 1000000 in
theorem PX {n:Nat} (ih:BK 7 n) (G:GH) (w0:World) (hG:Hold G w0) (l:List dh) (v:av) (hv:aC G (.sl 7 (l.map dh.dat)) v) (hz:jJ l < n) :
  Calls prog 23 #[v] w0 (cO w0 G fun u G'=>u=.bool (mK l)):=by
 obtain ⟨A,c,rfl,hc1,hc2,hg⟩:=hv.slice;have hml:maxLen=9223372036854775807:=rfl;rw [bN] at *;refine eN [(0,_)] func23 O ntmps23 O O hG ?_;intro a H;refine kP H (SR fun _ K1=>aB K1 O (SQ fun _ K2=>SR fun _ K3=>aB K3 O (SB ?_)));clear H K1 K3;intro a H;skip;refine eG (ι:=Nat × GH) (Tc:=[(0,_)]) (Lc:=[]) (fun gh=>[(3,vi gh.1)]) (fun gh=>[]) (fun gh=>gh.2) (fun gh=>gh.1<=l.length∧(l.take gh.1).all Ap=true∧(∀ b o,G b=some o->gh.2 b=some o)) (fun gh=>l.length - gh.1) ((0,G)) (by exact H.sub ⟨O,O,aL⟩) ?_ ?_
 ·exact ⟨dU _,O,fun _ _ h=>h⟩
 clear H;rintro ⟨k,g⟩ a w hI H;dsimp only at hI H;obtain ⟨hk,hd,hgm⟩:=hI;dsimp only [lca,dB] at H;refine kP H (SQ fun _ K4=>SR fun _ K5=>Rm O (Rm O (Rl kX O (Rc O (Kz K5 (Cd O ?_ ?_)))))) <;> clear H K5
 ·intro h7 a H
  try have p7:=dT h7
  have hk2:k < l.length:=by omega
  obtain ⟨b,o,cs,rfl,hcl,hrow,hrep⟩:=hg k l[k].dat (by simp [hk2]);obtain ⟨pA,pn,pc,dA,dn,dc,yA,yn,yc,fA,fn,fc,rfl,hh,hf⟩:=hrep.cell;replace hrow:=fun j u hj=>aK hgm (hrow j u hj);have he:=uP l[k];have hm:=xg (dV hk2);refine kP H (Kc K4 (SQ fun _ K6=>SB (SR fun _ K7=>Rm O (Rm O (Ri kX kV O O (Rf Az O (Rg rT O (hrow 6 _ O) ?_)))))));clear H K4;intro a H;refine s_call Eu H wn O (ih _ _ H.ro l[k].flow _ (hf.mono hgm) V) O ?_;clear H;rintro v15 SF a w rfl Jc H;refine kH H (Rn O (Kz K7 (Cd O ?_ ?_))) <;> clear H K7
  ·intro h16 a H
   exact kP H (SR fun _ K8=>aB K8 O (LR results23 O fun H=>H.rt (oO (by rw [Ar];exact (sF hk2 (by rw [Aq];simpa using h16)).symm))))
  intro h16 a H
  try have p16:=dF h16
  refine kP H (Kc K6 (SC (Rm O (Rd O (Ra O ?_)))));clear H K6;intro a H;refine aj ?_;refine bg ((k+1,_)) (by exact H.sub ⟨O,O,aL⟩) ?_
  (try dsimp only);exact ⟨V,xL hk2 hd (by rw [Aq];simpa using h16),fun b o h=>Jc b o (hgm b o h)⟩
 intro h7 a H
 try have p7:=dF h7
 refine dD ?_;refine K2 _ _ ?_;clear K2;exact kP H (SR fun _ K9=>aB K9 O (LR results23 O fun H=>H.rt (oO (by rw [Ar];exact (yP V hd).symm))))
set_option maxHeartbeats 1000000 in
set_option maxRecDepth 8000 in
theorem PN:∀ n:Nat,n<=1073741824->BK 7 n
 | 0,_=>fun _ _ _ _ _ _ h=>absurd h V
 | n+1,hn=>by
  intro G w0 hG l v hv hz;have ih:=PN n V;obtain ⟨A,c,rfl,hc1,hc2,hg⟩:=hv.slice;have hml:maxLen=9223372036854775807:=rfl;rw [bN] at *;refine eN [(0,_)] func7 O ntmps7 O O hG ?_;intro a H;refine kP H (SR fun _ K1=>aB K1 O (SQ fun _ K2=>SR fun _ K3=>aB K3 O (SB ?_)));clear H K1 K3;intro a H;skip;refine eG (ι:=Nat × GH) (Tc:=[(0,_)]) (Lc:=[]) (fun gh=>[(3,vi gh.1)]) (fun gh=>[]) (fun gh=>gh.2) (fun gh=>gh.1<=l.length∧(l.take gh.1).all yT=true∧(∀ b o,G b=some o->gh.2 b=some o)) (fun gh=>l.length - gh.1) ((0,G)) (by exact H.sub ⟨O,O,aL⟩) ?_ ?_
  ·exact ⟨dU _,O,fun _ _ h=>h⟩
  clear H;rintro ⟨k,g⟩ a w hI H;dsimp only at hI H;obtain ⟨hk,hd,hgm⟩:=hI;dsimp only [lca,dB] at H;refine kP H (SQ fun _ K4=>SR fun _ K5=>Rm O (Rm O (Rl jZ O (Rc O (Kz K5 (Cd O ?_ ?_)))))) <;> clear H K5
  ·intro h8 a H
   try have p8:=dT h8
   have hk2:k < l.length:=by omega
   obtain ⟨b,o,pA,pn,pc,dA,dn,dc,yA,yn,yc,fA,fn,fc,rA,rn,rc,rfl,hrow,hh,hf,hr⟩:=EG hk2 hg;replace hrow:=fun j u hj=>aK hgm (hrow j u hj);have he:=zW l[k];have hm:=Ll (dV hk2)
   obtain rfl:rn=l[k].rows.length:=by
    obtain ⟨_,_,e,-⟩:=hr.slice;obtain ⟨-,e2,-⟩:=Value.slice.inj e;rw [e2,bN]
   refine kP H (Kc K4 (SQ fun _ K6=>SB (SQ fun _ K7=>SR fun _ K8=>Rm O (Rm O (Ri jZ jq O O (Rf EB O (Rg aF O (hrow 0 _ O) (Rc O (Rm O (Sp 17 O ?_ ?_)))))))))) <;> clear H K4
   ·intro dZ a H
    try have lg:=dT dZ
    refine kH H (YM dZ O (YM dZ O (YI jZ jq dZ O O (YF EC dZ O (YR jQ dZ O (hrow 3 _ O) ?_)))));clear H;intro a H;refine s_call Cw H (wg H O O dZ) O (DY _ _ H.ro l[k].text V) O ?_;clear H;rintro v23 _ a w ⟨rfl,rfl⟩ - H;refine kH H (YN dZ O (Pt dZ O (Rm O (Sp 26 O ?_ ?_)))) <;> clear H
    ·intro gN a H
     exact kH H (aQ gN O (aO gN O (aO gN O (Pt gN O (Kz K8 (Ct O O (SR fun _ K9=>aB K9 O (LR results7 O fun H=>H.rt (oO (by rw [uj];exact (sF hk2 (by rw [uh,show fJ l[k].text=false by simpa using gN,lg];simp)).symm))))))))))
    intro gN a H
    try have p26:=dF gN
    refine kH H (YM gN O (YM gN O (YI jZ jq gN O O (YF ED gN O (YR rT gN O (hrow 9 _ O) ?_)))));clear H;intro a H;refine s_call Eu H (wg H O O gN) O (ih _ _ H.ro l[k].flow _ (hf.mono hgm) V) O ?_;clear H;rintro v32 SI a w rfl CS H;refine kH H (YN gN O (Pf gN O (Kz K8 (Cd O ?_ ?_)))) <;> clear H K8
    ·intro jG a H
     exact kP H (SR fun _ aP=>aB aP O (LR results7 O fun H=>H.rt (oO (by rw [uj];exact (sF hk2 (by rw [uh,show lN l[k].flow=false by simpa using jG];simp)).symm))))
    intro jG a H
    try have p34:=dF jG
    have htx:(decide (¬ l[k].kind=1) || fJ l[k].text)=true:=by
     first
     | (simp [lg];done)
     | (simp [show fJ l[k].text=true by simpa using gN];done)
    have hfl:lN l[k].flow=true:=by simpa using jG
    have hrl:=Gg l[k].rows;refine kP H (Kc K7 (SR fun _ bH=>aB bH O (SB ?_)));clear H K7 bH;intro a H;skip;refine eG (ι:=Nat × GH) (Tc:=[(0,_),(3,_)]) (Lc:=[]) (fun gh=>[(4,vi gh.1)]) (fun gh=>[]) (fun gh=>gh.2) (fun gh=>gh.1<=l[k].rows.length∧(l[k].rows.take gh.1).all yU=true∧(∀ b o,G b=some o->gh.2 b=some o)∧(∀ b o,g b=some o->gh.2 b=some o)) (fun gh=>l[k].rows.length - gh.1) ((0,_)) (by exact H.sub ⟨O,O,O,aL⟩) ?_ ?_
    ·exact ⟨dU _,O,fun b o h=>CS b o (hgm b o h),CS⟩
    clear H;rintro ⟨j,g2⟩ a w hI H;dsimp only at hI H;obtain ⟨hj,hd2,eH,hgg⟩:=hI;dsimp only [lca,dB] at H;refine kP H (SQ fun _ bL=>SR fun _ bI=>Rm O (Rm O (Rm O (Ri jZ jq O O (Rf yV O (Rg zU O (aK hgg (hrow 10 _ O)) (Rl jR O (Rc O (Kz bI (Cd O ?_ ?_)))))))))) <;> clear H bI
    ·intro jy a H
     try have p42:=dT jy
     have hj2:j < l[k].rows.length:=by omega
     obtain ⟨Qh,rc',e',-,-,hrg⟩:=hr.slice;obtain ⟨Cv,-,-⟩:=Value.slice.inj e';subst Cv;obtain ⟨b2,o2,cs2,rfl,-,hrow2,qj⟩:=hrg j l[k].rows[j].dat (by simp [hj2]);obtain ⟨qA,qn,qc,uA,un,uc,zA,zn,zc,xA,xn,xc,rfl,sO,hfc⟩:=qj.row;replace hrow2:=fun j u hj=>aK eH (hrow2 j u hj);have he2:=uQ l[k].rows[j];have hm2:=vS (dV hj2);refine kP H (Kc bL (SQ fun _ cB=>SB (SR fun _ dw=>Rm O (Rm O (Ri jZ jq O O (Rf yV O (Rg zU O (aK hgg (hrow 10 _ O)) (Rm O (Ri jR jI O O (Rf nV O (Rg oF O (hrow2 5 _ O) ?_)))))))))));clear H bL;intro a H;refine s_call NA H wn O (PX ih _ _ H.ro l[k].rows[j].cells _ (hfc.mono eH) V) O ?_;clear H;rintro v54 SX a w rfl CV H;refine kH H (Rn O (Kz dw (Cd O ?_ ?_))) <;> clear H dw
     ·intro wF a H
      exact kP H (SR fun _ dN=>aB dN O (LR results7 O fun H=>H.rt (oO (by rw [uj];exact (sF hk2 (by rw [uh,wz,sF hj2 (by rw [xQ];simpa using wF)];simp)).symm))))
     intro wF a H
     try have p55:=dF wF
     refine kP H (Kc cB (SC (Rm O (Rd O (Ra O ?_)))));clear H cB;intro a H;refine aj ?_;refine bg ((j+1,_)) (by exact H.sub ⟨O,O,O,aL⟩) ?_
     (try dsimp only);exact ⟨V,xL hj2 hd2 (by rw [xQ];simpa using wF),fun b o h=>CV b o (eH b o h),fun b o h=>CV b o (hgg b o h)⟩
    intro jy a H
    try have p42:=dF jy
    refine dD ?_;refine K6 _ _ ?_;clear K6;refine kP H (SC (Rm O (Rd O (Ra O ?_))));clear H;intro a H;refine aj ?_;refine bg ((k+1,g2)) (by exact H.sub ⟨O,O,aL⟩) ?_
    (try dsimp only);exact ⟨V,xL hk2 hd (by rw [uh,wz,htx,hfl,yP V hd2];rfl),eH⟩
   intro dZ a H
   try have lg:=dF dZ
   refine kH H (aQ dZ O (aO dZ O (aO dZ O (Pf dZ O (Rm O ?_)))));clear H;intro a H;(iterate 2 refine lH H (wg H O O O) O O ?_;clear H;intro a H);refine aT jZ jq _ H (wg H O O O) O O O (by first|assumption|omega) rfl ?_;clear H;intro a H;refine FI ED H (wg H O O O) O O ?_;clear H;intro a H;refine iM rT H (wg H O O O) O (H.hp.aR (hrow 9 _ O)) O ?_;clear H;intro a H;refine s_call Eu H (wg H O O O) O (ih _ _ H.ro l[k].flow _ (hf.mono hgm) V) O ?_;clear H;rintro v32 SI a w rfl CS H;refine FK H (wg H O O O) O O ?_;clear H;intro a H;refine kH H (Pf O O (Kz K8 (Cd O ?_ ?_))) <;> clear H K8
   ·intro jG a H
    exact kP H (SR fun _ eP=>aB eP O (LR results7 O fun H=>H.rt (oO (by rw [uj];exact (sF hk2 (by rw [uh,show lN l[k].flow=false by simpa using jG];simp)).symm))))
   intro jG a H
   try have p34:=dF jG
   have htx:(decide (¬ l[k].kind=1) || fJ l[k].text)=true:=by
    first
    | (simp [lg];done)
    | (simp [show fJ l[k].text=true by simpa using gN];done)
   have hfl:lN l[k].flow=true:=by simpa using jG
   have hrl:=Gg l[k].rows;refine kP H (Kc K7 (SR fun _ fM=>aB fM O (SB ?_)));clear H K7 fM;intro a H;skip;refine eG (ι:=Nat × GH) (Tc:=[(0,_),(3,_)]) (Lc:=[]) (fun gh=>[(4,vi gh.1)]) (fun gh=>[]) (fun gh=>gh.2) (fun gh=>gh.1<=l[k].rows.length∧(l[k].rows.take gh.1).all yU=true∧(∀ b o,G b=some o->gh.2 b=some o)∧(∀ b o,g b=some o->gh.2 b=some o)) (fun gh=>l[k].rows.length - gh.1) ((0,_)) (by exact H.sub ⟨O,O,O,aL⟩) ?_ ?_
   ·exact ⟨dU _,O,fun b o h=>CS b o (hgm b o h),CS⟩
   clear H;rintro ⟨j,g2⟩ a w hI H;dsimp only at hI H;obtain ⟨hj,hd2,eH,hgg⟩:=hI;dsimp only [lca,dB] at H;refine kP H (SQ fun _ fO=>SR fun _ ig=>Rm O (Rm O (Rm O (Ri jZ jq O O (Rf yV O (Rg zU O (aK hgg (hrow 10 _ O)) (Rl jR O (Rc O (Kz ig (Cd O ?_ ?_)))))))))) <;> clear H ig
   ·intro jy a H
    try have p42:=dT jy
    have hj2:j < l[k].rows.length:=by omega
    obtain ⟨Qh,rc',e',-,-,hrg⟩:=hr.slice;obtain ⟨Cv,-,-⟩:=Value.slice.inj e';subst Cv;obtain ⟨b2,o2,cs2,rfl,-,hrow2,qj⟩:=hrg j l[k].rows[j].dat (by simp [hj2]);obtain ⟨qA,qn,qc,uA,un,uc,zA,zn,zc,xA,xn,xc,rfl,sO,hfc⟩:=qj.row;replace hrow2:=fun j u hj=>aK eH (hrow2 j u hj);have he2:=uQ l[k].rows[j];have hm2:=vS (dV hj2);refine kP H (Kc fO (SQ fun _ iq=>SB (SR fun _ gM=>Rm O (Rm O (Ri jZ jq O O (Rf yV O (Rg zU O (aK hgg (hrow 10 _ O)) (Rm O (Ri jR jI O O (Rf nV O (Rg oF O (hrow2 5 _ O) ?_)))))))))));clear H fO;intro a H;refine s_call NA H wn O (PX ih _ _ H.ro l[k].rows[j].cells _ (hfc.mono eH) V) O ?_;clear H;rintro v54 SX a w rfl CV H;refine kH H (Rn O (Kz gM (Cd O ?_ ?_))) <;> clear H gM
    ·intro wF a H
     exact kP H (SR fun _ jC=>aB jC O (LR results7 O fun H=>H.rt (oO (by rw [uj];exact (sF hk2 (by rw [uh,wz,sF hj2 (by rw [xQ];simpa using wF)];simp)).symm))))
    intro wF a H
    try have p55:=dF wF
    refine kP H (Kc iq (SC (Rm O (Rd O (Ra O ?_)))));clear H iq;intro a H;refine aj ?_;refine bg ((j+1,_)) (by exact H.sub ⟨O,O,O,aL⟩) ?_
    (try dsimp only);exact ⟨V,xL hj2 hd2 (by rw [xQ];simpa using wF),fun b o h=>CV b o (eH b o h),fun b o h=>CV b o (hgg b o h)⟩
   intro jy a H
   try have p42:=dF jy
   refine dD ?_;refine K6 _ _ ?_;clear K6;refine kP H (SC (Rm O (Rd O (Ra O ?_))));clear H;intro a H;refine aj ?_;refine bg ((k+1,g2)) (by exact H.sub ⟨O,O,aL⟩) ?_
   (try dsimp only);exact ⟨V,xL hk2 hd (by rw [uh,wz,htx,hfl,yP V hd2];rfl),eH⟩
  intro h8 a H
  try have p8:=dF h8
  refine dD ?_;refine K2 _ _ ?_;clear K2;exact kP H (SR fun _ iw=>aB iw O (LR results7 O fun H=>H.rt (oO (by rw [uj];exact (yP V hd).symm))))
theorem ZC (G:GH) (w0:World) (hG:Hold G w0) (l:List aS) (v:av) (hv:aC G (.sl 11 (l.map aS.dat)) v) (hz:gZ l<=1073741823) :
  Calls prog 7 #[v] w0 (cO w0 G fun u G'=>u=.bool (lN l)):=PN 1073741824 (bD _) G w0 hG l v hv V
section
section
variable {N:Nat} {D:List Deferred} {w0:World} {F:Nat->Prop} {G0 G:GH} {L Lo:OL} {T:List (Nat × av)}
variable {r:Option Nat} {P:Program} {ops:Array Oper} {Q:Exit->Act->World->Prop} {rest:List Oper} {a:Act} {w:World}
variable {d:Nat} {ty:TypeId} {pos:String} {aG:Array Edge} {g:Option (Nat × Bool)}
end
end
theorem bP.at {w0 w:World} {F:Nat->Prop} {G0 G:GH} {L Lo:OL} {e sz n c b o:Nat} {xs:List av} (h:bP e sz (.slice (some ⟨b,o,none⟩) n c) n xs Lo) (H:Hp w0 F G0 G L w) (hsub:∀ x∈Lo,x∈L) {i:Nat} {u:av} (hi:xs[i]?=some u):w.cell? ⟨b,i,none⟩=some u:=by
 rcases h.2 with ⟨h1,_⟩|⟨b2,cap,cur,he,hl,h1,h2,h3,h4⟩
 ·cases h1
 ·injection he with e1
  injection e1 with e1
  injection e1 with e1
  subst e1
  refine H.PL (c:=cur) (e:=e) (fz:=(0,0)) (hsub _ (by rw [hl];exact List.mem_singleton_self _)) ?_
  have hx:i < xs.length:=(iI.1 hi).1
  rw [h.1] at hx
  rw [<- h4,sj,aM hx,Array.getElem?_toList] at hi
  exact hi
theorem flat_get {sz:Nat}:∀ {css:List (List av)} {k:Nat} (hk:k < css.length) (h:∀ cs∈css,cs.length=sz) (j:Nat),j < sz->css.flatten[k*sz+j]?=css[k][j]?
 | c :: css,0,_,h,j,hj=>by
  rw [List.flatten_cons,Nat.zero_mul,fC,List.getElem_cons_zero,vZ (by rw [h c qH];exact hj)]
 | c :: css,k+1,hk,h,j,hj=>by
  have ih:=flat_get (css:=css) (k:=k) (by simpa using hk) (fun cs hc=>h cs (List.mem_cons_of_mem _ hc)) j hj
  rw [List.flatten_cons,List.getElem_cons_succ,xK (by rw [h c qH,Nat.succ_mul];omega),h c qH,show (k+1)*sz+j - sz=k*sz+j by rw [Nat.succ_mul];omega]
  exact ih
theorem dK.at {G:GH} {sz:Nat} {rows:List (List Dat)} {xs:List av} (h:dK G sz rows xs) {k:Nat} {r:List Dat} (hk:rows[k]?=some r):∃ cs,cs.length=sz∧(∀ j u,cs[j]?=some u->xs[k*sz+j]?=some u)∧aZ G r cs:=by
 obtain ⟨css,rfl,h2,h3⟩:=h
 have hkl:k < css.length:=by rw [h2];exact (iI.1 hk).1
 obtain ⟨hr,hl⟩:=h3 k r css[k] hk (iR hkl)
 refine ⟨css[k],hl,fun j u hj=>?_,hr⟩
 rw [flat_get hkl (fun cs hc=>?_) j (by rw [<- hl];exact (iI.1 hj).1)]
 ·exact hj
 ·obtain ⟨i,hi,rfl⟩:=List.getElem_of_mem hc
  exact (h3 i rows[i] css[i] (iR V) (iR hi)).2
section
section
variable {N:Nat} {D:List Deferred} {w0:World} {F:Nat->Prop} {G0 G:GH} {L:OL} {T:List (Nat × av)}
variable {r:Option Nat} {P:Program} {ops:Array Oper} {Q:Exit->Act->World->Prop} {rest:List Oper} {a:Act} {w:World}
variable {d:Nat} {ty:TypeId} {pos:String} {aG:Array Edge} {g:Option (Nat × Bool)}
theorem J6 {t yt:TypeId} {x y:Operand} {p q:ByteArray} (H:St N D w0 F G0 G L T a w) (hw:Region.wanted ⟨some d,.binOp .add t x y yt,ty,pos,aG,g⟩ (yielded ops a.tmps)=true) (hx:ev T x=some (.string p)) (hy:ev T y=some (.string q)) (hs:p.size+q.size<=4611686018427387904) (hd:Nat.blt d N=true)
  (k:∀ a',St N D w0 F G0 G L ((d,.string (p++q)) :: T) a' w->WL r P ops Q rest a' w):WL r P ops Q (⟨some d,.binOp .add t x y yt,ty,pos,aG,g⟩ :: rest) a w:=by
 refine dQ (v:=.string (p++q)) (w':=w) hw O ?_ (k _ (H.put hd _ H.hp))
 have h:¬ ((p.size+q.size:Nat):Int) > IntKind.i64.max:=by
  rw [show IntKind.i64.max=9223372036854775807 by decide];omega
 simp only [execOp,H.ev hx,H.ev hy,bZ,eqGuard,binOp,Op.stringOp,aJ h]
 rfl
end
end
theorem Hz:bX 30:=cu func30 O
theorem Vl:bX 21:=cu func21 O
theorem Vk:bX 20:=cu func20 O
theorem Vo:bX 29:=cu func29 O
def iH (l:List dh):List UInt8:=l.flatMap fun c=>gY c.flow++[10]
abbrev fT (l:List UInt8):ByteArray:=⟨l.toArray⟩
theorem Qo {l:List dh} {k:Nat} (hk:k < l.length):iH (l.take (k+1))=iH (l.take k)++(gY l[k].flow++[10]):=by
 rw [lZ hk];simp only [iH,List.flatMap_append,List.flatMap_cons,List.flatMap_nil,mg]
theorem Fz:∀ l:List dh,(iH l).length<=jJ l
 | []=>bD _
 | x :: l=>by
  have:=Fz l;have h2:=DR x.flow;have h3:=uP x
  simp only [iH,List.flatMap_cons,iK,List.length_singleton,jJ,iT,jl] at *;omega
theorem FB {l:List dh} {k:Nat}:(iH (l.take k)).length<=(iH l).length:=by
 have h:iH l=iH (l.take k)++iH (l.drop k):=by
  simp only [iH];rw [<- List.flatMap_append,List.take_append_drop]
 rw [h,iK];omega
theorem tZ (l:List UInt8):(fT l).size=l.length:=by simp [fT,ByteArray.size]
theorem Aj (a b:List UInt8):fT (a++b)=fT a++fT b:=by apply ByteArray.ext;simp [fT]
theorem ZO:fJ (fT [10])=true:=(Fu (s:=⟨#[10]⟩) (c:=10) (n:=1) O Y Y Y (fun j h3 h4=>by omega)).1
theorem Qn:∀ {l:List dh},mK l=true->fJ (fT (iH l))=true
 | [],_=>Nu.1
 | x :: l,h=>by
  rw [mK,Aq,gT] at h;have h1:=(KJ (Hq h.1)).1;have h2:=Qn h.2
  have e:iH (x :: l)=(gY x.flow++[10])++iH l:=by simp [iH]
  rw [e,Aj,Aj];exact Gd (Gd h1 ZO) h2
set_option maxHeartbeats 1000000 in
theorem T9 (G:GH) (w0:World) (hG:Hold G w0) (x:bV) (cs:List av) (hv:aZ G x.dat cs) (hz:iC x.dat<=1073741824) :
  Calls prog 21 #[.agg cs.toArray] w0 (cO w0 G fun u G'=>u=.string (fT (iH x.cells))):=by
 have he:=uQ x;have hrl:=Fz x.cells;have hcl:=Gf x.cells;obtain ⟨pA,pn,pc,dA,dn,dc,yA,yn,yc,fA,fn,fc,rfl,hh,hf⟩:=hv.row;obtain ⟨A,c,Vf,hc1,hc2,hg⟩:=hf.slice;obtain ⟨rfl,rfl,rfl⟩:=Value.slice.inj Vf;rw [bN] at *;refine eN [(0,_)] func21 O ntmps21 O O hG ?_;intro a H;refine jL (fun _ K1=>?_);refine oo (cs:=[_,_,_,_,_,_]) H wn O O O ?_;clear H;intro b1 a w hb1 H;refine kH H (aB K1 O (SR fun _ K2=>?_));clear H K1;intro a H;refine kE RS H wn O ?_;clear H;intro b3 a w hb3 H;refine K2 _ _ ?_;clear K2;refine kP H (SQ fun _ K3=>SR fun _ K4=>gH nV oF 1 O O (Rl kX O (Rm O (Kz K4 (SB ?_)))));clear H K4;intro a H;skip;refine eG (ι:=Nat × av × av × OL × GH) (Tc:=[(3,_),(7,_),(8,_)]) (Lc:=[(_,_)]) (fun gh=>[(9,vi gh.1)]) (fun gh=>[bB b3 gh.2.1 gh.2.2.1]++gh.2.2.2.1) (fun gh=>gh.2.2.2.2) (fun gh=>gh.1<=x.cells.length∧(gh.2.1=.pointer none∨gh.2.1=(aH b3 0))∧bP 5 1 gh.2.2.1 (iH (x.cells.take gh.1)).length (Lib.byteCells (iH (x.cells.take gh.1))) gh.2.2.2.1∧(iH (x.cells.take gh.1)=[]->gh.2.2.1=.slice none 0 0)∧(∀ b o,G b=some o->gh.2.2.2.2 b=some o)) (fun gh=>x.cells.length - gh.1) ((0,.pointer none,.slice none 0 0,[],G)) (by exact (H.dR (Pl:=[_,_]) (dx:=[_,_]) [1,0] Y O).sub ⟨O,O,O,O,aL⟩) ?_ ?_
 ·exact ⟨V,.inl O,bP.nil,fun _=>rfl,fun _ _ h=>h⟩
 clear H;rintro ⟨k,p,v,Lo,g⟩ a w hI H;dsimp only at hI H;obtain ⟨hk,hp,hrw,hnl,hgm⟩:=hI;dsimp only [lca,dB] at H;refine kP H (SR fun _ K5=>Rc O (Kz K5 (SQ fun _ K6=>Cd O ?_ ?_))) <;> clear H K5
 ·intro h10 a H
  try have qm:=dT h10
  have hk2:k < x.cells.length:=by omega
  obtain ⟨b,o,cs,rfl,vF,hrow,hrep⟩:=hg k x.cells[k].dat (by simp [hk2]);obtain ⟨qA,qn,qc,uA,un,uc,zA,zn,zc,xA,xn,xc,rfl,sO,hfc⟩:=hrep.cell;replace hrow:=fun j u hj=>aK hgm (hrow j u hj);have hpz:=FB (l:=x.cells) (k:=k);have Yv:=FB (l:=x.cells) (k:=k+1);have hbs:=Qo hk2;have hbz:=jD List.length hbs;rw [iK,iK] at hbz;have hce:=uP x.cells[k];have hcm:=xg (dV hk2)
  have hts:(fT (gY x.cells[k].flow++[10])).size=(gY x.cells[k].flow).length+1:=by rw [tZ];simp
  refine kP H (Kc K6 (SQ fun _ K7=>SB (SR fun _ K8=>Ri kX kV O O ?_)));clear H K6;intro a H;refine dX kV (cs:=[_,_,_,_,_,_,_]) H wn O O (fun j v hj=>H.hp.aR (hrow j v hj)) O ?_;clear H;intro a H;refine kE kV H wn O ?_;clear H;intro b5 a w hb5 H;refine eO kV 0 (vs:=[_,_,_,_,_,_,_]) H wn O ?_;clear H;intro w H;refine K8 _ _ ?_;clear K8;refine kP H (SC (gH Az rT 0 O O ?_));clear H;intro a H;refine s_call Hz H wn O (J2 _ _ H.ro x.cells[k].flow _ (hfc.mono hgm) V) O ?_;clear H;rintro v15 SF a w rfl Jc H;refine J6 H wn O O (by rw [tZ];show _+1<=_;omega) rfl ?_;clear H;intro a H;rw [show fT (gY x.cells[k].flow)++(⟨#[10]⟩:ByteArray)=fT (gY x.cells[k].flow++[10]) from (Aj _ [10]).symm] at H;refine jH HV (Li:=[_,_]) (L:=bB b3 p v :: Lo) H wn O (acZ _ _ _ b3 p v _ _ (fT (gY x.cells[k].flow++[10])) hp (Hp.owns (Li:=[_,_]) H.hp) hrw (by rw [hts];omega)) rfl ?_;clear H;rintro v_ _ LZ a w ⟨v17,BZ,rfl,Dh,rfl⟩ AX H;refine kH H (Kn K7 (SC (Rd O (Rm O ?_))));clear H K7;intro a H;refine aj ?_;refine bg ((k+1,(aH b3 0),v17,BZ,_)) (by exact (H.dR (Pl:=[_,_,_]) (dx:=[_,_]) [1,2] Y O).sub ⟨O,O,O,O,aL⟩) ?_
  (try dsimp only);exact ⟨V,.inr O,by rw [hbs,GY];have h:=Dh;rw [tZ,<- iK] at h;exact h,fun e=>by rw [hbs] at e;simp at e,fun b o h=>Jc b o (hgm b o h)⟩
 intro h10 a H
 try have qm:=dF h10
 refine dD ?_;refine K3 _ _ ?_;clear K3;refine iF (fun _ K9=>?_);rw [show x.cells.take k=x.cells from iU V] at hrw hnl;refine uf ?_;refine jH NI (Li:=[_]) (L:=bB b3 p v :: Lo) H wn O (Q9 _ _ _ b3 p v (iH x.cells) (Hp.owns (Li:=[_]) H.hp) hrw hnl) O ?_;clear H;rintro v19 rV Te a w rfl mP H;exact kH H (bS K9 O (LR results21 O fun H=>H.rt O))
def Ab (fv:av) (w0:World) (G:GH) (d:List Dat) (k:Int) (s:ByteArray):Prop:=∀ (G1:GH) (w1:World) (cs:List av),(∀ b o,G b=some o->G1 b=some o)->Hold G1 w1->aZ G1 d cs ->
 uR prog fv [.agg cs.toArray] w1 (cO w1 G1 fun u G'=>u=.tuple #[vi k,.string s])
theorem aal (G:GH) (w0:World) (hG:Hold G w0) (x:bV) (cs:List av) (hv:aZ G x.dat cs) (hz:iC x.dat<=1073741824) :
  Calls prog 20 #[.agg cs.toArray] w0 (cO w0 G fun u G'=>u=.tuple #[vi 0,.string (fT (iH x.cells))]):=by
 obtain ⟨pA,pn,pc,dA,dn,dc,yA,yn,yc,fA,fn,fc,rfl,hh,hf⟩:=hv.row;refine eN [(0,_)] func20 O ntmps20 O O hG ?_;intro a H;refine jL (fun _ K1=>?_);refine oo (cs:=[_,_,_,_,_,_]) H wn O O O ?_;clear H;intro b1 a w hb1 H;refine kH H (Ra O (aB K1 O (SR fun _ K2=>?_)));clear H K1;intro a H;refine dX jI (cs:=[_,_,_,_,_,_]) H wn O O (H.hp.dG 0 O O) O ?_;clear H;intro a H;refine s_call Vl H wn O (T9 _ _ H.ro x [_,_,_,_,_,_] hv hz) O ?_;clear H;rintro v5 G5 a w rfl Je H;refine kH H (Ra O (aB K2 O ?_));clear H K2;intro a H;refine aV ?_;refine (aY H results20 (.cons (aD H O) (.cons (aD H O) .nil)) ?_).1;exact H.rt O
theorem Uq (G:GH) (w0:World) (hG:Hold G w0) (x:dh) (cs:List av) (hv:aZ G x.dat cs) (hz:iC x.dat<=1073741824) :
  Calls prog 29 #[.agg cs.toArray] w0 (cO w0 G fun u G'=>u=.tuple #[vi 0,.string (fT (gY x.flow))]):=by
 have he:=uP x;obtain ⟨pA,pn,pc,dA,dn,dc,yA,yn,yc,fA,fn,fc,rfl,hh,hf⟩:=hv.cell;refine eN [(0,_)] func29 O ntmps29 O O hG ?_;intro a H;refine jL (fun _ K1=>?_);refine oo (cs:=[_,_,_,_,_,_,_]) H wn O O O ?_;clear H;intro b1 a w hb1 H;refine kH H (Ra O (aB K1 O (SR fun _ K2=>gH Az rT 0 O O ?_)));clear H K1;intro a H;refine s_call Hz H wn O (J2 _ _ H.ro x.flow _ hf V) O ?_;clear H;rintro v6 G6 a w rfl hm6 H;refine kH H (Ra O (aB K2 O ?_));clear H K2;intro a H;refine aV ?_;refine (aY H results29 (.cons (aD H O) (.cons (aD H O) .nil)) ?_).1;exact H.rt O
theorem Qp {G:GH} {w0:World} (x:bV) (hz:iC x.dat<=1073741824):Ab (.func (.func 20) #[] #[]) w0 G x.dat 0 (fT (iH x.cells)):=by
 intro G1 w1 cs hm1 hG1 hr;exact vo (P:=prog) (caps:=[]) (args:=[.agg cs.toArray]) Vk (aal _ _ hG1 x cs hr hz)
theorem MN {G:GH} {w0:World} (x:dh) (hz:iC x.dat<=1073741824):Ab (.func (.func 29) #[] #[]) w0 G x.dat 0 (fT (gY x.flow)):=by
 intro G1 w1 cs hm1 hG1 hr;exact vo (P:=prog) (caps:=[]) (args:=[.agg cs.toArray]) Vo (Uq _ _ hG1 x cs hr hz)
set_option maxHeartbeats 1000000 in
theorem PU (G:GH) (w0:World) (hG:Hold G w0) (l:List dh) (hA:av) (v1 v2 v3 v4:av) (v:av) (hv:aC G (.sl 7 (l.map dh.dat)) v) (hz:jJ l<=1073741824) :
  Calls prog 24 #[.agg #[hA,v1,v2,v3,v4,v]] w0 (cO w0 G fun u G'=>u=.string (fT (iH l))):=by
 have hrl:=Fz l;have hcl:=Gf l;obtain ⟨A,c,rfl,hc1,hc2,hg⟩:=hv.slice;rw [bN] at *;refine eN [(0,_)] func24 O ntmps24 O O hG ?_;intro a H;refine jL (fun _ K1=>?_);refine oo (cs:=[_,_,_,_,_,_]) H wn O O O ?_;clear H;intro b1 a w hb1 H;refine kH H (aB K1 O (SR fun _ K2=>aB K2 O (SQ fun _ K3=>SR fun _ K4=>aB K4 O (SB ?_))));clear H K1 K2 K4;intro a H;skip;refine eG (ι:=Nat × GH) (Tc:=[(1,_)]) (Lc:=[(_,_)]) (fun gh=>[(3,.string (fT (iH (l.take gh.1)))),(4,vi gh.1)]) (fun gh=>[]) (fun gh=>gh.2) (fun gh=>gh.1<=l.length∧(∀ b o,G b=some o->gh.2 b=some o)) (fun gh=>l.length - gh.1) ((0,G)) (by exact H.sub ⟨O,O,O,aL⟩) ?_ ?_
 ·exact ⟨V,fun _ _ h=>h⟩
 clear H;rintro ⟨k,g⟩ a w hI H;dsimp only at hI H;obtain ⟨hk,hgm⟩:=hI;dsimp only [lca,dB] at H;refine kP H (SQ fun _ K5=>SR fun _ K6=>Rm O (gH nV oF 0 O O (Rl kX O (Rc O (Kz K6 (Cd O ?_ ?_)))))) <;> clear H K6
 ·intro h9 a H
  try have p9:=dT h9
  have hk2:k < l.length:=by omega
  obtain ⟨b,o,cs,rfl,vF,hrow,hrep⟩:=hg k l[k].dat (by simp [hk2]);obtain ⟨qA,qn,qc,uA,un,uc,zA,zn,zc,xA,xn,xc,rfl,sO,hfc⟩:=hrep.cell;replace hrow:=fun j u hj=>aK hgm (hrow j u hj);have hpz:=FB (l:=l) (k:=k);have Yv:=FB (l:=l) (k:=k+1);have hbs:=Qo hk2;have hbz:=jD List.length hbs;rw [iK,iK,List.length_singleton] at hbz;have hce:=uP l[k];have hcm:=xg (dV hk2);refine kP H (Kc K5 (SQ fun _ K7=>SB (SC (Rm O (gH nV oF 0 O O (Rm O (Ri kX kV O O (Rf Az O (Rg rT O (hrow 6 _ O) ?_)))))))));clear H K5;intro a H;refine s_call Hz H wn O (J2 _ _ H.ro l[k].flow _ (hfc.mono hgm) V) O ?_;clear H;rintro v19 rV a w rfl mP H;refine J6 H wn O O (by rw [tZ,tZ];omega) rfl ?_;clear H;intro a H;rw [<- Aj] at H;refine J6 H wn O O (by rw [tZ,iK];show _+1<=_;omega) rfl ?_;clear H;intro a H;rw [show fT (iH (l.take k)++gY l[k].flow)++(⟨#[10]⟩:ByteArray)=fT (iH (l.take (k+1))) by rw [hbs,<- nR];exact (Aj _ [10]).symm] at H;refine kH H (bS K7 O (SC (Rm O (Rd O (Ra O ?_)))));clear H K7;intro a H;refine aj ?_;refine bg ((k+1,_)) (by exact H.sub ⟨O,O,O,aL⟩) ?_
  (try dsimp only);exact ⟨V,fun b o h=>mP b o (hgm b o h)⟩
 intro h9 a H
 try have p9:=dF h9
 refine dD ?_;refine K3 _ _ ?_;clear K3;exact kP H (SR fun _ K8=>Rm O (aB K8 O (LR results24 O fun H=>H.rt (by rw [iU V]))))
theorem tq:prog.underlying 35=some (.slice 62):=by kernel_rfl
theorem vP:Ty prog 62 3 24 [.int .i64 0,.int .i64 0,.int .i64 0] true:=⟨Z,Z⟩
theorem Kk:qX prog 62 [(0,1),(1,1),(2,1)] [.int .i64 0,.int .i64 0,.int .i64 0]:=⟨Z,Z⟩
def rQ (x:Int):Bool:=decide (0<=x) && decide (x<=1000)
def lU (m:Nat) (r:List Int):Int:=if 1024 < r.length then 9 else if ¬ r.length=m then 15 else if r.all rQ then 0 else 2
def wD:List Int->Int
 | []=>0
 | e :: l=>if e=0 then wD l else e
def mZ (S:List (List Int)):Int:=if 1024 < S.length then 9 else wD (S.map (lU (S.headD []).length))
theorem Oe {f:List Int->Int}:∀ {S:List (List Int)} {i:Nat} (hi:i < S.length),(∀ j (hj:j < i),f (S[j]'V)=0)->¬ f S[i]=0->wD (S.map f)=f S[i]
 | [],i,hi,_,_=>by simp at hi
 | r :: S,0,hi,_,h=>by rw [iT,wD];exact aJ h
 | r :: S,i+1,hi,h0,h=>by
  have h1:f r=0:=h0 0 V;rw [iT,wD,aM h1];exact Oe (S:=S) (i:=i) (by simpa using hi) (fun j hj=>h0 (j+1) V) h
theorem Ih {f:List Int->Int}:∀ {S:List (List Int)},(∀ j (hj:j < S.length),f S[j]=0)->wD (S.map f)=0
 | [],_=>rfl
 | r :: S,h=>by
  have h1:f r=0:=h 0 (by simp);rw [iT,wD,aM h1];exact Ih fun j hj=>h (j+1) (by simpa using hj)
def jU (S:List (List Int)):List gV:=if mZ S=0 then jV (aU S) S.length (S.headD []).length 0 0 else []
theorem vg:mZ []=0∧jU []=[]:=by
 have h:mZ []=0:=by decide
 refine ⟨h,?_⟩;rw [jU,aM h,jV,dif_neg (by simp)]
def qp (bf n W j:Nat):List av:=(List.range (n+1)).map fun i=>if i < j then .slice (some ⟨bf,i*W,none⟩) W ((n+1)*W - i*W) else .slice none 0 0
theorem aap (bf n W:Nat):qp bf n W 0=List.replicate (n+1) (.slice none 0 0):=by
 apply List.ext_getElem
 ·simp [qp]
 intro i h1 h2;simp [qp]
theorem aao {bf n W j:Nat} (hj:j < n+1):(qp bf n W j).set j (.slice (some ⟨bf,j*W,none⟩) W ((n+1)*W - j*W))=qp bf n W (j+1):=by
 apply List.ext_getElem
 ·simp [qp]
 intro i h1 h2;rw [List.getElem_set]
 by_cases e:j=i
 ·subst e;simp [qp]
 have:(i < j+1)=(i < j):=by apply propext;omega
 simp [qp,e,this]
theorem aam {bf n W i:Nat} (hi:i<=n):(qp bf n W (n+1))[i]?=some (.slice (some ⟨bf,i*W,none⟩) W ((n+1)*W - i*W)):=by
 simp [qp,List.getElem?_range,show i < n+1 by omega]
theorem aan (bf n W j:Nat):(qp bf n W j).length=n+1:=by simp [qp]
def xk (s:Nat->Nat->Int) (n m:Nat) (fl:List Int) (P:Nat->Nat->Prop):Prop:=fl.length=(n+1)*(m+1)∧∀ i k,i<=n->k<=m->P i k->fl[i*(m+1)+k]?=some (tot s n m i k)
theorem WS {s:Nat->Nat->Int} {n m:Nat}:xk s n m (List.replicate ((n+1)*(m+1)) 0) (fun i k=>n<=i∨k=m):=by
 refine ⟨by simp,fun i k hi hk hp=>?_⟩;rw [BA V]
 have:i*(m+1)+k < (n+1)*(m+1):=by
  have:=Nat.mul_le_mul_right (m+1) hi;rw [Nat.succ_mul];omega
 simp [List.getElem?_replicate,this]
theorem WR {s:Nat->Nat->Int} {n m i k:Nat} {fl:List Int} {P P':Nat->Nat->Prop} (h:xk s n m fl P) (hi:i < n) (hk:k < m) (hP:∀ i' k',P' i' k'->P i' k'∨(i'=i∧k'=k)):xk s n m (fl.set (i*(m+1)+k) (tot s n m i k)) P':=by
 have hlt:i*(m+1)+k < (n+1)*(m+1):=by
  have:=Nat.mul_le_mul_right (m+1) (show i<=n by omega);rw [Nat.succ_mul];omega
 refine ⟨by simp [h.1],fun i' k' hi' hk' hp=>?_⟩;rw [List.getElem?_set]
 by_cases e:i*(m+1)+k=i'*(m+1)+k'
 ·obtain ⟨rfl,rfl⟩:=Zi V V e;rw [aM O,aM (by rw [h.1];exact hlt)]
 rw [aJ e]
 rcases hP i' k' hp with h2|⟨rfl,rfl⟩
 ·exact h.2 i' k' hi' hk' h2
 exact absurd O e
theorem xk.weak {s:Nat->Nat->Int} {n m:Nat} {fl:List Int} {P P':Nat->Nat->Prop} (h:xk s n m fl P) (hp:∀ i k,i<=n->k<=m->P' i k->P i k):xk s n m fl P':=⟨h.1,fun i k hi hk h'=>h.2 i k hi hk (hp i k hi hk h')⟩
set_option maxHeartbeats 4000000 in
theorem GR (G:GH) (w0:World) (hG:Hold G w0) (S:List (List Int)) (v:av) (hv:aC G (.sl 1 (S.map kS)) v) :
    Calls prog 16 #[v] w0 (cO w0 G fun u G'=>∃ x,u=.tuple #[x,vi (mZ S)]∧aC G' (.sl 3 ((jU S).map gV.dat)) x):=by
  obtain ⟨A,c,rfl,hc1,hc2,-⟩:=hv.slice;have hml:maxLen=9223372036854775807:=rfl;rw [bN] at *;obtain ⟨m,hm⟩:∃ m,m=(S.headD []).length:=⟨_,O⟩;refine eN [(0,_)] func16 O ntmps16 O O hG ?_;intro a H;refine jL (fun _ K1=>?_);refine oo (cs:=[_]) H wn O O O ?_;clear H;intro b1 a w hb1 H;refine kH H (Ra O (aB K1 O (SQ fun _ K2=>SR fun _ K3=>Ro nD 0 O (Rl fI O (Rc O (Kz K3 (Cd O ?_ ?_))))))) <;> clear H K1 K3
  · intro h21 a H
    try have mD:=dT h21
    have rG:mZ S=9:=by rw [mZ,dJ]
    have hbl:jU S=[]:=by rw [jU,aJ (by rw [rG];decide)]
    refine kP H (SR fun _ K4=>Ra O (aB K4 O ?_));clear H K4;intro a H;refine aV ?_;refine (aY H results16 (.cons (aD H O) (.cons (aD H O) .nil)) ?_).1;exact H.rt ⟨_,by rw [rG],by rw [hbl];exact aC.kR O Y⟩
  intro h21 a H
  try have mD:=dF h21
  refine kP H (Kc K2 (SQ fun _ K5=>SR fun _ K6=>Ro nD 0 O (Rl fI O (Rm O (Kz K6 (SB ?_))))));clear H K2 K6;intro a H;skip;refine eG (ι:=Nat) (Tc:=[(1,_),(22,_),(23,_)]) (Lc:=[(_,_)]) (fun gh=>[(24,vi gh)]) (fun gh=>[]) (fun gh=>G) (fun gh=>gh<=S.length∧∀ j (hj:j < gh) (hj2:j < S.length),lU m S[j]=0) (fun gh=>S.length - gh) (0) (by exact H.sub ⟨O,O,O,O,aL⟩) ?_ ?_
  · exact ⟨V,fun j hj=>absurd hj (Nat.not_lt_zero _)⟩
  clear H;intro i a w hI H;obtain ⟨hi,hno⟩:=hI;dsimp only [lca,dB] at H;refine kP H (SR fun _ K7=>Rc O (Kz K7 (SQ fun _ K8=>Cd O ?_ ?_))) <;> clear H K7
  · intro iY a H
    try have p25:=dT iY
    have hi2:i < S.length:=by omega
    obtain ⟨b,o,rA,rc,hA,g1,g2⟩:=wO hv hi2;subst hA;obtain ⟨b',o',rA0,rc0,EM,g3,g4⟩:=wO hv (show 0 < S.length by omega)
    obtain ⟨rfl,rfl⟩:b=b'∧o=o':=by simpa using EM
    have hm0:S[0].length=m:=by rw [hm];cases S with|nil=>simp at hi2|cons r S=>rfl
    have qL:∀ e,¬ e=0->lU m S[i]=e->mZ S=e:=fun e he h=>by
      rw [mZ,aX,<- hm,Oe hi2 (fun j hj=>hno j hj V) (by rw [h];exact he),h]
    have hbl:∀ e,¬ e=0->mZ S=e->jU S=[]:=fun e he h=>by rw [jU,aJ (by rw [h];exact he)]
    refine kP H (Kc K8 (SQ fun _ K9=>SB (SR fun _ aP=>Ri fI aW O O (Rg aW O (by assumption) ?_))));clear H K8;intro a H;refine kH H (aB aP O (SQ fun _ bH=>SB (SR fun _ bL=>Rm O (Rl bE O (Rc O (aB bL O (Cd O ?_ ?_))))))) <;> clear H aP bL
    · intro fU a H
      try have p28:=dT fU
      refine kP H (SR fun _ bI=>Ra O (aB bI O ?_));clear H bI;intro a H;refine aV ?_;refine (aY H results16 (.cons (aD H O) (.cons (aD H O) .nil)) ?_).1
      have hr:lU m S[i]=9:=by rw [lU,dJ]
      exact H.rt ⟨_,by rw [qL 9 Y hr],by rw [hbl 9 Y (qL 9 Y hr)];exact aC.kR O Y⟩
    intro fU a H
    try have p28:=dF fU
    refine kP H (SR fun _ cB=>Rm O (Rl bE O (Ro nD 0 O ?_)));clear H;intro a H;refine aT fI aW 0 H wn O O O V O ?_;clear H;intro a H;refine kH H (Rg aW O (by assumption) ?_);clear H;intro a H;refine kH H (Rl bE O (Rc O (aB cB O (Cd O ?_ ?_)))) <;> clear H cB
    · intro h32 a H
      try have p32:=dT h32
      refine kP H (SR fun _ dw=>Ra O (aB dw O ?_));clear H dw;intro a H;refine aV ?_;refine (aY H results16 (.cons (aD H O) (.cons (aD H O) .nil)) ?_).1
      have hr:lU m S[i]=15:=by rw [lU,aX,dJ]
      exact H.rt ⟨_,by rw [qL 15 Y hr],by rw [hbl 15 Y (qL 15 Y hr)];exact aC.kR O Y⟩
    intro h32 a H
    try have p32:=dF h32
    refine kP H (Kc bH (SR fun _ dN=>Rm O (Rl bE O (Rm O (Kz dN (SB ?_))))));clear H bH dN;intro a H;skip;refine eG (ι:=Nat) (Tc:=[(1,_),(22,_),(23,_),(24,_),(40,_),(41,_)]) (Lc:=[(_,_)]) (fun gh=>[(42,vi gh)]) (fun gh=>[]) (fun gh=>G) (fun gh=>gh<=S[i].length∧∀ q (hq:q < gh) (hq2:q < S[i].length),rQ S[i][q]=true) (fun gh=>S[i].length - gh) (0) (by exact H.sub ⟨O,O,O,O,O,O,O,aL⟩) ?_ ?_
    · exact ⟨V,fun q hq=>absurd hq (Nat.not_lt_zero _)⟩
    clear H;intro k a w hI H;obtain ⟨hk,zm⟩:=hI;dsimp only [lca,dB] at H;refine kP H (SR fun _ eP=>Rc O (Kz eP (SQ fun _ fM=>Cd O ?_ ?_))) <;> clear H eP
    · intro h43 a H
      try have p43:=dT h43
      have hk2:k < S[i].length:=by omega
      obtain ⟨b2,o2,hA2,g5⟩:=oZ g2 hk2;subst hA2;refine kP H (Kc fM (SQ fun _ fO=>SB (SR fun _ ig=>Ri bE aF O O (Rg aF O (by assumption) ?_))));clear H fM;intro a H;refine kH H (aB ig O (SR fun _ iq=>Rm O (Rc O (Rm O (Sp 48 O ?_ ?_))))) <;> clear H ig
      · intro h48 a H
        try have p48:=dT h48
        refine kH H (aO h48 O (Pt h48 O (Kz iq (Ct O O (SR fun _ gM=>Ra O (aB gM O ?_))))));clear H iq gM;intro a H;refine aV ?_;refine (aY H results16 (.cons (aD H O) (.cons (aD H O) .nil)) ?_).1
        first
          | (have hr:lU m S[i]=2:=by
              rw [lU,aX,aX,aJ (fun h=>by
                have:=gq.1 h _ (dV hk2)
                simp only [rQ,gT,dH] at this
                omega)]
             exact H.rt ⟨_,by rw [qL 2 Y hr],by rw [hbl 2 Y (qL 2 Y hr)];exact aC.kR O Y⟩)
          | (have hS:S=[]:=List.eq_nil_of_length_eq_zero V
             subst hS
             exact H.rt ⟨_,by rw [vg.1],by rw [vg.2];exact aC.kR O Y⟩)
          | exact H.rt ⟨_,by rw [rG],by rw [jU,aM rG,<- hm];exact hrep⟩
      intro h48 a H
      try have p48:=dF h48
      refine kH H (YM h48 O (YC h48 O (Pf h48 O (Kz iq (Cd O ?_ ?_))))) <;> clear H iq
      · intro kN a H
        try have p51:=dT kN
        refine kP H (SR fun _ jC=>Ra O (aB jC O ?_));clear H jC;intro a H;refine aV ?_;refine (aY H results16 (.cons (aD H O) (.cons (aD H O) .nil)) ?_).1
        first
          | (have hr:lU m S[i]=2:=by
              rw [lU,aX,aX,aJ (fun h=>by
                have:=gq.1 h _ (dV hk2)
                simp only [rQ,gT,dH] at this
                omega)]
             exact H.rt ⟨_,by rw [qL 2 Y hr],by rw [hbl 2 Y (qL 2 Y hr)];exact aC.kR O Y⟩)
          | (have hS:S=[]:=List.eq_nil_of_length_eq_zero V
             subst hS
             exact H.rt ⟨_,by rw [vg.1],by rw [vg.2];exact aC.kR O Y⟩)
          | exact H.rt ⟨_,by rw [rG],by rw [jU,aM rG,<- hm];exact hrep⟩
      intro kN a H
      try have p51:=dF kN
      refine kP H (Kc fO (SC (Rd O (Rm O ?_))));clear H fO;intro a H;refine aj ?_;refine bg ((k+1)) (by exact H.sub ⟨O,O,O,O,O,O,O,aL⟩) ?_
      exact ⟨V,fun q hq hq2=>by
          by_cases e:q=k
          · subst e;simp only [rQ,gT,dH];omega
          exact zm q V hq2⟩
    intro h43 a H
    try have p43:=dF h43
    refine dD ?_;refine K9 _ _ ?_;clear K9;refine kP H (SC (Rd O (Rm O ?_)));clear H;intro a H;refine aj ?_;refine bg ((i+1)) (by exact H.sub ⟨O,O,O,O,aL⟩) ?_
    exact ⟨V,fun j hj hj2=>by
        by_cases e:j=i
        · subst e
          rw [lU,aX,aX,aM (gq.2 fun x hx=>by
            obtain ⟨q,hq,rfl⟩:=List.getElem_of_mem hx
            exact zm q V hq)]
        exact hno j V hj2⟩
  intro iY a H
  try have p25:=dF iY
  refine dD ?_;refine K5 _ _ ?_;clear K5;refine kP H (SQ fun _ iw=>SR fun _ lu=>Ro nD 0 O (Rl fI O (Rc O (Kz lu (Cd O ?_ ?_))))) <;> clear H lu
  · intro bJ a H
    try have p56:=dT bJ
    refine kP H (SR fun _ lX=>Ra O (aB lX O ?_));clear H lX;intro a H;refine aV ?_;refine (aY H results16 (.cons (aD H O) (.cons (aD H O) .nil)) ?_).1
    first
      | (have hr:lU m S[i]=2:=by
          rw [lU,aX,aX,aJ (fun h=>by
            have:=gq.1 h _ (dV hk2)
            simp only [rQ,gT,dH] at this
            omega)]
         exact H.rt ⟨_,by rw [qL 2 Y hr],by rw [hbl 2 Y (qL 2 Y hr)];exact aC.kR O Y⟩)
      | (have hS:S=[]:=List.eq_nil_of_length_eq_zero V
         subst hS
         exact H.rt ⟨_,by rw [vg.1],by rw [vg.2];exact aC.kR O Y⟩)
      | exact H.rt ⟨_,by rw [rG],by rw [jU,aM rG,<- hm];exact hrep⟩
  intro bJ a H
  try have p56:=dF bJ
  have hn0:0 < S.length:=by omega
  have hno':∀ j (hj:j < S.length),lU m S[j]=0:=fun j hj=>hno j V hj
  have rG:mZ S=0:=by rw [mZ,aX,<- hm];exact Ih hno'
  have Fe:∀ r∈S,r.length=m∧r.length<=1024∧r.all rQ=true:=fun r hr=>by
    obtain ⟨j,hj,rfl⟩:=List.getElem_of_mem hr;have:=hno' j hj;rw [lU] at this
    split at this
    · cases this
    split at this
    · cases this
    split at this
    · rename_i h1 h2 h3;exact ⟨V,V,h3⟩
    cases this
  obtain ⟨b,o,rA,rc,hA,g1,g2⟩:=wO hv hn0;subst hA;have hm0:S[0].length=m:=(Fe _ (dV hn0)).1
  have hm1:m<=1024:=by have:=(Fe _ (dV hn0)).2.1;omega
  rw [hm0] at g1 g2;have hN:(S.length+1)*(m+1)<=1025*1025:=Nat.mul_le_mul V V
  have hok:∀ i k,i < S.length->k < m->0<=aU S i k∧aU S i k<=1000:=fun i k hi hk=>by
    have h1:=Fe _ (dV hi);rw [Bn hi V];have h2:=gq.1 h1.2.2 _ (dV (show k < S[i].length by omega))
    simpa [rQ] using h2
  have htb:=fun i k=>Bz (n:=S.length) (m:=m) (fun i k hi hk=>(hok i k hi hk).2) ((S.length - i)+(m - k)) i k (bD _);refine mh ?_;refine iw _ _ ?_;clear iw;refine iF (fun _ nN=>?_);refine dI gG [[],[0],[],[2],[2,3],[2,3,4],[0,1],ra 0 7] [] Z [.slice (some ⟨b,o,none⟩) S.length c,vi S.length,.slice (some ⟨b,o,none⟩) S.length c,(aH b (o+0*1)),.slice rA m rc,vi m,vi S.length,vi m] H (aI ?_ ?_ ?_ ?_ (aI ?_ ?_ ?_ ?_ fQ)) ?_
  · intro au a w G1 _ ah hc hG HT hv;have H:=HT;clear ah;have Hb:=H.full;have H:=Hb;clear hc;refine kH H (Ro nD 0 O ?_);clear H;intro a H;refine aj ⟨O,?_⟩;exact ay HT Hb hG hv (fun _ _ _ _ _ h=>h) H O
  · intro au a w G1 _ ah hc hG HT hv;have H:=HT;clear ah;have H:=H.ak (hv 0 57 (hc 0 Y) O) O;have Hb:=H.full;have H:=Hb;clear hc;refine kH H (Rl fI O ?_);clear H;intro a H;refine aj ⟨O,?_⟩;exact ay HT Hb hG hv (fun _ _ _ _ _ h=>h) H O
  · intro au a w G1 _ ah hc hG HT hv;have H:=HT;clear ah;have Hb:=H.full;have H:=Hb;clear hc;refine kH H (Ro nD 0 O ?_);clear H;intro a H;refine aj ⟨O,?_⟩;exact ay HT Hb hG hv (fun _ _ _ _ _ h=>h) H O
  · intro au a w G1 _ ah hc hG HT hv;have H:=HT;clear ah;have H:=H.ak (hv 2 59 (hc 2 Y) O) O;have Hb:=H.full;have H:=Hb;clear hc;refine aT fI aW 0 H wn O O O V O ?_;clear H;intro a H;refine aj ⟨O,?_⟩;exact ay HT Hb hG hv (fun _ _ _ _ _ h=>h) H O
  · intro au a w G1 _ ah hc hG HT hv;have H:=HT;clear ah;have H:=H.ak (hv 3 60 (hc 3 Y) O) O;have Hb:=H.full;have H:=Hb;clear hc;refine kH H (Rg aW O (aK hG g1) ?_);clear H;intro a H;refine aj ⟨O,?_⟩;exact ay HT Hb hG hv (fun _ _ _ _ _ h=>h) H O
  · intro au a w G1 _ ah hc hG HT hv;have H:=HT;clear ah;have H:=H.ak (hv 4 61 (hc 4 Y) O) O;have Hb:=H.full;have H:=Hb;clear hc;refine kH H (Rl bE O ?_);clear H;intro a H;refine aj ⟨O,?_⟩;exact ay HT Hb hG hv (fun _ _ _ _ _ h=>h) H O
  · intro au a w G1 _ ah hc hG HT hv;have H:=HT;clear ah;have H:=H.ak (hv 1 58 (hc 1 Y) O) O;have Hb:=H.full;have H:=Hb;clear hc;refine kH H (Ra O ?_);clear H;intro a H;refine aj ⟨O,?_⟩;exact ay HT Hb hG hv (fun _ _ _ _ _ h=>h) H O
  · intro au a w G1 _ ah hc hG HT hv;have H:=HT;clear ah;have H:=H.ak (hv 5 62 (hc 5 Y) O) O;have Hb:=H.full;have H:=Hb;clear hc;refine kH H (Ra O ?_);clear H;intro a H;refine aj ⟨O,?_⟩;exact ay HT Hb hG hv (fun _ _ _ _ _ h=>h) H O
  clear H;intro a w G Xi H hv;have H:=H.ak (hv 6 8 O O) O;have H:=H.ak (hv 7 9 O O) O;clear hv;refine aj ⟨O,?_⟩;refine nN _ _ ?_;clear nN;refine iF (fun _ ji=>?_);replace hv:=hv.mono Xi;refine kP H (SC (Rm O (Rd O (Rm O (Rd O ?_)))));clear H;intro a H;refine zM (((S.length+1)*(m+1):Nat):Int) H wn O O (by push_cast;rfl) V V rfl ?_;clear H;intro a H;refine oq ((S.length+1)*(m+1)) bE aF H wn O O O V V O ?_;clear H;intro lC a w ET H;refine kH H (bS ji O (SR fun _ mW=>Rm O (Rd O ?_)));clear H ji;intro a H;refine oq (S.length+1) fI aW H wn O O V V V O ?_;clear H;intro sG a w aei H;rw [<- aap lC S.length (m+1)] at H;refine kE nD H wn O ?_;clear H;intro b11 a w Ov H;refine eO nD 0 (vs:=[_]) H wn O ?_;clear H;intro w H;refine mW _ _ ?_;clear mW;refine kP H (SQ fun _ mX=>SR fun _ lY=>Ro nD 0 O (Rl fI O (Rm O (Kz lY (SB ?_)))));clear H lY;intro a H;skip;refine eG (ι:=Nat × GH) (Tc:=[(1,_),(8,_),(9,_),(10,_),(11,_),(73,_)]) (Lc:=[(_,_),(_,_),(_,_)]) (fun gh=>[(74,vi gh.1)]) (fun gh=>[(sG,.cells (qp lC S.length (m+1) gh.1).toArray 46 (0,0))]) (fun gh=>gh.2) (fun gh=>gh.1<=S.length+1∧(∀ b o,G b=some o->gh.2 b=some o)) (fun gh=>S.length+1 - gh.1) ((0,G)) (by exact (H.dR (Pl:=[_,_,_,_]) (dx:=[_,_,_,_]) [0,2,3,1] Y O).sub ⟨O,O,O,O,O,O,O,aL⟩) ?_ ?_
  · exact ⟨dU _,fun _ _ h=>h⟩
  clear H;rintro ⟨j,g⟩ a w hI H;dsimp only at hI H;obtain ⟨hj,hgm⟩:=hI;dsimp only [lca,dB] at H;refine kP H (SR fun _ nO=>Rc O (Kz nO (SQ fun _ nP=>Cd O ?_ ?_))) <;> clear H nO
  · intro Iy a H
    try have p75:=dT Iy
    have hj2:j < S.length+1:=by omega
    have hmu:(j+1)*(m+1)<=(S.length+1)*(m+1):=Nat.mul_le_mul_right _ V;have aex:(j+1)*(m+1)=j*(m+1)+(m+1):=Nat.succ_mul _ _
    have hsub:(j+1)*(m+1) - j*(m+1)=m+1:=by omega
    have hne:¬ (S.length+1)*(m+1)=j*(m+1):=by omega
    refine kP H (Kc nP (SQ fun _ lJ=>SB (SR fun _ ko=>Rm O (aB ko O ?_))));clear H nP ko;intro a H;refine dI gG [[],[],[],[],[],[4],[3,4,5],[],[7],[],[9],ra 7 4,ra 2 10,ra 0 13,ra 0 14] [14] Z [.slice (some ⟨sG,0,none⟩) (S.length+1) (S.length+1),vi j,.slice (some ⟨lC,0,none⟩) ((S.length+1)*(m+1)) ((S.length+1)*(m+1)),vi j,vi m,vi ((m:Int)+1),vi ((j*(m+1):Nat):Int),vi j,vi ((j:Int)+1),vi m,vi ((m:Int)+1),vi (((j+1)*(m+1):Nat):Int),.slice (some ⟨lC,j*(m+1),none⟩) (m+1) ((S.length+1)*(m+1) - j*(m+1)),(aH sG (0+j*1))] H (aI ?_ ?_ ?_ ?_ (aI ?_ ?_ ?_ ?_ (aI ?_ ?_ ?_ ?_ (iO ?_ (iO ?_ (iO (gB O) fQ)))))) ?_
    · intro au a w G1 _ ah hc hG HT hv;have H:=HT;clear ah;have Hb:=H.full;have H:=Hb;clear hc;refine kH H (Ro nD 0 O ?_);clear H;intro a H;refine aj ⟨O,?_⟩;exact ay HT Hb hG hv (fun _ _ _ _ _ h=>h) H O
    · intro au a w G1 _ ah hc hG HT hv;have H:=HT;clear ah;have Hb:=H.full;have H:=Hb;clear hc;refine kH H (Rm O ?_);clear H;intro a H;refine aj ⟨O,?_⟩;exact ay HT Hb hG hv (fun _ _ _ _ _ h=>h) H O
    · intro au a w G1 _ ah hc hG HT hv;have H:=HT;clear ah;have Hb:=H.full;have H:=Hb;clear hc;refine kH H (Rm O ?_);clear H;intro a H;refine aj ⟨O,?_⟩;exact ay HT Hb hG hv (fun _ _ _ _ _ h=>h) H O
    · intro au a w G1 _ ah hc hG HT hv;have H:=HT;clear ah;have Hb:=H.full;have H:=Hb;clear hc;refine kH H (Rm O ?_);clear H;intro a H;refine aj ⟨O,?_⟩;exact ay HT Hb hG hv (fun _ _ _ _ _ h=>h) H O
    · intro au a w G1 _ ah hc hG HT hv;have H:=HT;clear ah;have Hb:=H.full;have H:=Hb;clear hc;refine kH H (Rm O ?_);clear H;intro a H;refine aj ⟨O,?_⟩;exact ay HT Hb hG hv (fun _ _ _ _ _ h=>h) H O
    · intro au a w G1 _ ah hc hG HT hv;have H:=HT;clear ah;have H:=H.ak (hv 4 81 (hc 4 Y) O) O;have Hb:=H.full;have H:=Hb;clear hc;refine kH H (Rd O ?_);clear H;intro a H;refine aj ⟨O,?_⟩;exact ay HT Hb hG hv (fun _ _ _ _ _ h=>h) H O
    · intro au a w G1 _ ah hc hG HT hv;have H:=HT;clear ah;have H:=H.ak (hv 3 80 (hc 3 Y) O) O;have H:=H.ak (hv 5 82 (hc 5 Y) O) O;have Hb:=H.full;have H:=Hb;clear hc;refine zM ((j*(m+1):Nat):Int) H wn O O (by push_cast;rfl) V V rfl ?_;clear H;intro a H;refine aj ⟨O,?_⟩;exact ay HT Hb hG hv (fun _ _ _ _ _ h=>h) H O
    · intro au a w G1 _ ah hc hG HT hv;have H:=HT;clear ah;have Hb:=H.full;have H:=Hb;clear hc;refine kH H (Rm O ?_);clear H;intro a H;refine aj ⟨O,?_⟩;exact ay HT Hb hG hv (fun _ _ _ _ _ h=>h) H O
    · intro au a w G1 _ ah hc hG HT hv;have H:=HT;clear ah;have H:=H.ak (hv 7 84 (hc 7 Y) O) O;have Hb:=H.full;have H:=Hb;clear hc;refine kH H (Rd O ?_);clear H;intro a H;refine aj ⟨O,?_⟩;exact ay HT Hb hG hv (fun _ _ _ _ _ h=>h) H O
    · intro au a w G1 _ ah hc hG HT hv;have H:=HT;clear ah;have Hb:=H.full;have H:=Hb;clear hc;refine kH H (Rm O ?_);clear H;intro a H;refine aj ⟨O,?_⟩;exact ay HT Hb hG hv (fun _ _ _ _ _ h=>h) H O
    · intro au a w G1 _ ah hc hG HT hv;have H:=HT;clear ah;have H:=H.ak (hv 9 86 (hc 9 Y) O) O;have Hb:=H.full;have H:=Hb;clear hc;refine kH H (Rd O ?_);clear H;intro a H;refine aj ⟨O,?_⟩;exact ay HT Hb hG hv (fun _ _ _ _ _ h=>h) H O
    · intro au a w G1 _ ah hc hG HT hv;have H:=HT;clear ah;have H:=H.ak (hv 8 85 (hc 8 Y) O) O;have H:=H.ak (hv 10 87 (hc 10 Y) O) O;have Hb:=H.full;have H:=Hb;clear hc;refine zM (((j+1)*(m+1):Nat):Int) H wn O O (by push_cast;rfl) V V rfl ?_;clear H;intro a H;refine aj ⟨O,?_⟩;exact ay HT Hb hG hv (fun _ _ _ _ _ h=>h) H O
    · intro au a w G1 _ ah hc hG HT hv;have H:=HT;clear ah;have H:=H.ak (hv 2 79 (hc 2 Y) O) O;have H:=H.ak (hv 6 83 (hc 6 Y) O) O;have H:=H.ak (hv 11 88 (hc 11 Y) O) O;have Hb:=H.full;have H:=Hb;clear hc;refine J8 bE aF (j*(m+1)) ((j+1)*(m+1)) H wn O O O O O V hmu O ?_;clear H;intro a H;rw [aJ hne,oM,add_lit,fC,Nat.mul_one,hsub] at H;refine aj ⟨O,?_⟩;exact ay HT Hb hG hv (fun _ _ _ _ _ h=>h) H O
    · intro au a w G1 _ ah hc hG HT hv;have H:=HT;clear ah;have H:=H.ak (hv 0 77 (hc 0 Y) O) O;have H:=H.ak (hv 1 78 (hc 1 Y) O) O;have Hb:=H.full;have H:=Hb;clear hc;refine aT fI aW j H wn O O O V O ?_;clear H;intro a H;refine aj ⟨O,?_⟩;exact ay HT Hb hG hv (fun _ _ _ _ _ h=>h) H O
    clear H;intro a w G Xj H hv;have H:=H.ak (hv 12 89 O O) O;have H:=H.ak (hv 13 90 O O) O;clear hv;refine pz aW 3 (c:=qp lC S.length (m+1) j) (vs:=[_]) (qp lC S.length (m+1) (j+1)) H wn O O O O O O (Eq.mpr Nat.ble_eq (by rw [aan];simp only [List.length_singleton];omega)) (by rw [fC,Nat.mul_one];exact aao hj2) ?_;clear H;intro w H;dsimp only [List.set] at H;refine aj ⟨O,?_⟩;refine lJ _ _ ?_;clear lJ;refine kP H (SC (Rd O (Rm O ?_)));clear H;intro a H;refine aj ?_;refine bg ((j+1,G)) (by exact H.sub ⟨O,O,O,O,O,O,O,aL⟩) ?_
    (try dsimp only);exact ⟨V,fun b o h=>Xj b o (hgm b o h)⟩
  intro Iy a H
  try have p75:=dF Iy
  refine dD ?_;refine mX _ _ ?_;clear mX;refine iF (fun _ oH=>?_)
  have I7:j=S.length+1:=by omega
  rw [I7] at H;have H:=H.dR (Pl:=[_,_,_,_]) (dx:=[_,_,_,_]) [0,2,3,1] Y O;obtain ⟨Ga,hma,XC,H⟩:=H.jd;obtain ⟨Gb,hmb,hb1',H⟩:=H.jd;obtain ⟨Gc,hmc,XI,H⟩:=H.jd;have hT:Ce Gc b1 b11 sG lC S m:=⟨⟨_,c,(by unfold aR;rw [hmc _ _ hb1'];rfl),hv.mono fun b o h=>hmc b o (hmb b o (hma b o (hgm b o h)))⟩,fun r hr=>(Fe r hr).1,(by unfold aR;rw [hmc _ _ (hmb _ _ XC)];rfl),(fun i hi=>by unfold aR;rw [XI];simpa using aam hi),⟨V,hm1⟩,hok⟩;rw [show List.replicate ((S.length+1)*(m+1)) (Value.int .i64 0)=(List.replicate ((S.length+1)*(m+1)) (0:Int)).map vi from List.map_replicate.symm] at H;refine uf ?_;refine DC H wn O O ?_;clear H;intro a H;refine kH H (bS oH O (SQ fun _ oI=>SR fun _ qB=>Rm O (Rs O (aB qB O (SB ?_)))));clear H oH qB;intro a H;skip;refine eG (ι:=Nat × List Int × GH) (Tc:=[(1,_),(8,_),(9,_),(11,_),(13,_)]) (Lc:=[]) (fun gh=>[(14,vi ((gh.1:Int) - 1))]) (fun gh=>[bF lC gh.2.1]) (fun gh=>gh.2.2) (fun gh=>gh.1<=S.length∧xk (aU S) S.length m gh.2.1 (fun i' k'=>gh.1<=i'∨k'=m)∧(∀ b o,Gc b=some o->gh.2.2 b=some o)) (fun gh=>gh.1) ((S.length,List.replicate ((S.length+1)*(m+1)) 0,Gc)) (by exact H.sub ⟨O,O,O,O,O,O,aL⟩) ?_ ?_
  · exact ⟨bD _,WS,fun _ _ h=>h⟩
  clear H;rintro ⟨j,fl,g⟩ a w hI H;dsimp only at hI H;obtain ⟨hj,hfl,hgm⟩:=hI;dsimp only [lca,dB] at H;refine kP H (SQ fun _ lK=>SR fun _ lM=>Rm O (Rc O (Kz lM (Cd O ?_ ?_)))) <;> clear H lM
  · intro Iz a H
    try have Z7:=dT Iz
    obtain ⟨i,rfl⟩:∃ i,j=i+1:=⟨j - 1,V⟩;rw [show (((i+1:Nat):Int) - 1)=(i:Int) by omega] at H
    have hi2:i < S.length:=by omega
    refine kP H (Kc lK (SQ fun _ pK=>SB (SR fun _ tJ=>Rm O (Rs O (aB tJ O (SB ?_))))));clear H lK tJ;intro a H;skip;refine eG (ι:=Nat × List Int × GH) (Tc:=[(1,_),(8,_),(9,_),(11,_),(13,_),(14,_)]) (Lc:=[]) (fun gh=>[(15,vi ((gh.1:Int) - 1))]) (fun gh=>[bF lC gh.2.1]) (fun gh=>gh.2.2) (fun gh=>gh.1<=m∧xk (aU S) S.length m gh.2.1 (fun i' k'=>i+1<=i'∨k'=m∨(i'=i∧gh.1<=k'))∧(∀ b o,Gc b=some o->gh.2.2 b=some o)) (fun gh=>gh.1) ((m,fl,g)) (by exact H.sub ⟨O,O,O,O,O,O,O,aL⟩) ?_ ?_
    · exact ⟨bD _,hfl.weak (fun i' k' h1 h2 h=>by omega),hgm⟩
    clear H;rintro ⟨q,Cy,g2⟩ a w hI H;dsimp only at hI H;obtain ⟨hq,AQ,eH⟩:=hI;dsimp only [lca,dB] at H;refine kP H (SQ fun _ pO=>SR fun _ tK=>Rm O (Rc O (Kz tK (Cd O ?_ ?_)))) <;> clear H tK
    · intro Ij a H
      try have ZV:=dT Ij
      obtain ⟨k,rfl⟩:∃ k,q=k+1:=⟨q - 1,V⟩;rw [show (((k+1:Nat):Int) - 1)=(k:Int) by omega] at H
      have hk2:k < m:=by omega
      have e1:=AQ.2 (i+1) k V V (.inl (bD _));have e2:=AQ.2 i (k+1) V V V;have e3:=AQ.2 (i+1) (k+1) V V (.inl (bD _));have EP:=hT.mono eH;have t0:=EP.tb;have t1:=EP.rows i V;have t2:=EP.rows (i+1) V;have hb3:=htb (i+1) (k+1)
      have hlt:i*(m+1)+k < (S.length+1)*(m+1):=by
        have:=Nat.mul_le_mul_right (m+1) (show i<=S.length by omega);rw [Nat.succ_mul];omega
      refine kP H (Kc pO (SQ fun _ tL=>SB ?_));clear H pO;intro a H;refine dI gG [[],[],[0,1],[0,1,2],[],[],[],[6],[5,6,7],ra 5 4,[],ra 5 6,ra 5 7,[],[],[13,14],[13,14,15],[],[17],ra 13 6,ra 13 7,[],[],[],[21,22,23],ra 5 20,ra 0 26,ra 0 27] [27] Z [.slice (some ⟨sG,0,none⟩) (S.length+1) (S.length+1),vi i,(aH sG (0+i*1)),.slice (some ⟨lC,i*(m+1),none⟩) (m+1) ((S.length+1)*(m+1) - i*(m+1)),vi k,.slice (some ⟨sG,0,none⟩) (S.length+1) (S.length+1),vi i,vi ((i:Int)+1),(aH sG (0+(i+1)*1)),.slice (some ⟨lC,(i+1)*(m+1),none⟩) (m+1) ((S.length+1)*(m+1) - (i+1)*(m+1)),vi k,(aH lC ((i+1)*(m+1)+k*1)),vi (tot (aU S) S.length m (i+1) k),.slice (some ⟨sG,0,none⟩) (S.length+1) (S.length+1),vi i,(aH sG (0+i*1)),.slice (some ⟨lC,i*(m+1),none⟩) (m+1) ((S.length+1)*(m+1) - i*(m+1)),vi k,vi ((k:Int)+1),(aH lC (i*(m+1)+(k+1)*1)),vi (tot (aU S) S.length m i (k+1)),.func (.func 33) #[] #[(aH b1 0),(aH b11 0)],vi i,vi k,vi (uN (aU S) S.length m i k),vi (tot (aU S) S.length m i k),(aH lC (i*(m+1)+k*1))] H (aI ?_ ?_ ?_ ?_ (aI ?_ ?_ ?_ ?_ (aI ?_ ?_ ?_ ?_ (aI ?_ ?_ ?_ ?_ (aI ?_ ?_ ?_ ?_ (aI ?_ ?_ ?_ ?_ (aI ?_ ?_ ?_ (gB O) fQ))))))) ?_
      · intro au a w G1 _ ah hc hG HT hv;have H:=HT;clear ah;have Hb:=H.full;have H:=Hb;clear hc;refine kH H (Rg nD O (aK hG t0) ?_);clear H;intro a H;refine aj ⟨O,?_⟩;exact ay HT Hb hG hv (fun _ _ _ _ _ h=>h) H O
      · intro au a w G1 _ ah hc hG HT hv;have H:=HT;clear ah;have Hb:=H.full;have H:=Hb;clear hc;refine kH H (Rm O ?_);clear H;intro a H;refine aj ⟨O,?_⟩;exact ay HT Hb hG hv (fun _ _ _ _ _ h=>h) H O
      · intro au a w G1 _ ah hc hG HT hv;have H:=HT;clear ah;have H:=H.ak (hv 0 105 (hc 0 Y) O) O;have H:=H.ak (hv 1 106 (hc 1 Y) O) O;have Hb:=H.full;have H:=Hb;clear hc;refine aT fI aW i H wn O O O V O ?_;clear H;intro a H;refine aj ⟨O,?_⟩;exact ay HT Hb hG hv (fun _ _ _ _ _ h=>h) H O
      · intro au a w G1 _ ah hc hG HT hv;have H:=HT;clear ah;have H:=H.ak (hv 2 107 (hc 2 Y) O) O;have Hb:=H.full;have H:=Hb;clear hc;refine kH H (Rg aW O (aK hG (by rw [fC,Nat.mul_one];exact t1)) ?_);clear H;intro a H;refine aj ⟨O,?_⟩;exact ay HT Hb hG hv (fun _ _ _ _ _ h=>h) H O
      · intro au a w G1 _ ah hc hG HT hv;have H:=HT;clear ah;have Hb:=H.full;have H:=Hb;clear hc;refine kH H (Rm O ?_);clear H;intro a H;refine aj ⟨O,?_⟩;exact ay HT Hb hG hv (fun _ _ _ _ _ h=>h) H O
      · intro au a w G1 _ ah hc hG HT hv;have H:=HT;clear ah;have Hb:=H.full;have H:=Hb;clear hc;refine kH H (Rg nD O (aK hG t0) ?_);clear H;intro a H;refine aj ⟨O,?_⟩;exact ay HT Hb hG hv (fun _ _ _ _ _ h=>h) H O
      · intro au a w G1 _ ah hc hG HT hv;have H:=HT;clear ah;have Hb:=H.full;have H:=Hb;clear hc;refine kH H (Rm O ?_);clear H;intro a H;refine aj ⟨O,?_⟩;exact ay HT Hb hG hv (fun _ _ _ _ _ h=>h) H O
      · intro au a w G1 _ ah hc hG HT hv;have H:=HT;clear ah;have H:=H.ak (hv 6 111 (hc 6 Y) O) O;have Hb:=H.full;have H:=Hb;clear hc;refine kH H (Rd O ?_);clear H;intro a H;refine aj ⟨O,?_⟩;exact ay HT Hb hG hv (fun _ _ _ _ _ h=>h) H O
      · intro au a w G1 _ ah hc hG HT hv;have H:=HT;clear ah;have H:=H.ak (hv 5 110 (hc 5 Y) O) O;have H:=H.ak (hv 7 112 (hc 7 Y) O) O;have Hb:=H.full;have H:=Hb;clear hc;refine aT fI aW (i+1) H wn O O V V O ?_;clear H;intro a H;refine aj ⟨O,?_⟩;exact ay HT Hb hG hv (fun _ _ _ _ _ h=>h) H O
      · intro au a w G1 _ ah hc hG HT hv;have H:=HT;clear ah;have H:=H.ak (hv 8 113 (hc 8 Y) O) O;have Hb:=H.full;have H:=Hb;clear hc;refine kH H (Rg aW O (aK hG (by rw [fC,Nat.mul_one];exact t2)) ?_);clear H;intro a H;refine aj ⟨O,?_⟩;exact ay HT Hb hG hv (fun _ _ _ _ _ h=>h) H O
      · intro au a w G1 _ ah hc hG HT hv;have H:=HT;clear ah;have Hb:=H.full;have H:=Hb;clear hc;refine kH H (Rm O ?_);clear H;intro a H;refine aj ⟨O,?_⟩;exact ay HT Hb hG hv (fun _ _ _ _ _ h=>h) H O
      · intro au a w G1 _ ah hc hG HT hv;have H:=HT;clear ah;have H:=H.ak (hv 9 114 (hc 9 Y) O) O;have H:=H.ak (hv 10 115 (hc 10 Y) O) O;have Hb:=H.full;have H:=Hb;clear hc;refine aT bE aF k H wn O O O V O ?_;clear H;intro a H;refine aj ⟨O,?_⟩;exact ay HT Hb hG hv (fun _ _ _ _ _ h=>h) H O
      · intro au a w G1 _ ah hc hG HT hv;have H:=HT;clear ah;have H:=H.ak (hv 11 116 (hc 11 Y) O) O;have Hb:=H.full;have H:=Hb;clear hc;refine iM aF H wn O (H.hp.jc 0 O (by rw [Nat.mul_one];exact rF e1)) O ?_;clear H;intro a H;refine aj ⟨O,?_⟩;exact ay HT Hb hG hv (fun _ _ _ _ _ h=>h) H O
      · intro au a w G1 _ ah hc hG HT hv;have H:=HT;clear ah;have Hb:=H.full;have H:=Hb;clear hc;refine kH H (Rg nD O (aK hG t0) ?_);clear H;intro a H;refine aj ⟨O,?_⟩;exact ay HT Hb hG hv (fun _ _ _ _ _ h=>h) H O
      · intro au a w G1 _ ah hc hG HT hv;have H:=HT;clear ah;have Hb:=H.full;have H:=Hb;clear hc;refine kH H (Rm O ?_);clear H;intro a H;refine aj ⟨O,?_⟩;exact ay HT Hb hG hv (fun _ _ _ _ _ h=>h) H O
      · intro au a w G1 _ ah hc hG HT hv;have H:=HT;clear ah;have H:=H.ak (hv 13 118 (hc 13 Y) O) O;have H:=H.ak (hv 14 119 (hc 14 Y) O) O;have Hb:=H.full;have H:=Hb;clear hc;refine aT fI aW i H wn O O O V O ?_;clear H;intro a H;refine aj ⟨O,?_⟩;exact ay HT Hb hG hv (fun _ _ _ _ _ h=>h) H O
      · intro au a w G1 _ ah hc hG HT hv;have H:=HT;clear ah;have H:=H.ak (hv 15 120 (hc 15 Y) O) O;have Hb:=H.full;have H:=Hb;clear hc;refine kH H (Rg aW O (aK hG (by rw [fC,Nat.mul_one];exact t1)) ?_);clear H;intro a H;refine aj ⟨O,?_⟩;exact ay HT Hb hG hv (fun _ _ _ _ _ h=>h) H O
      · intro au a w G1 _ ah hc hG HT hv;have H:=HT;clear ah;have Hb:=H.full;have H:=Hb;clear hc;refine kH H (Rm O ?_);clear H;intro a H;refine aj ⟨O,?_⟩;exact ay HT Hb hG hv (fun _ _ _ _ _ h=>h) H O
      · intro au a w G1 _ ah hc hG HT hv;have H:=HT;clear ah;have H:=H.ak (hv 17 122 (hc 17 Y) O) O;have Hb:=H.full;have H:=Hb;clear hc;refine kH H (Rd O ?_);clear H;intro a H;refine aj ⟨O,?_⟩;exact ay HT Hb hG hv (fun _ _ _ _ _ h=>h) H O
      · intro au a w G1 _ ah hc hG HT hv;have H:=HT;clear ah;have H:=H.ak (hv 16 121 (hc 16 Y) O) O;have H:=H.ak (hv 18 123 (hc 18 Y) O) O;have Hb:=H.full;have H:=Hb;clear hc;refine aT bE aF (k+1) H wn O O V V O ?_;clear H;intro a H;refine aj ⟨O,?_⟩;exact ay HT Hb hG hv (fun _ _ _ _ _ h=>h) H O
      · intro au a w G1 _ ah hc hG HT hv;have H:=HT;clear ah;have H:=H.ak (hv 19 124 (hc 19 Y) O) O;have Hb:=H.full;have H:=Hb;clear hc;refine iM aF H wn O (H.hp.jc 0 O (by rw [Nat.mul_one];exact rF e2)) O ?_;clear H;intro a H;refine aj ⟨O,?_⟩;exact ay HT Hb hG hv (fun _ _ _ _ _ h=>h) H O
      · intro au a w G1 _ ah hc hG HT hv;have H:=HT;clear ah;have Hb:=H.full;have H:=Hb;clear hc;refine kH H (Rm O ?_);clear H;intro a H;refine aj ⟨O,?_⟩;exact ay HT Hb hG hv (fun _ _ _ _ _ h=>h) H O
      · intro au a w G1 _ ah hc hG HT hv;have H:=HT;clear ah;have Hb:=H.full;have H:=Hb;clear hc;refine kH H (Rm O ?_);clear H;intro a H;refine aj ⟨O,?_⟩;exact ay HT Hb hG hv (fun _ _ _ _ _ h=>h) H O
      · intro au a w G1 _ ah hc hG HT hv;have H:=HT;clear ah;have Hb:=H.full;have H:=Hb;clear hc;refine kH H (Rm O ?_);clear H;intro a H;refine aj ⟨O,?_⟩;exact ay HT Hb hG hv (fun _ _ _ _ _ h=>h) H O
      · intro au a w G1 _ ah hc hG HT hv;have H:=HT;clear ah;have H:=H.ak (hv 21 126 (hc 21 Y) O) O;have H:=H.ak (hv 22 127 (hc 22 Y) O) O;have H:=H.ak (hv 23 128 (hc 23 Y) O) O;have Hb:=H.full;have H:=Hb;clear hc;refine Bo (Li:=[]) (L:=[bF lC Cy]) H wn O O (Sl (EP.mono hG) (Hp.owns (Li:=[]) H.hp) hi2 hk2 e3 V) O ?_;clear H;rintro aeS adl adt a w ⟨rfl,rfl⟩ Xc H;refine aj ⟨O,?_⟩;exact jw Z (fun _ _ _ _ _ h=>h) O O HT Hb hG hv Xc (rfl) H
      · intro au a w G1 _ ah hc hG HT hv;have H:=HT;clear ah;have H:=H.ak (hv 12 117 (hc 12 Y) O) O;have H:=H.ak (hv 20 125 (hc 20 Y) O) O;have H:=H.ak (hv 24 129 (hc 24 Y) O) O;have Hb:=H.full;have H:=Hb;clear hc;refine aaN H wn O O O O ?_;clear H;intro a H;refine aj ⟨O,?_⟩;exact jw Z (fun _ _ _ _ _ h=>h) O O HT Hb hG hv (fun _ _ h=>h) (by rw [KG hi2 hk2];rfl) H
      · intro au a w G1 _ ah hc hG HT hv;have H:=HT;clear ah;have H:=H.ak (hv 3 108 (hc 3 Y) O) O;have H:=H.ak (hv 4 109 (hc 4 Y) O) O;have Hb:=H.full;have H:=Hb;clear hc;refine aT bE aF k H wn O O O V O ?_;clear H;intro a H;refine aj ⟨O,?_⟩;exact ay HT Hb hG hv (fun _ _ _ _ _ h=>h) H O
      clear H;intro a w G Xk H hv;have H:=H.ak (hv 25 130 O O) O;have H:=H.ak (hv 26 131 O O) O;clear hv;refine pz aF 0 (c:=Cy.map vi) (vs:=[_]) ((Cy.set (i*(m+1)+k) (tot (aU S) S.length m i k)).map vi) H wn O O O O O O (Eq.mpr Nat.ble_eq (by rw [bN,AQ.1];simp only [List.length_singleton];omega)) (by rw [Nat.mul_one,List.map_set];rfl) ?_;clear H;intro w H;dsimp only [List.set] at H;refine aj ⟨O,?_⟩;refine tL _ _ ?_;clear tL;refine kP H (SC (Rm O (Rs O (Ra O ?_))));clear H;intro a H;refine aj ?_;refine bg ((k,Cy.set (i*(m+1)+k) (tot (aU S) S.length m i k),G)) (by exact H.sub ⟨O,O,O,O,O,O,O,aL⟩) ?_
      (try dsimp only);exact ⟨V,WR AQ hi2 hk2 (fun i' k' h=>by omega),fun b o h=>Xk b o (eH b o h)⟩
    intro Ij a H
    try have ZV:=dF Ij
    refine dD ?_;refine pK _ _ ?_;clear pK;refine kP H (SC (Rm O (Rs O (Ra O ?_))));clear H;intro a H;refine aj ?_;refine bg ((i,Cy,g2)) (by exact H.sub ⟨O,O,O,O,O,O,aL⟩) ?_
    (try dsimp only);exact ⟨V,AQ.weak (fun i' k' h1 h2 h=>by omega),eH⟩
  intro Iz a H
  try have Z7:=dF Iz
  refine dD ?_;refine oI _ _ ?_;clear oI;refine iF (fun _ xw=>?_)
  have hj0:j=0:=by omega
  subst hj0;have hall:∀ i k,i<=S.length->k<=m->fl[i*(m+1)+k]?=some (tot (aU S) S.length m i k):=fun i k hi hk=>hfl.2 i k hi hk (.inl (dU _));have XL:=Ch (aU S) S.length m (S.length+m) 0 0 V;refine kP H (SC (bS xw O (SQ fun _ uS=>SR fun _ xB=>Ra O (aB xB O (SB ?_)))));clear H xw xB;intro a H;skip;refine eG (ι:=Nat × Nat × List gV × av × List av × OL × GH) (Tc:=[(1,_),(8,_),(9,_),(11,_),(13,_)]) (Lc:=[(_,_)]) (fun gh=>[(16,gh.2.2.2.1),(17,vi gh.1),(18,vi gh.2.1)]) (fun gh=>[]++gh.2.2.2.2.2.1) (fun gh=>gh.2.2.2.2.2.2) (fun gh=>gh.1<=S.length∧gh.2.1<=m∧bP 62 3 gh.2.2.2.1 gh.2.2.1.length gh.2.2.2.2.1 gh.2.2.2.2.2.1∧dK gh.2.2.2.2.2.2 3 (gh.2.2.1.map gV.dat) gh.2.2.2.2.1∧gh.2.2.1++jV (aU S) S.length m gh.1 gh.2.1=jV (aU S) S.length m 0 0∧(∀ b o,Gc b=some o->gh.2.2.2.2.2.2 b=some o)) (fun gh=>(S.length - gh.1)+(m - gh.2.1)) ((0,0,[],.slice none 0 0,[],[],g)) (by exact H.sub ⟨O,O,O,O,O,O,O,O,aL⟩) ?_ ?_
  · exact ⟨dU _,dU _,bP.nil,dK.nil,O,hgm⟩
  clear H;rintro ⟨i,k,B,v,xs,Lo,g3⟩ a w hI H;dsimp only at hI H;obtain ⟨hi,hk,hrw,nG,heq,lT⟩:=hI
  have hBl:B.length<=1024:=by have:=jD List.length heq;rw [iK] at this;omega
  dsimp only [lca,dB] at H;refine kP H (SQ fun _ rX=>SR fun _ uT=>Rm O (Rm O (Rc O (Rm O (Sp 135 O ?_ ?_))))) <;> clear H
  · intro wE a H
    try have Z4:=dT wE
    refine kH H (YM wE O (YM wE O (YC wE O (Pt wE O (Kz uT (Cd O ?_ ?_)))))) <;> clear H uT
    · intro Il a H
      try have Z5:=dT Il
      have hi2:i < S.length:=by omega
      have hk2:k < m:=by omega
      have ER:=hT.mono lT;have t0:=ER.tb
      have t1:aR g3 sG (0+i*1)=some (.slice (some ⟨lC,i*(m+1),none⟩) (m+1) ((S.length+1)*(m+1) - i*(m+1))):=by rw [fC,Nat.mul_one];exact ER.rows i V
      have hb3:=htb (i+1) (k+1);rw [jV,dif_pos ⟨hi2,hk2⟩] at heq;refine kP H (Kc rX (SB (SR fun _ rY=>Rg nD O (by assumption) ?_)));clear H rX;intro a H;refine kH H (Rm O (Ri fI aW O O (Rg aW O (by assumption) ?_)));clear H;intro a H;refine kH H (Rm O (Ri bE aF O O ?_));clear H;intro a H;refine iM aF H wn O (H.hp.jc 0 O (by rw [Nat.mul_one];exact rF (hall i k V V))) O ?_;clear H;intro a H;refine rY _ _ ?_;clear rY;refine kP H (SB (SR fun _ oJ=>Rm O (Rm O (Rm O ?_))));clear H;intro a H;refine Bo (Li:=[]) (L:=bF lC fl :: Lo) H wn O O (Sl ER (Hp.owns (Li:=[]) H.hp) hi2 hk2 (hall (i+1) (k+1) V V) V) O ?_;clear H;rintro aeW D5 adu a w ⟨rfl,rfl⟩ zk H;dsimp only [List.nil_append] at H;have AO:=ER.mono zk;have t0:=AO.tb
      have t2:aR D5 sG (0+(i+1)*1)=some (.slice (some ⟨lC,(i+1)*(m+1),none⟩) (m+1) ((S.length+1)*(m+1) - (i+1)*(m+1))):=by rw [fC,Nat.mul_one];exact AO.rows (i+1) V
      obtain ⟨A4,c4,s1,s2⟩:=AO.sc;obtain ⟨sb,so,sA,sc,rfl,g1,g2⟩:=wO s2 hi2;obtain ⟨J9,Kh,rfl,g5⟩:=oZ g2 (show k < S[i].length by rw [AO.wid _ (dV hi2)];exact hk2);rw [<- Bn hi2 (by rw [AO.wid _ (dV hi2)];exact hk2)] at g5;have hwi:=AO.wid _ (dV hi2);refine kH H (Rc O (aB oJ O (Cd O ?_ ?_))) <;> clear H oJ
      · intro Im a H
        try have JL:=dT Im
        rw [aM (show tot (aU S) S.length m i k=uN (aU S) S.length m i k from JL)] at heq;refine kP H (SR fun _ xC=>Rm O (Rm O (Rm O (Rg nD O (by assumption) ?_))));clear H;intro a H;refine kH H (Rm O (Ri fI aW O O (Rg aW O (by assumption) ?_)));clear H;intro a H;refine kH H (Rm O (Ri bE aF O O (Rg aF O (by assumption) ?_)));clear H;intro a H;refine kF Kk [_,_,_] H wn O O O O ?_;clear H;intro a H;refine eU tq vP [_,_,_] [_,_,_] H wn O O O O O (by intro i q h;match i,h with|0,h=>exact h|n+1,h=>simp at h) O O ?_;clear H;intro ady a w adS H;refine eD (Li:=[_,_]) (Lo:=Lo) (news:=[vi i,vi k,vi (aU S i k)]) tq vP O O H wn O O hrw O (H.hp.dG 0 O O) O V V O ?_;clear H;intro v167 Tj a w YG H;refine kH H (aB xC O (SC (Rm O (Rd O (Rm O (Rd O (Ra O (Ra O ?_))))))));clear H xC;intro a H;refine aj ?_;refine bg ((i+1,k+1,B++[⟨i,k,aU S i k⟩],v167,xs++[vi i,vi k,vi (aU S i k)],Tj,D5)) (by exact (H.dR (Pl:=[_,_]) (dx:=[_]) [1] Y O).sub ⟨O,O,O,O,O,O,O,O,aL⟩) ?_
        (try dsimp only);exact ⟨V,V,by rw [iK];exact YG,by rw [kC];exact (nG.mono zk).snoc (PG _ ⟨i,k,aU S i k⟩) O,by simpa using heq,fun b o h=>zk b o (lT b o h)⟩
      intro Im a H
      try have JL:=dF Im
      rw [aJ (show ¬ tot (aU S) S.length m i k=uN (aU S) S.length m i k from JL)] at heq;refine kP H (SR fun _ xD=>Rg nD O (by assumption) ?_);clear H;intro a H;refine kH H (Rm O (Rd O ?_));clear H;intro a H;refine aT fI aW (i+1) H wn O O V V O ?_;clear H;intro a H;refine kH H (Rg aW O (by assumption) ?_);clear H;intro a H;refine kH H (Rm O (Ri bE aF O O ?_));clear H;intro a H;refine iM aF H wn O (H.hp.jc 0 O (by rw [Nat.mul_one];exact rF (hall (i+1) k V V))) O ?_;clear H;intro a H;refine kH H (Rc O (aB xD O (Cd O ?_ ?_))) <;> clear H xD
      · intro Io a H
        try have JM:=dT Io
        rw [aM JM] at heq;refine kP H (SC (Rm O (Rd O (Ra O ?_))));clear H;intro a H;refine aj ?_;refine bg ((i+1,k,B,v,xs,Lo,D5)) (by exact H.sub ⟨O,O,O,O,O,O,O,O,aL⟩) ?_
        (try dsimp only);exact ⟨V,V,hrw,nG.mono zk,heq,fun b o h=>zk b o (lT b o h)⟩
      intro Io a H
      try have JM:=dF Io
      rw [aJ JM] at heq;refine kP H (SC (Rm O (Rd O (Ra O ?_))));clear H;intro a H;refine aj ?_;refine bg ((i,k+1,B,v,xs,Lo,D5)) (by exact H.sub ⟨O,O,O,O,O,O,O,O,aL⟩) ?_
      (try dsimp only);exact ⟨V,V,hrw,nG.mono zk,heq,fun b o h=>zk b o (lT b o h)⟩
    intro Il a H
    try have Z5:=dF Il
    refine dD ?_;refine uS _ _ ?_;clear uS;refine iF (fun _ xE=>?_);rw [jV,dif_neg V,mg] at heq;obtain ⟨Gr,hmr,hrep,H⟩:=St.ni (Li:=[_]) H hrw (rows:=B.map gV.dat) (by simp) nG;rw [heq] at hrep;refine kP H (SC (Rm O (Ra O (bS xE O ?_))));clear H xE;intro a H;refine aV ?_;refine (aY H results16 (.cons (aD H O) (.cons (aD H O) .nil)) ?_).1
    first
      | (have hr:lU m S[i]=2:=by
          rw [lU,aX,aX,aJ (fun h=>by
            have:=gq.1 h _ (dV hk2)
            simp only [rQ,gT,dH] at this
            omega)]
         exact H.rt ⟨_,by rw [qL 2 Y hr],by rw [hbl 2 Y (qL 2 Y hr)];exact aC.kR O Y⟩)
      | (have hS:S=[]:=List.eq_nil_of_length_eq_zero V
         subst hS
         exact H.rt ⟨_,by rw [vg.1],by rw [vg.2];exact aC.kR O Y⟩)
      | exact H.rt ⟨_,by rw [rG],by rw [jU,aM rG,<- hm];exact hrep⟩
  intro wE a H
  try have Z4:=dF wE
  refine kH H (aQ wE O (Pf wE O (Kz uT (Cf O O ?_))));clear H uT;intro a H;refine dD ?_;refine uS _ _ ?_;clear uS;refine iF (fun _ rZ=>?_);rw [jV,dif_neg V,mg] at heq;obtain ⟨Gr,hmr,hrep,H⟩:=St.ni (Li:=[_]) H hrw (rows:=B.map gV.dat) (by simp) nG;rw [heq] at hrep;refine kP H (SC (Rm O (Ra O (bS rZ O ?_))));clear H rZ;intro a H;refine aV ?_;refine (aY H results16 (.cons (aD H O) (.cons (aD H O) .nil)) ?_).1
  first
    | (have hr:lU m S[i]=2:=by
        rw [lU,aX,aX,aJ (fun h=>by
          have:=gq.1 h _ (dV hk2)
          simp only [rQ,gT,dH] at this
          omega)]
       exact H.rt ⟨_,by rw [qL 2 Y hr],by rw [hbl 2 Y (qL 2 Y hr)];exact aC.kR O Y⟩)
    | (have hS:S=[]:=List.eq_nil_of_length_eq_zero V
       subst hS
       exact H.rt ⟨_,by rw [vg.1],by rw [vg.2];exact aC.kR O Y⟩)
    | exact H.rt ⟨_,by rw [rG],by rw [jU,aM rG,<- hm];exact hrep⟩
abbrev yB:ByteArray:=⟨#[116,104,101,32,99,97,116]⟩
abbrev sA:ByteArray:=⟨#[97,32,99,97,116]⟩
theorem abY:fJ yB=true:=by kernel_rfl
theorem TD:fJ sA=true:=by kernel_rfl
theorem abX:lI yB=[⟨1,3⟩,⟨2,1⟩,⟨3,3⟩]:=by kernel_rfl
theorem TB:oD yB sA=[⟨4,1⟩,⟨2,1⟩,⟨3,3⟩]:=by kernel_rfl
theorem abU:uX (lI yB) (oD yB sA)=666:=by kernel_rfl
theorem abV:jU [[500,900],[1000,600]]=[⟨0,0,500⟩,⟨1,1,600⟩]:=by kernel_rfl
theorem abW:mZ [[500,900],[1000,600]]=0:=by kernel_rfl
theorem Rw:jr (fun _=>none) yB:=⟨Y,abY,Ac.ascii Y Y,Z⟩
theorem Mf:jr (fun _=>none) sA:=⟨Y,TD,Ac.ascii Y Y,Z⟩
theorem Nz:bX 14:=cu func14 O
theorem NH:bX 32:=cu func32 O
theorem GU {G0:GH} (G:GH) (w0:World) (hG:Hold G w0) (h0:∀ b o,G0 b=some o->G b=some o) (s t:ByteArray) (hs:jr G0 s) (ht:jr G0 t) :
  Calls prog 15 #[.string s,.string t] w0 (cO w0 G fun u G'=>u=.tuple #[vi (uX (lI s) (oD s t)),vi 0]):=by
 refine eN [(0,_),(1,_)] func15 O ntmps15 O O hG ?_;intro a H;refine kP H (SR fun _ K1=>Ra O (aB K1 O (SR fun _ K2=>Rm O (Rm O ?_))));clear H K1;intro a H;refine s_call Nz H wn O (MB _ _ H.ro h0 s t hs ht hs.size ht.size) O ?_;clear H;rintro v12 LC a w ⟨Sw,y12,rfl,Bc,JB⟩ Jb H;refine kH H (Rm O ?_);clear H;intro a H;(iterate 3 refine fZ H wn O O O ?_;clear H;intro a H);refine kH H (Ra O (Ra O (aB K2 O (SQ fun _ K3=>SR fun _ K4=>Rm O (Rc O (Kz K4 (Cd O ?_ ?_))))))) <;> clear H K2 K4
 ·intro dZ a H
  exact absurd dZ Y
 intro dZ a H
 refine kP H (Kc K3 (SR fun _ K5=>Rm O (Rm O ?_)));clear H K3;intro a H;refine s_call NH H wn O (Mj _ _ H.ro _ _ _ _ Bc JB (RL s) (acs s t) (F6 s) (KH s t)) O ?_;clear H;rintro v21 yL a w rfl pY H;(iterate 2 refine fZ H wn O O O ?_;clear H;intro a H);refine kH H (Ra O (aB K5 O ?_));clear H K5;intro a H;refine aV ?_;refine (aY H results15 (.cons (aD H O) (.cons (aD H O) .nil)) ?_).1;exact H.rt O
theorem Hr:bX 15:=cu func15 O
theorem Ht:bX 16:=cu func16 O
theorem Wo:Gm prog 60 [0,1]:=⟨Z,Z,Z,Z,Z⟩
theorem Wp:Gm prog 62 [0,1,2]:=⟨Z,Z,Z,Z,Z⟩
theorem RN {G:GH} {b:Nat} {x y:Int} (hb:G b=some (.cells #[vi x,vi y] 3 (0,0))):aC G (.sl 1 ([x,y].map eZ)) (.slice (some ⟨b,0,none⟩) 2 2) :=
 aC.mQ (xs:=[vi x,vi y]) hb O (bD _) Y (iU (bD _)) (uH _ [x,y])
theorem FC {G:GH} {l:List Int} {v:av} (h:aC G (.sl 1 (l.map eZ)) v):aZ G (kS l) [v]:=by
 simp only [kS,aZ]
 exact ⟨_,_,O,h,O⟩
theorem JZ {G:GH}:∀ (B A:List (List Int)) (vs us:List av),dK G 1 (A.map kS) vs->us.length=B.length->(∀ (i:Nat) (r:List Int) (u:av),B[i]?=some r->us[i]?=some u->aC G (.sl 1 (r.map eZ)) u)->dK G 1 ((A++B).map kS) (vs++us)
 | [],A,vs,[],h,_,_=>by rw [mg,mg];exact h
 | x :: B,A,vs,u :: us,h,hl,hr=>by
  have h2:=h.snoc (FC (hr 0 x u O O)) O;have h3:=JZ B (A++[x]) (vs++[u]) us (by simpa using h2) (by simpa using hl) (fun i r w h1 h2=>hr (i+1) r w (by simpa using h1) (by simpa using h2))
  simpa using h3
theorem JG {G:GH} {l:List gV} {A:Option Addr} {n c k:Nat} (hv:aC G (.sl 3 (l.map gV.dat)) (.slice A n c)) (hk:k < l.length):∃ b o,A=some ⟨b,o,none⟩∧(∀ j u,[vi l[k].a,vi l[k].b,vi l[k].score][j]?=some u->aR G b (o+k*3+j)=some u):=by
 obtain ⟨A',c',he,_,_,hg⟩:=hv.slice
 injection he with e1 e2 e3
 subst e1;obtain ⟨b,o,cs,h1,h2,h3,h4⟩:=hg k l[k].dat (by simp [hk]);obtain rfl:=Zz h4;exact ⟨b,o,h1,h3⟩
set_option maxHeartbeats 2000000 in
theorem Fj (G:GH) (w0:World) (hG:Hold G w0):Calls prog 4 #[] w0 (cO w0 G fun u G'=>u=.bool true):=by
 refine eN [] func4 O ntmps4 O O hG ?_;intro a H;refine kP H (SR fun _ K1=>aB K1 O (SR fun _ K2=>?_));clear H K1;intro a H;refine s_call Nz H wn O (MB _ _ H.ro (fun _ _ h=>by cases h) yB sA Rw Mf Y Y) rfl ?_;clear H;rintro v9 G9 a w ⟨x9,y9,rfl,hx,hy⟩ hm9 H;rw [abX] at hx;rw [TB] at hy;obtain ⟨xA,xc,rfl,-,-,-⟩:=hx.slice;obtain ⟨yA,yc,rfl,-,-,-⟩:=hy.slice;(try dsimp only [List.map_cons,List.map_nil,List.length_cons,List.length_nil] at H);refine kH H (Rm O ?_);clear H;intro a H;(iterate 3 refine fZ H wn O O O ?_;clear H;intro a H);refine kH H (Ra O (Ra O (aB K2 O (SR fun _ K3=>?_))));clear H K2;intro a H;refine s_call Hr H wn O (GU _ _ H.ro (fun _ _ h=>by cases h) yB sA Rw Mf) rfl ?_;clear H;rintro v14 LD a w rfl E5 H;rw [abU] at H;refine kH H (Rm O ?_);clear H;intro a H;(iterate 2 refine fZ H wn O O O ?_;clear H;intro a H);refine kH H (Ra O (aB K3 O (SR fun _ K4=>?_)));clear H K3;intro a H;refine eU bE aF [_,_] [_,_] H wn O O O O O (by intro i q h;match i,h with|0,h=>exact h|1,h=>exact h|n+2,h=>simp at h) O O ?_;clear H;intro b18 a w Ox H;refine eU bE aF [_,_] [_,_] H wn O O O O O (by intro i q h;match i,h with|0,h=>exact h|1,h=>exact h|n+2,h=>simp at h) O O ?_;clear H;intro b19 a w adT H;refine eU fI aW [_,_] [_,_] H wn O O O O O (by intro i q h;match i,h with|0,h=>exact h|1,h=>exact h|n+2,h=>simp at h) O O ?_;clear H;intro b20 a w adU H;obtain ⟨Ga,hma,hga,H⟩:=H.jd;obtain ⟨Gb,hmb,hgb,H⟩:=H.jd;obtain ⟨Gc,hmc,hgc,H⟩:=H.jd;have ht1:=RN (hmc _ _ hgb);have ht2:=RN hgc;have ht3:aC Gc (.sl 1 ([[500,900],[1000,600]].map kS)) _:=aC.mQ (xs:=[_,_]) (hmc _ _ (hmb _ _ hga)) O (bD _) Y O (by simpa using ((dK.nil (sz:=1)).snoc (FC ht2) O).snoc (FC ht1) O);refine s_call Ht H wn O (GR _ _ H.ro _ _ ht3) O ?_;clear H;rintro v21 yL a w ⟨z21,rfl,hz⟩ pY H;rw [abV] at hz;rw [abW] at H;obtain ⟨zA,zc,rfl,-,-,-⟩:=hz.slice;(try dsimp only [List.map_cons,List.map_nil,List.length_cons,List.length_nil] at H);refine kH H (Rm O ?_);clear H;intro a H;(iterate 2 refine fZ H wn O O O ?_;clear H;intro a H);refine kH H (Ra O (aB K4 O (SQ fun _ K5=>?_)));clear H K4;intro a H;obtain ⟨xb,xo,rfl,hx2⟩:=zT (k:=2) ((((((hx.mono E5).mono hma).mono hmb).mono hmc).mono pY)) Y;obtain ⟨yb,yo,rfl,hy2⟩:=zT (k:=2) ((((((hy.mono E5).mono hma).mono hmb).mono hmc).mono pY)) Y;obtain ⟨_,_,ey,hy0⟩:=zT (k:=0) ((((((hy.mono E5).mono hma).mono hmb).mono hmc).mono pY)) Y
 injection ey with ey;injection ey with Ww Wx;subst Ww;subst Wx
 obtain ⟨zb,zo,rfl,hz1⟩:=JG (k:=1) hz Y;refine dI gG [[],[0],[0,1],[0,1,2],ra 0 4,ra 0 5,ra 0 6,ra 0 7,ra 0 8,ra 0 9,ra 0 10,ra 0 11,ra 0 12,ra 0 13,ra 0 14,ra 0 15,ra 0 13,(ra 0 13++[16]),(ra 0 13++[16,17]),ra 0 19,ra 0 20,ra 0 21,ra 0 22,ra 0 23,ra 0 24,ra 0 25,ra 0 26,ra 0 27,ra 0 28,ra 0 29,ra 0 30,ra 0 31,ra 0 32,ra 0 33,ra 0 34,ra 0 35,ra 0 36,ra 0 37,ra 0 38,ra 0 39,ra 0 40,ra 0 41,ra 0 42,ra 0 43,ra 0 44,ra 0 45,ra 0 46,ra 0 47,ra 0 48,ra 0 46,ra 0 50,ra 0 51,ra 0 52] [52] Z [vi 0,.bool true,.bool true,.slice (some ⟨xb,xo,none⟩) 3 xc,vi 3,.bool true,.bool true,.bool true,.slice (some ⟨yb,yo,none⟩) 3 yc,vi 3,.bool true,.bool true,.bool true,.slice (some ⟨xb,xo,none⟩) 3 xc,(aH xb (xo+2*2)),.agg #[vi 3,vi 3],.slice (some ⟨yb,yo,none⟩) 3 yc,(aH yb (yo+2*2)),.agg #[vi 3,vi 3],.bool true,.bool true,.bool true,.slice (some ⟨yb,yo,none⟩) 3 yc,(aH yb (yo+0*2)),(aH yb (yo+0*2+0)),vi 4,.bool true,.bool true,.bool true,vi 666,.bool true,.bool true,.bool true,vi 0,.bool true,.bool true,.bool true,vi 0,.bool true,.bool true,.bool true,.slice (some ⟨zb,zo,none⟩) 2 zc,vi 2,.bool true,.bool true,.bool true,.slice (some ⟨zb,zo,none⟩) 2 zc,(aH zb (zo+1*3)),.agg #[vi 1,vi 1,vi 600],.agg #[vi 1,vi 1,vi 600],.bool true,.bool true] H (aI ?_ ?_ ?_ ?_ (aI ?_ ?_ ?_ ?_ (aI ?_ ?_ ?_ ?_ (aI ?_ ?_ ?_ ?_ (aI ?_ ?_ ?_ ?_ (aI ?_ ?_ ?_ ?_ (aI ?_ ?_ ?_ ?_ (aI ?_ ?_ ?_ ?_ (aI ?_ ?_ ?_ ?_ (aI ?_ ?_ ?_ ?_ (aI ?_ ?_ ?_ ?_ (aI ?_ ?_ ?_ ?_ (aI ?_ ?_ ?_ ?_ (iO (gB O) fQ)))))))))))))) ?_
 ·intro au a w G1 _ ah hc hG HT hv;have H:=HT;clear ah;have Hb:=H.full;have H:=Hb;clear hc;refine kH H (Rm O ?_);clear H;intro a H;refine aj ⟨O,?_⟩;exact ay HT Hb hG hv (fun _ _ _ _ _ h=>h) H O
 ·intro au a w G1 _ ah hc hG HT hv;have H:=HT;clear ah;have H:=H.ak (hv 0 24 (hc 0 Y) O) O;have Hb:=H.full;have H:=Hb;clear hc;refine kH H (Rc O ?_);clear H;intro a H;refine aj ⟨O,?_⟩;exact ay HT Hb hG hv (fun _ _ _ _ _ h=>h) H O
 ·intro au a w G1 _ ah hc hG HT hv;have H:=HT;clear ah;have H:=H.ak (hv 1 25 (hc 1 Y) O) O;have Hb:=H.full;have H:=Hb;clear hc;refine kH H (Rm O ?_);clear H;intro a H;refine aj ⟨O,?_⟩;exact ay HT Hb hG hv (fun _ _ _ _ _ h=>h) H O
 ·intro au a w G1 _ ah hc hG HT hv;have H:=HT;clear ah;have H:=H.ak (hv 2 26 (hc 2 Y) O) O;have Hb:=H.full;have H:=Hb;clear hc;refine lH H (wg H O O O) O O ?_;clear H;intro a H;refine aj ⟨O,?_⟩;exact ay HT Hb hG hv (fun _ _ _ _ _ h=>h) H O
 ·intro au a w G1 _ ah hc hG HT hv;have H:=HT;clear ah;have H:=H.ak (hv 3 27 (hc 3 Y) O) O;have H:=H.ak (hv 2 26 (hc 2 Y) O) O;have Hb:=H.full;have H:=Hb;clear hc;refine wT bG H (wg H O O O) O O ?_;clear H;intro a H;refine aj ⟨O,?_⟩;exact ay HT Hb hG hv (fun _ _ _ _ _ h=>h) H O
 ·intro au a w G1 _ ah hc hG HT hv;have H:=HT;clear ah;have H:=H.ak (hv 4 28 (hc 4 Y) O) O;have H:=H.ak (hv 2 26 (hc 2 Y) O) O;have Hb:=H.full;have H:=Hb;clear hc;refine wS H (wg H O O O) O O O O ?_;clear H;intro a H;refine aj ⟨O,?_⟩;exact ay HT Hb hG hv (fun _ _ _ _ _ h=>h) H O
 ·intro au a w G1 _ ah hc hG HT hv;have H:=HT;clear ah;have H:=H.ak (hv 2 26 (hc 2 Y) O) O;have H:=H.ak (hv 5 29 (hc 5 Y) O) O;have Hb:=H.full;have H:=Hb;clear hc;refine kH H (Pt O O ?_);clear H;intro a H;refine aj ⟨O,?_⟩;exact ay HT Hb hG hv (fun _ _ _ _ _ h=>h) H O
 ·intro au a w G1 _ ah hc hG HT hv;have H:=HT;clear ah;have H:=H.ak (hv 6 30 (hc 6 Y) O) O;have Hb:=H.full;have H:=Hb;clear hc;refine kH H (Rm O ?_);clear H;intro a H;refine aj ⟨O,?_⟩;exact ay HT Hb hG hv (fun _ _ _ _ _ h=>h) H O
 ·intro au a w G1 _ ah hc hG HT hv;have H:=HT;clear ah;have H:=H.ak (hv 7 31 (hc 7 Y) O) O;have Hb:=H.full;have H:=Hb;clear hc;refine lH H (wg H O O O) O O ?_;clear H;intro a H;refine aj ⟨O,?_⟩;exact ay HT Hb hG hv (fun _ _ _ _ _ h=>h) H O
 ·intro au a w G1 _ ah hc hG HT hv;have H:=HT;clear ah;have H:=H.ak (hv 8 32 (hc 8 Y) O) O;have H:=H.ak (hv 7 31 (hc 7 Y) O) O;have Hb:=H.full;have H:=Hb;clear hc;refine wT bG H (wg H O O O) O O ?_;clear H;intro a H;refine aj ⟨O,?_⟩;exact ay HT Hb hG hv (fun _ _ _ _ _ h=>h) H O
 ·intro au a w G1 _ ah hc hG HT hv;have H:=HT;clear ah;have H:=H.ak (hv 9 33 (hc 9 Y) O) O;have H:=H.ak (hv 7 31 (hc 7 Y) O) O;have Hb:=H.full;have H:=Hb;clear hc;refine wS H (wg H O O O) O O O O ?_;clear H;intro a H;refine aj ⟨O,?_⟩;exact ay HT Hb hG hv (fun _ _ _ _ _ h=>h) H O
 ·intro au a w G1 _ ah hc hG HT hv;have H:=HT;clear ah;have H:=H.ak (hv 7 31 (hc 7 Y) O) O;have H:=H.ak (hv 10 34 (hc 10 Y) O) O;have Hb:=H.full;have H:=Hb;clear hc;refine kH H (Pt O O ?_);clear H;intro a H;refine aj ⟨O,?_⟩;exact ay HT Hb hG hv (fun _ _ _ _ _ h=>h) H O
 ·intro au a w G1 _ ah hc hG HT hv;have H:=HT;clear ah;have H:=H.ak (hv 11 35 (hc 11 Y) O) O;have Hb:=H.full;have H:=Hb;clear hc;refine kH H (Rm O ?_);clear H;intro a H;refine aj ⟨O,?_⟩;exact ay HT Hb hG hv (fun _ _ _ _ _ h=>h) H O
 ·intro au a w G1 _ ah hc hG HT hv;have H:=HT;clear ah;have H:=H.ak (hv 12 36 (hc 12 Y) O) O;have Hb:=H.full;have H:=Hb;clear hc;refine lH H (wg H O O O) O O ?_;clear H;intro a H;refine aj ⟨O,?_⟩;exact ay HT Hb hG hv (fun _ _ _ _ _ h=>h) H O
 ·intro au a w G1 _ ah hc hG HT hv;have H:=HT;clear ah;have H:=H.ak (hv 13 37 (hc 13 Y) O) O;have H:=H.ak (hv 12 36 (hc 12 Y) O) O;have Hb:=H.full;have H:=Hb;clear hc;refine aT bG bO 2 H (wg H O O O) O O O Y O ?_;clear H;intro a H;refine aj ⟨O,?_⟩;exact ay HT Hb hG hv (fun _ _ _ _ _ h=>h) H O
 ·intro au a w G1 _ ah hc hG HT hv;have H:=HT;clear ah;have H:=H.ak (hv 14 38 (hc 14 Y) O) O;have H:=H.ak (hv 12 36 (hc 12 Y) O) O;have Hb:=H.full;have H:=Hb;clear hc;refine dX bO (cs:=[_,_]) H (wg H O O O) O O (fun j v hj=>H.hp.aR (aK hG (hx2 j v hj))) O ?_;clear H;intro a H;refine aj ⟨O,?_⟩;exact ay HT Hb hG hv (fun _ _ _ _ _ h=>h) H O
 ·intro au a w G1 _ ah hc hG HT hv;have H:=HT;clear ah;have H:=H.ak (hv 12 36 (hc 12 Y) O) O;have Hb:=H.full;have H:=Hb;clear hc;refine lH H (wg H O O O) O O ?_;clear H;intro a H;refine aj ⟨O,?_⟩;exact ay HT Hb hG hv (fun _ _ _ _ _ h=>h) H O
 ·intro au a w G1 _ ah hc hG HT hv;have H:=HT;clear ah;have H:=H.ak (hv 16 40 (hc 16 Y) O) O;have H:=H.ak (hv 12 36 (hc 12 Y) O) O;have Hb:=H.full;have H:=Hb;clear hc;refine aT bG bO 2 H (wg H O O O) O O O Y O ?_;clear H;intro a H;refine aj ⟨O,?_⟩;exact ay HT Hb hG hv (fun _ _ _ _ _ h=>h) H O
 ·intro au a w G1 _ ah hc hG HT hv;have H:=HT;clear ah;have H:=H.ak (hv 17 41 (hc 17 Y) O) O;have H:=H.ak (hv 12 36 (hc 12 Y) O) O;have Hb:=H.full;have H:=Hb;clear hc;refine dX bO (cs:=[_,_]) H (wg H O O O) O O (fun j v hj=>H.hp.aR (aK hG (hy2 j v hj))) O ?_;clear H;intro a H;refine aj ⟨O,?_⟩;exact ay HT Hb hG hv (fun _ _ _ _ _ h=>h) H O
 ·intro au a w G1 _ ah hc hG HT hv;have H:=HT;clear ah;have H:=H.ak (hv 15 39 (hc 15 Y) O) O;have H:=H.ak (hv 18 42 (hc 18 Y) O) O;have H:=H.ak (hv 12 36 (hc 12 Y) O) O;have Hb:=H.full;have H:=Hb;clear hc;refine QC Wo H (wg H O O O) O O O O ?_;clear H;intro a H;refine aj ⟨O,?_⟩;exact ay HT Hb hG hv (fun _ _ _ _ _ h=>h) H O
 ·intro au a w G1 _ ah hc hG HT hv;have H:=HT;clear ah;have H:=H.ak (hv 12 36 (hc 12 Y) O) O;have H:=H.ak (hv 19 43 (hc 19 Y) O) O;have Hb:=H.full;have H:=Hb;clear hc;refine kH H (Pt O O ?_);clear H;intro a H;refine aj ⟨O,?_⟩;exact ay HT Hb hG hv (fun _ _ _ _ _ h=>h) H O
 ·intro au a w G1 _ ah hc hG HT hv;have H:=HT;clear ah;have H:=H.ak (hv 20 44 (hc 20 Y) O) O;have Hb:=H.full;have H:=Hb;clear hc;refine kH H (Rm O ?_);clear H;intro a H;refine aj ⟨O,?_⟩;exact ay HT Hb hG hv (fun _ _ _ _ _ h=>h) H O
 ·intro au a w G1 _ ah hc hG HT hv;have H:=HT;clear ah;have H:=H.ak (hv 21 45 (hc 21 Y) O) O;have Hb:=H.full;have H:=Hb;clear hc;refine lH H (wg H O O O) O O ?_;clear H;intro a H;refine aj ⟨O,?_⟩;exact ay HT Hb hG hv (fun _ _ _ _ _ h=>h) H O
 ·intro au a w G1 _ ah hc hG HT hv;have H:=HT;clear ah;have H:=H.ak (hv 22 46 (hc 22 Y) O) O;have H:=H.ak (hv 21 45 (hc 21 Y) O) O;have Hb:=H.full;have H:=Hb;clear hc;refine aT bG bO 0 H (wg H O O O) O O O Y O ?_;clear H;intro a H;refine aj ⟨O,?_⟩;exact ay HT Hb hG hv (fun _ _ _ _ _ h=>h) H O
 ·intro au a w G1 _ ah hc hG HT hv;have H:=HT;clear ah;have H:=H.ak (hv 23 47 (hc 23 Y) O) O;have H:=H.ak (hv 21 45 (hc 21 Y) O) O;have Hb:=H.full;have H:=Hb;clear hc;refine FI rE H (wg H O O O) O O ?_;clear H;intro a H;refine aj ⟨O,?_⟩;exact ay HT Hb hG hv (fun _ _ _ _ _ h=>h) H O
 ·intro au a w G1 _ ah hc hG HT hv;have H:=HT;clear ah;have H:=H.ak (hv 24 48 (hc 24 Y) O) O;have H:=H.ak (hv 21 45 (hc 21 Y) O) O;have Hb:=H.full;have H:=Hb;clear hc;refine iM aF H (wg H O O O) O (H.hp.aR (aK hG (hy0 0 _ O))) O ?_;clear H;intro a H;refine aj ⟨O,?_⟩;exact ay HT Hb hG hv (fun _ _ _ _ _ h=>h) H O
 ·intro au a w G1 _ ah hc hG HT hv;have H:=HT;clear ah;have H:=H.ak (hv 25 49 (hc 25 Y) O) O;have H:=H.ak (hv 21 45 (hc 21 Y) O) O;have Hb:=H.full;have H:=Hb;clear hc;refine wS H (wg H O O O) O O O O ?_;clear H;intro a H;refine aj ⟨O,?_⟩;exact ay HT Hb hG hv (fun _ _ _ _ _ h=>h) H O
 ·intro au a w G1 _ ah hc hG HT hv;have H:=HT;clear ah;have H:=H.ak (hv 21 45 (hc 21 Y) O) O;have H:=H.ak (hv 26 50 (hc 26 Y) O) O;have Hb:=H.full;have H:=Hb;clear hc;refine kH H (Pt O O ?_);clear H;intro a H;refine aj ⟨O,?_⟩;exact ay HT Hb hG hv (fun _ _ _ _ _ h=>h) H O
 ·intro au a w G1 _ ah hc hG HT hv;have H:=HT;clear ah;have H:=H.ak (hv 27 51 (hc 27 Y) O) O;have Hb:=H.full;have H:=Hb;clear hc;refine kH H (Rm O ?_);clear H;intro a H;refine aj ⟨O,?_⟩;exact ay HT Hb hG hv (fun _ _ _ _ _ h=>h) H O
 ·intro au a w G1 _ ah hc hG HT hv;have H:=HT;clear ah;have H:=H.ak (hv 28 52 (hc 28 Y) O) O;have Hb:=H.full;have H:=Hb;clear hc;refine lH H (wg H O O O) O O ?_;clear H;intro a H;refine aj ⟨O,?_⟩;exact ay HT Hb hG hv (fun _ _ _ _ _ h=>h) H O
 ·intro au a w G1 _ ah hc hG HT hv;have H:=HT;clear ah;have H:=H.ak (hv 29 53 (hc 29 Y) O) O;have H:=H.ak (hv 28 52 (hc 28 Y) O) O;have Hb:=H.full;have H:=Hb;clear hc;refine wS H (wg H O O O) O O O O ?_;clear H;intro a H;refine aj ⟨O,?_⟩;exact ay HT Hb hG hv (fun _ _ _ _ _ h=>h) H O
 ·intro au a w G1 _ ah hc hG HT hv;have H:=HT;clear ah;have H:=H.ak (hv 28 52 (hc 28 Y) O) O;have H:=H.ak (hv 30 54 (hc 30 Y) O) O;have Hb:=H.full;have H:=Hb;clear hc;refine kH H (Pt O O ?_);clear H;intro a H;refine aj ⟨O,?_⟩;exact ay HT Hb hG hv (fun _ _ _ _ _ h=>h) H O
 ·intro au a w G1 _ ah hc hG HT hv;have H:=HT;clear ah;have H:=H.ak (hv 31 55 (hc 31 Y) O) O;have Hb:=H.full;have H:=Hb;clear hc;refine kH H (Rm O ?_);clear H;intro a H;refine aj ⟨O,?_⟩;exact ay HT Hb hG hv (fun _ _ _ _ _ h=>h) H O
 ·intro au a w G1 _ ah hc hG HT hv;have H:=HT;clear ah;have H:=H.ak (hv 32 56 (hc 32 Y) O) O;have Hb:=H.full;have H:=Hb;clear hc;refine lH H (wg H O O O) O O ?_;clear H;intro a H;refine aj ⟨O,?_⟩;exact ay HT Hb hG hv (fun _ _ _ _ _ h=>h) H O
 ·intro au a w G1 _ ah hc hG HT hv;have H:=HT;clear ah;have H:=H.ak (hv 33 57 (hc 33 Y) O) O;have H:=H.ak (hv 32 56 (hc 32 Y) O) O;have Hb:=H.full;have H:=Hb;clear hc;refine wS H (wg H O O O) O O O O ?_;clear H;intro a H;refine aj ⟨O,?_⟩;exact ay HT Hb hG hv (fun _ _ _ _ _ h=>h) H O
 ·intro au a w G1 _ ah hc hG HT hv;have H:=HT;clear ah;have H:=H.ak (hv 32 56 (hc 32 Y) O) O;have H:=H.ak (hv 34 58 (hc 34 Y) O) O;have Hb:=H.full;have H:=Hb;clear hc;refine kH H (Pt O O ?_);clear H;intro a H;refine aj ⟨O,?_⟩;exact ay HT Hb hG hv (fun _ _ _ _ _ h=>h) H O
 ·intro au a w G1 _ ah hc hG HT hv;have H:=HT;clear ah;have H:=H.ak (hv 35 59 (hc 35 Y) O) O;have Hb:=H.full;have H:=Hb;clear hc;refine kH H (Rm O ?_);clear H;intro a H;refine aj ⟨O,?_⟩;exact ay HT Hb hG hv (fun _ _ _ _ _ h=>h) H O
 ·intro au a w G1 _ ah hc hG HT hv;have H:=HT;clear ah;have H:=H.ak (hv 36 60 (hc 36 Y) O) O;have Hb:=H.full;have H:=Hb;clear hc;refine lH H (wg H O O O) O O ?_;clear H;intro a H;refine aj ⟨O,?_⟩;exact ay HT Hb hG hv (fun _ _ _ _ _ h=>h) H O
 ·intro au a w G1 _ ah hc hG HT hv;have H:=HT;clear ah;have H:=H.ak (hv 37 61 (hc 37 Y) O) O;have H:=H.ak (hv 36 60 (hc 36 Y) O) O;have Hb:=H.full;have H:=Hb;clear hc;refine wS H (wg H O O O) O O O O ?_;clear H;intro a H;refine aj ⟨O,?_⟩;exact ay HT Hb hG hv (fun _ _ _ _ _ h=>h) H O
 ·intro au a w G1 _ ah hc hG HT hv;have H:=HT;clear ah;have H:=H.ak (hv 36 60 (hc 36 Y) O) O;have H:=H.ak (hv 38 62 (hc 38 Y) O) O;have Hb:=H.full;have H:=Hb;clear hc;refine kH H (Pt O O ?_);clear H;intro a H;refine aj ⟨O,?_⟩;exact ay HT Hb hG hv (fun _ _ _ _ _ h=>h) H O
 ·intro au a w G1 _ ah hc hG HT hv;have H:=HT;clear ah;have H:=H.ak (hv 39 63 (hc 39 Y) O) O;have Hb:=H.full;have H:=Hb;clear hc;refine kH H (Rm O ?_);clear H;intro a H;refine aj ⟨O,?_⟩;exact ay HT Hb hG hv (fun _ _ _ _ _ h=>h) H O
 ·intro au a w G1 _ ah hc hG HT hv;have H:=HT;clear ah;have H:=H.ak (hv 40 64 (hc 40 Y) O) O;have Hb:=H.full;have H:=Hb;clear hc;refine lH H (wg H O O O) O O ?_;clear H;intro a H;refine aj ⟨O,?_⟩;exact ay HT Hb hG hv (fun _ _ _ _ _ h=>h) H O
 ·intro au a w G1 _ ah hc hG HT hv;have H:=HT;clear ah;have H:=H.ak (hv 41 65 (hc 41 Y) O) O;have H:=H.ak (hv 40 64 (hc 40 Y) O) O;have Hb:=H.full;have H:=Hb;clear hc;refine wT tq H (wg H O O O) O O ?_;clear H;intro a H;refine aj ⟨O,?_⟩;exact ay HT Hb hG hv (fun _ _ _ _ _ h=>h) H O
 ·intro au a w G1 _ ah hc hG HT hv;have H:=HT;clear ah;have H:=H.ak (hv 42 66 (hc 42 Y) O) O;have H:=H.ak (hv 40 64 (hc 40 Y) O) O;have Hb:=H.full;have H:=Hb;clear hc;refine wS H (wg H O O O) O O O O ?_;clear H;intro a H;refine aj ⟨O,?_⟩;exact ay HT Hb hG hv (fun _ _ _ _ _ h=>h) H O
 ·intro au a w G1 _ ah hc hG HT hv;have H:=HT;clear ah;have H:=H.ak (hv 40 64 (hc 40 Y) O) O;have H:=H.ak (hv 43 67 (hc 43 Y) O) O;have Hb:=H.full;have H:=Hb;clear hc;refine kH H (Pt O O ?_);clear H;intro a H;refine aj ⟨O,?_⟩;exact ay HT Hb hG hv (fun _ _ _ _ _ h=>h) H O
 ·intro au a w G1 _ ah hc hG HT hv;have H:=HT;clear ah;have H:=H.ak (hv 44 68 (hc 44 Y) O) O;have Hb:=H.full;have H:=Hb;clear hc;refine kH H (Rm O ?_);clear H;intro a H;refine aj ⟨O,?_⟩;exact ay HT Hb hG hv (fun _ _ _ _ _ h=>h) H O
 ·intro au a w G1 _ ah hc hG HT hv;have H:=HT;clear ah;have H:=H.ak (hv 45 69 (hc 45 Y) O) O;have Hb:=H.full;have H:=Hb;clear hc;refine lH H (wg H O O O) O O ?_;clear H;intro a H;refine aj ⟨O,?_⟩;exact ay HT Hb hG hv (fun _ _ _ _ _ h=>h) H O
 ·intro au a w G1 _ ah hc hG HT hv;have H:=HT;clear ah;have H:=H.ak (hv 46 70 (hc 46 Y) O) O;have H:=H.ak (hv 45 69 (hc 45 Y) O) O;have Hb:=H.full;have H:=Hb;clear hc;refine aT tq vP 1 H (wg H O O O) O O O Y O ?_;clear H;intro a H;refine aj ⟨O,?_⟩;exact ay HT Hb hG hv (fun _ _ _ _ _ h=>h) H O
 ·intro au a w G1 _ ah hc hG HT hv;have H:=HT;clear ah;have H:=H.ak (hv 47 71 (hc 47 Y) O) O;have H:=H.ak (hv 45 69 (hc 45 Y) O) O;have Hb:=H.full;have H:=Hb;clear hc;refine dX vP (cs:=[_,_,_]) H (wg H O O O) O O (fun j v hj=>H.hp.aR (aK hG (hz1 j v hj))) O ?_;clear H;intro a H;refine aj ⟨O,?_⟩;exact ay HT Hb hG hv (fun _ _ _ _ _ h=>h) H O
 ·intro au a w G1 _ ah hc hG HT hv;have H:=HT;clear ah;have H:=H.ak (hv 45 69 (hc 45 Y) O) O;have Hb:=H.full;have H:=Hb;clear hc;refine kF Kk [_,_,_] H (wg H O O O) O O O O ?_;clear H;intro a H;refine aj ⟨O,?_⟩;exact ay HT Hb hG hv (fun _ _ _ _ _ h=>h) H O
 ·intro au a w G1 _ ah hc hG HT hv;have H:=HT;clear ah;have H:=H.ak (hv 48 72 (hc 48 Y) O) O;have H:=H.ak (hv 49 73 (hc 49 Y) O) O;have H:=H.ak (hv 45 69 (hc 45 Y) O) O;have Hb:=H.full;have H:=Hb;clear hc;refine QC Wp H (wg H O O O) O O O O ?_;clear H;intro a H;refine aj ⟨O,?_⟩;exact ay HT Hb hG hv (fun _ _ _ _ _ h=>h) H O
 ·intro au a w G1 _ ah hc hG HT hv;have H:=HT;clear ah;have H:=H.ak (hv 45 69 (hc 45 Y) O) O;have H:=H.ak (hv 50 74 (hc 50 Y) O) O;have Hb:=H.full;have H:=Hb;clear hc;refine kH H (Pt O O ?_);clear H;intro a H;refine aj ⟨O,?_⟩;exact ay HT Hb hG hv (fun _ _ _ _ _ h=>h) H O
 clear H;intro a w G adM H hv;have H:=H.ak (hv 51 75 O O) O;clear hv;refine kH H (Ra O ?_);clear H;intro a H;refine aj ⟨O,?_⟩;refine K5 _ _ ?_;clear K5;refine lr H results4 O ?_;exact H.rt O
theorem Pk {x:ByteArray}:∀ {l:List ByteArray} {i m:Nat},ny x i l=some m->∃ n,m=i+n+1∧l[n]?=some x
 | [],_,_,h=>by cases h
 | y :: l,i,m,h=>by
  rw [ny] at h
  split at h
  ·rename_i e
   injection h with h
   exact ⟨0,V,by simp [e]⟩
  obtain ⟨n,h1,h2⟩:=Pk h;exact ⟨n+1,V,by simpa using h2⟩
theorem Pj {x:ByteArray}:∀ {l:List ByteArray} {i:Nat},ny x i l=none->x∉l
 | [],_,_=>by simp
 | y :: l,i,h=>by
  rw [ny] at h
  split at h
  ·cases h
  rename_i e
  intro hm
  rcases oL.1 hm with rfl|hm
  ·exact e O
  exact Pj h hm
theorem Zn {l:List ByteArray} (hl:l.Nodup) (x:ByteArray):(uG l x).Nodup∧(∀ (n:Nat) (y:ByteArray),l[n]?=some y->(uG l x)[n]?=some y)∧∃ n,zF l x=n+1∧(uG l x)[n]?=some x:=by
 unfold zF uG
 cases h:ny x 0 l with
 | some m =>
  obtain ⟨n,h1,h2⟩:=Pk h;exact ⟨by simpa using hl,fun _ _ h=>by simpa using h,n,by simp;omega,by simpa using h2⟩
 | none =>
  have hx:=Pj h;refine ⟨?_,fun n y hy=>?_,l.length,by simp,by simp⟩
  ·simp only [Option.isSome_none,Ae,if_false]
   rw [List.nodup_append];exact ⟨hl,by simp,fun a ha b hb e=>by rw [vY] at hb;subst hb;subst e;exact hx ha⟩
  simp only [Option.isSome_none,Ae,if_false]
  rw [vZ (iI.1 hy).1];exact hy
structure qE (l:List (fE × ByteArray)) (o:List cK) (K:List ByteArray):Prop where
 len:o.length=l.length
 at_:∀ i (h:i < l.length) (h2:i < o.length),∃ n:Nat,o[i].key=(n:Int)+1∧K[n]?=some l[i].2∧o[i].weight=jF l[i].1
theorem DL (l:List (fE × ByteArray)) (ks:List ByteArray) (hk:ks.Nodup):∀ k,k<=l.length->(dM (l.take k) ks).2.Nodup∧(∀ (n:Nat) (y:ByteArray),ks[n]?=some y->(dM (l.take k) ks).2[n]?=some y)∧qE (l.take k) (dM (l.take k) ks).1 (dM (l.take k) ks).2
 | 0,_=>⟨by simpa [dM] using hk,fun n y h=>by simpa [dM] using h,by simp [dM],fun i h=>by simp at h⟩
 | k+1,h=>by
  obtain ⟨h1,h2,h3⟩:=DL l ks hk k V;have hp:=Zn h1 l[k].2;obtain ⟨n,hn1,hn2⟩:=hp.2.2;rw [DN V];refine ⟨hp.1,fun n y hy=>hp.2.1 n y (h2 n y hy),?_,fun i hi hi2=>?_⟩
  ·have:=h3.len
   simp only [oC,iK,List.length_singleton,List.length_take] at *;omega
  have hl:=h3.len
  simp only [oC] at hi2 |-
  rw [List.length_take] at hi hl
  by_cases e:i < k
  ·obtain ⟨q,q1,q2,q3⟩:=h3.at_ i (by rw [List.length_take];omega) V;refine ⟨q,?_,?_,?_⟩
   ·rw [List.getElem_append_left V];exact q1
   ·rw [List.getElem_take];rw [List.getElem_take] at q2;exact hp.2.1 _ _ q2
   rw [List.getElem_append_left V,List.getElem_take];rw [List.getElem_take] at q3;exact q3
  have hik:i=k:=by omega
  subst hik;refine ⟨n,?_,?_,?_⟩
  ·rw [List.getElem_append_right V];simp [hn1]
  ·rw [List.getElem_take];exact hn2
  rw [List.getElem_append_right V,List.getElem_take];simp
theorem qE.take {l:List (fE × ByteArray)} {o:List cK} {K:List ByteArray} (h:qE l o K) (n:Nat):qE (l.take n) (o.take n) K:=by
 refine ⟨by rw [List.length_take,List.length_take,h.len],fun i hi hi2=>?_⟩;rw [List.length_take] at hi hi2;obtain ⟨m,h1,h2,h3⟩:=h.at_ i V V;exact ⟨m,by rw [List.getElem_take];exact h1,by rw [List.getElem_take];exact h2,by rw [List.getElem_take,List.getElem_take];exact h3⟩
theorem qE.up {l:List (fE × ByteArray)} {o:List cK} {K K':List ByteArray} (h:qE l o K) (hu:∀ (n:Nat) (y:ByteArray),K[n]?=some y->K'[n]?=some y):qE l o K' :=
 ⟨h.len,fun i hi hi2=>by obtain ⟨n,q1,q2,q3⟩:=h.at_ i hi hi2;exact ⟨n,q1,hu _ _ q2,q3⟩⟩
theorem acu (a b:ByteArray):∃ K:List ByteArray,K.Nodup∧qE ((bR a).take 2048) (lI a) K∧qE ((bR b).take 2048) (oD a b) K:=by
 obtain ⟨h1,h2,h3⟩:=DL (bR a) [] List.nodup_nil _ (bD _);rw [sD] at h1 h3;obtain ⟨g1,g2,g3⟩:=DL (bR b) (dM (bR a) []).2 h1 _ (bD _);rw [sD] at g1 g2 g3;exact ⟨_,g1,(h3.up g2).take 2048,g3.take 2048⟩
theorem ZQ {K:List ByteArray} (h:K.Nodup) {n m:Nat} {x:ByteArray} (h1:K[n]?=some x) (h2:K[m]?=some x):n=m:=by
 obtain ⟨p1,e1⟩:=iI.1 h1;obtain ⟨p2,e2⟩:=iI.1 h2;exact (List.getElem_inj h).1 (e1.trans e2.symm)
theorem Po {la lb:List (fE × ByteArray)} {x y:List cK} {K:List ByteArray} (hK:K.Nodup) (hx:qE la x K) (hy:qE lb y K) {i k:Nat} (hi:i < la.length) (hk:k < lb.length):(x[i]'(by rw [hx.len];exact hi)).key=(y[k]'(by rw [hy.len];exact hk)).key↔la[i].2=lb[k].2:=by
 obtain ⟨n,n1,n2,-⟩:=hx.at_ i hi (by rw [hx.len];exact hi);obtain ⟨m,m1,m2,-⟩:=hy.at_ k hk (by rw [hy.len];exact hk);rw [n1,m1]
 constructor
 ·intro e
  have:n=m:=by omega
  subst this;rw [n2] at m2;exact Option.some.inj m2
 intro e;rw [e] at n2;rw [ZQ hK n2 m2]
theorem Rt {l:List (fE × ByteArray)} {x:List cK} {K:List ByteArray} (hx:qE l x K):x.map (·.weight)=l.map fun q=>jF q.1:=by
 apply List.ext_getElem
 ·simp [hx.len]
 intro i h1 h2;rw [bN] at h1 h2;obtain ⟨-,-,-,q⟩:=hx.at_ i h2 h1
 simp [q]
theorem Rq:∀ (x y:List cK),x.map (·.weight)=y.map (·.weight)->jh x=jh y
 | [],[],_=>rfl
 | [],y :: ys,h=>by simp at h
 | x :: xs,[],h=>by simp at h
 | x :: xs,y :: ys,h=>by
  simp only [iT,List.cons.injEq] at h
  rw [jh,jh,h.1,Rq xs ys h.2]
theorem Kt (x y:List cK):jh (x++y)=jh x+jh y:=by
 induction x with
 | nil=>simp [jh]
 | cons a x ih=>simp only [nQ,jh,ih];omega
theorem FN {a b:List cK} {k:Nat} (hk:¬ k < b.length):∀ (q i:Nat),a.length - i<=q->dS a b i k=0
 | 0,i,h=>pF V
 | q+1,i,h=>by
  by_cases hi:i < a.length
  ·rw [Ki hi hk,FN hk q (i+1) V]
  exact pF hi
theorem DI {a b c d:List cK} (h1:c.length=b.length) (h2:d.length=a.length) (hk:∀ i k (hi:i < a.length) (hk:k < b.length),a[i].key=b[k].key↔(c[k]'V).key=(d[i]'V).key)
  (hwc:∀ k (hk:k < b.length),(c[k]'V).weight=b[k].weight) (hwd:∀ i (hi:i < a.length),(d[i]'V).weight=a[i].weight):∀ (q i k:Nat),(a.length - i)+(b.length - k)<=q->dS a b i k=dS c d k i
 | 0,i,k,hq=>by rw [pF V,pF V]
 | q+1,i,k,hq=>by
  by_cases hi:i < a.length
  ·by_cases hkb:k < b.length
   ·rw [uL hi hkb,uL (show k < c.length by omega) (show i < d.length by omega)];rw [DI h1 h2 hk hwc hwd q (i+1) k V,DI h1 h2 hk hwc hwd q i (k+1) V,DI h1 h2 hk hwc hwd q (i+1) (k+1) V]
    have hw:iW (c[k]'V) (d[i]'V)=iW a[i] b[k]:=by rw [iW,iW,hwc k hkb,hwd i hi];omega
    rw [hw,Int.max_comm (dS c d k (i+1)) (dS c d (k+1) i)]
    by_cases e:a[i].key=b[k].key
    ·have e2:=(hk i k hi hkb).1 e
     simp only [e,e2,true_and]
    have e2:¬ (c[k]'V).key=(d[i]'V).key:=fun h=>e ((hk i k hi hkb).2 h)
    simp only [e,e2,false_and]
   rw [FN hkb _ i (bD _),pF V]
  rw [pF hi,FN V _ k (bD _)]
theorem Rp {x:List cK} {i:Nat} (hi:i < x.length):jh (x.drop i)=x[i].weight+jh (x.drop (i+1)):=by
 rw [List.drop_eq_getElem_cons hi];rfl
theorem FU {x:List cK} (h:∀ y∈x,1<=y.weight∧y.weight<=1000) (i:Nat):0<=jh (x.drop i):=by
 have:=FT (x.drop i) (fun y hy=>h y (List.mem_of_mem_drop hy));omega
theorem FM {a b:List cK} (ha:∀ x∈a,1<=x.weight∧x.weight<=1000) (hb:∀ x∈b,1<=x.weight∧x.weight<=1000):∀ (q i k:Nat),(a.length - i)+(b.length - k)<=q->dS a b i k<=jh (a.drop i)∧dS a b i k<=jh (b.drop k)
 | 0,i,k,hq=>by rw [pF V];exact ⟨FU ha i,FU hb k⟩
 | q+1,i,k,hq=>by
  have p1:=FU ha i;have p2:=FU hb k
  by_cases hi:i < a.length
  ·by_cases hk:k < b.length
   ·have e1:=FM ha hb q (i+1) k V;have e2:=FM ha hb q i (k+1) V;have e3:=FM ha hb q (i+1) (k+1) V;have s1:=Rp hi;have s2:=Rp hk;have w1:=ha _ (dV hi);have w2:=hb _ (dV hk);rw [uL hi hk]
    unfold iW
    split <;> omega
   rw [FN hk _ i (bD _)];exact ⟨p1,p2⟩
  rw [pF hi];exact ⟨p1,p2⟩
def kT (a b:ByteArray):Int:=uX (lI a) (oD a b)
theorem abq (a b:ByteArray):0<=kT a b∧kT a b<=1000:=by
 have h1:=FM (F6 a) (KH a b) _ 0 0 (bD _);have h2:=Bq (F6 a) (KH a b) _ 0 0 (bD _);rw [List.drop_zero,List.drop_zero] at h1;rw [kT,uX]
 split
 ·decide
 rename_i hne
 have hs:=Kt (lI a) (oD a b)
 have hp:0 < jh (lI a++oD a b):=by omega
 refine ⟨Int.tdiv_nonneg V V,?_⟩;rw [Int.tdiv_eq_ediv_of_nonneg V];have:=Int.ediv_le_ediv hp (show 2000*dS (lI a) (oD a b) 0 0<=1000*jh (lI a++oD a b) by omega)
 rwa [Int.mul_ediv_cancel _ V] at this
theorem Wq:LA prog 62 [(0,false),(1,false),(2,false)]:=⟨Z,Z,Z,Z,Z⟩
theorem QM (G:GH) (w0:World) (hG:Hold G w0) (l:List gV) (v u:av) (hv:aC G (.sl 3 (l.map gV.dat)) v) (hu:aC G (.sl 3 (l.map gV.dat)) u) :
  Calls prog 9 #[v,u] w0 (cO w0 G fun r G'=>r=.bool true):=by
 obtain ⟨A,c,rfl,hc1,hc2,-⟩:=hv.slice;obtain ⟨B,c2,rfl,hd1,hd2,-⟩:=hu.slice;have hml:maxLen=9223372036854775807:=rfl;rw [bN] at *;refine eN [(0,_),(1,_)] func9 O ntmps9 O O hG ?_;intro a H;refine kP H (SR fun _ K1=>aB K1 O (SQ fun _ K2=>SR fun _ K3=>Rm O (Rl tq O (Rm O (Rl tq O (Rc O (Kz K3 (Cd O ?_ ?_)))))))) <;> clear H K1 K3
 ·intro h10 a H
  try have qm:=dT h10
  simp at qm
 intro h10 a H
 try have qm:=dF h10
 refine kP H (Kc K2 (SQ fun _ K4=>SR fun _ K5=>aB K5 O (SB ?_)));clear H K2 K5;intro a H;skip;refine eG (ι:=Nat × GH) (Tc:=[(0,_),(1,_)]) (Lc:=[]) (fun gh=>[(5,vi gh.1)]) (fun gh=>[]) (fun gh=>gh.2) (fun gh=>gh.1<=l.length∧(∀ b o,G b=some o->gh.2 b=some o)) (fun gh=>l.length - gh.1) ((0,G)) (by exact H.sub ⟨O,O,O,aL⟩) ?_ ?_
 ·exact ⟨dU _,fun _ _ h=>h⟩
 clear H;rintro ⟨k,g⟩ a w hI H;dsimp only at hI H;obtain ⟨hk,hgm⟩:=hI;dsimp only [lca,dB] at H;refine kP H (SQ fun _ K6=>SR fun _ K7=>Rm O (Rm O (Rl tq O (Rc O (Kz K7 (Cd O ?_ ?_)))))) <;> clear H K7
 ·intro fF a H
  try have jY:=dT fF
  have hk1:k < l.length:=by omega
  obtain ⟨b,o,rfl,hrow⟩:=JG (hv.mono hgm) hk1;obtain ⟨b2,o2,rfl,hrow2⟩:=JG (hu.mono hgm) hk1;refine kP H (Kc K6 (SQ fun _ K8=>SB (SQ fun _ K9=>?_)));clear H K6;intro a H;refine dI gG [[],[],[0,1],[0,1,2],[],[],[4,5],[4,5,6],ra 0 8] [] Z [.slice (some ⟨b,o,none⟩) l.length c,vi k,(aH b (o+k*3)),.agg #[vi l[k].a,vi l[k].b,vi l[k].score],.slice (some ⟨b2,o2,none⟩) l.length c2,vi k,(aH b2 (o2+k*3)),.agg #[vi l[k].a,vi l[k].b,vi l[k].score],.bool false] H (aI ?_ ?_ ?_ ?_ (aI ?_ ?_ ?_ ?_ (iO ?_ fQ))) ?_
  ·intro au a w G1 _ ah hc hG HT hv;have H:=HT;clear ah;have Hb:=H.full;have H:=Hb;clear hc;refine kH H (Rm O ?_);clear H;intro a H;refine aj ⟨O,?_⟩;exact ay HT Hb hG hv (fun _ _ _ _ _ h=>h) H O
  ·intro au a w G1 _ ah hc hG HT hv;have H:=HT;clear ah;have Hb:=H.full;have H:=Hb;clear hc;refine kH H (Rm O ?_);clear H;intro a H;refine aj ⟨O,?_⟩;exact ay HT Hb hG hv (fun _ _ _ _ _ h=>h) H O
  ·intro au a w G1 _ ah hc hG HT hv;have H:=HT;clear ah;have H:=H.ak (hv 0 17 (hc 0 Y) O) O;have H:=H.ak (hv 1 18 (hc 1 Y) O) O;have Hb:=H.full;have H:=Hb;clear hc;refine aT tq vP k H wn O O O hk1 O ?_;clear H;intro a H;refine aj ⟨O,?_⟩;exact ay HT Hb hG hv (fun _ _ _ _ _ h=>h) H O
  ·intro au a w G1 _ ah hc hG HT hv;have H:=HT;clear ah;have H:=H.ak (hv 2 19 (hc 2 Y) O) O;have Hb:=H.full;have H:=Hb;clear hc;refine dX vP (cs:=[_,_,_]) H wn O O (fun j v hj=>H.hp.aR (aK hG (hrow j v hj))) O ?_;clear H;intro a H;refine aj ⟨O,?_⟩;exact ay HT Hb hG hv (fun _ _ _ _ _ h=>h) H O
  ·intro au a w G1 _ ah hc hG HT hv;have H:=HT;clear ah;have Hb:=H.full;have H:=Hb;clear hc;refine kH H (Rm O ?_);clear H;intro a H;refine aj ⟨O,?_⟩;exact ay HT Hb hG hv (fun _ _ _ _ _ h=>h) H O
  ·intro au a w G1 _ ah hc hG HT hv;have H:=HT;clear ah;have Hb:=H.full;have H:=Hb;clear hc;refine kH H (Rm O ?_);clear H;intro a H;refine aj ⟨O,?_⟩;exact ay HT Hb hG hv (fun _ _ _ _ _ h=>h) H O
  ·intro au a w G1 _ ah hc hG HT hv;have H:=HT;clear ah;have H:=H.ak (hv 4 21 (hc 4 Y) O) O;have H:=H.ak (hv 5 22 (hc 5 Y) O) O;have Hb:=H.full;have H:=Hb;clear hc;refine aT tq vP k H wn O O O hk1 O ?_;clear H;intro a H;refine aj ⟨O,?_⟩;exact ay HT Hb hG hv (fun _ _ _ _ _ h=>h) H O
  ·intro au a w G1 _ ah hc hG HT hv;have H:=HT;clear ah;have H:=H.ak (hv 6 23 (hc 6 Y) O) O;have Hb:=H.full;have H:=Hb;clear hc;refine dX vP (cs:=[_,_,_]) H wn O O (fun j v hj=>H.hp.aR (aK hG (hrow2 j v hj))) O ?_;clear H;intro a H;refine aj ⟨O,?_⟩;exact ay HT Hb hG hv (fun _ _ _ _ _ h=>h) H O
  ·intro au a w G1 _ ah hc hG HT hv;have H:=HT;clear ah;have H:=H.ak (hv 3 20 (hc 3 Y) O) O;have H:=H.ak (hv 7 24 (hc 7 Y) O) O;have Hb:=H.full;have H:=Hb;clear hc;refine aaG (.inr O) Wq H wn O O O O ?_;clear H;intro a H;refine aj ⟨O,?_⟩
   exact jw Z (fun _ _ _ _ _ h=>h) O O HT Hb hG hv (fun _ _ h=>h) (by simp [lD] <;> rfl) H
  clear H;intro a w G sM H hv;have H:=H.ak (hv 8 25 O O) O;clear hv;refine aj ⟨O,?_⟩;refine K9 _ _ ?_;clear K9;refine sH H O O ?_;refine kP H (Kc K8 (SC (Rm O (Rd O (Ra O ?_)))));clear H K8;intro a H;refine aj ?_;refine bg ((k+1,G)) (by exact H.sub ⟨O,O,O,aL⟩) ?_
  (try dsimp only);exact ⟨V,fun b o h=>sM b o (hgm b o h)⟩
 intro fF a H
 refine dD ?_;refine K4 _ _ ?_;clear K4;exact kP H (SR fun _ aP=>aB aP O (LR results9 O fun H=>H.rt O))
theorem XV {S:List (List Int)} (h:0 < S.length):(S.headD []).length=S[0].length:=by
 match S,h with
 | r :: S',_=>rfl
structure Aa (S:List (List Int)) (m:Nat):Prop where
 wid:∀ r∈S,r.length=m
 len:S.length<=1024∧m<=1024
 ok:∀ i k,i < S.length->k < m->0<=aU S i k∧aU S i k<=1000
theorem Og:∀ {l:List Int},wD l=0->∀ e∈l,e=0
 | [],_,e,h=>by cases h
 | x :: l,h,e,he=>by
  rw [wD] at h
  split at h
  ·rename_i hx
   rcases oL.1 he with rfl|he
   ·exact hx
   exact Og h e he
  exact absurd h (by assumption)
theorem MX {S:List (List Int)} (h:mZ S=0):Aa S (S.headD []).length:=by
 rw [mZ] at h
 split at h
 ·exact absurd h Y
 rename_i hl
 have hr:∀ r∈S,¬ 1024 < r.length∧r.length=(S.headD []).length∧r.all rQ=true:=by
  intro r hr;have h0:=Og h _ (List.mem_map.2 ⟨r,hr,O⟩);rw [lU] at h0
  split at h0
  ·exact absurd h0 Y
  split at h0
  ·exact absurd h0 Y
  rename_i h1 h2
  split at h0
  ·rename_i h3;exact ⟨h1,Af.1 h2,h3⟩
  exact absurd h0 Y
 refine ⟨fun r h=>(hr r h).2.1,⟨V,?_⟩,fun i k hi hk=>?_⟩
 ·cases S with
  | nil=>exact dU _
  | cons r S=>have:=hr r (qH ..);rw [List.headD_cons];omega
 have hx:=hr _ (dV hi)
 have hk2:k < S[i].length:=by omega
 rw [Bn hi hk2];have h3:=gq.1 hx.2.2 _ (dV hk2)
 simpa [rQ] using h3
theorem Aa.row {G:GH} {S:List (List Int)} {m i k:Nat} (hS:Aa S m) {A:Option Addr} {n c:Nat} (hv:aC G (.sl 1 (S.map kS)) (.slice A n c)) (hi:i < S.length) (hk:k < m) :
  ∃ b o nb no bc,A=some ⟨b,o,none⟩∧aR G b (o+i*1)=some (.slice (some ⟨nb,no,none⟩) m bc)∧aR G nb (no+k*1)=some (vi (aU S i k)):=by
 obtain ⟨b,o,bA,bc,rfl,g1,g2⟩:=wO hv hi;have hw:S[i].length=m:=hS.wid _ (dV hi);obtain ⟨nb,no,rfl,g3⟩:=oZ g2 (show k < S[i].length by omega);exact ⟨b,o,nb,no,bc,O,by rw [g1,hw],by rw [g3,Bn hi V]⟩
def nL (S:List (List Int)) (m i:Nat):List Int:=(List.range (m+1)).map fun k=>tot (aU S) S.length m i k
def nM (S:List (List Int)) (m:Nat):List (List Int):=(List.range (S.length+1)).map (nL S m)
theorem acp {S:List (List Int)} {m i k:Nat} (hk:k<=m):(nL S m i)[k]?=some (tot (aU S) S.length m i k):=by simp [nL,List.getElem?_range,show k < m+1 by omega]
theorem RI {S:List (List Int)} {m i:Nat} {fl:List Int} (hl:fl.length=m+1) (h:∀ q,q<=m->fl[q]?=some (tot (aU S) S.length m i q)):fl=nL S m i:=by
 apply List.ext_getElem?
 intro q
 by_cases hq:q<=m
 ·rw [h q hq,acp hq]
 rw [List.getElem?_eq_none V,List.getElem?_eq_none (by simp [nL];omega)]
abbrev GQ (b:Nat) (cs:List av):Nat × Obj:=(b,.cells cs.toArray 46 (0,0))
def xH (g:GH) (S:List (List Int)) (m:Nat) (cs:List av) (j:Nat):Prop:=cs.length=S.length+1∧∀ r,j<=r->r<=S.length->∃ b,cs[r]?=some (.slice (some ⟨b,0,none⟩) (m+1) (m+1))∧aC g (.sl 1 ((nL S m r).map eZ)) (.slice (some ⟨b,0,none⟩) (m+1) (m+1))
theorem xH.mono {g g':GH} {S:List (List Int)} {m:Nat} {cs:List av} {j:Nat} (h:xH g S m cs j) (hm:∀ b o,g b=some o->g' b=some o):xH g' S m cs j :=
 ⟨h.1,fun r h1 h2=>by obtain ⟨b,e,hr⟩:=h.2 r h1 h2;exact ⟨b,e,hr.mono hm⟩⟩
theorem xH.cat {g:GH} {S:List (List Int)} {m:Nat} {cs:List av} (h:xH g S m cs 0):dK g 1 ((nM S m).map kS) cs:=by
 have hc:=JZ (G:=g) (nM S m) [] [] cs dK.nil (by simp [nM,h.1]) (fun i r u h1 h2=>by
  have hi:i<=S.length:=by have:=(iI.1 h2).1;have:=h.1;omega
  obtain ⟨b,e,hr⟩:=h.2 i (dU _) hi;rw [nM,qG,List.getElem?_range V,oM] at h1;rw [e] at h2
  injection h1 with h1;injection h2 with h2
  subst h1;subst h2;exact hr)
 simpa using hc
theorem FQ {c:List av} {o:Nat} {v:av}:setRow c o [v]=c.set o v:=rfl
set_option maxHeartbeats 2000000 in
theorem RJ (G:GH) (w0:World) (hG:Hold G w0) {S:List (List Int)} {m:Nat} (hS:Aa S m) (v:av) (hv:aC G (.sl 1 (S.map kS)) v) :
  Calls prog 25 #[v,vi S.length,vi m] w0 (cO w0 G fun r G'=>aC G' (.sl 1 ((nM S m).map kS)) r):=by
 obtain ⟨A,c,rfl,hc1,hc2,-⟩:=hv.slice;have hml:maxLen=9223372036854775807:=rfl;have hln:=hS.len;have htb:∀ i k,0<=tot (aU S) S.length m i k∧tot (aU S) S.length m i k<=1000*((S.length - i:Nat):Int):=fun i k=>Bz (fun i k hi hk=>(hS.ok i k hi hk).2) _ i k (bD _);rw [bN] at *;refine eN [(0,_),(1,_),(2,_)] func25 O ntmps25 O O hG ?_;intro a H;refine kP H (SR fun _ K1=>aB K1 O (SR fun _ K2=>Rm O (Rd O ?_)));clear H K1;intro a H;refine oq (S.length+1) fI aW H wn O O V V V O ?_;clear H;intro b12 a w adN H;refine kH H (aB K2 O (SQ fun _ K3=>SR fun _ K4=>Rm O (aB K4 O (SB ?_))));clear H K2 K4;intro a H;skip;refine eG (ι:=Nat × List av × GH) (Tc:=[(0,_),(1,_),(2,_),(7,_)]) (Lc:=[]) (fun gh=>[(8,vi ((gh.1:Int) - 1))]) (fun gh=>[GQ b12 gh.2.1]) (fun gh=>gh.2.2) (fun gh=>gh.1<=S.length+1∧xH gh.2.2 S m gh.2.1 gh.1∧(∀ b o,G b=some o->gh.2.2 b=some o)) (fun gh=>gh.1) ((S.length+1,List.replicate (S.length+1) (.slice none 0 0),G)) (by exact by rw [show (((S.length+1:Nat):Int) - 1)=(S.length:Int) by omega];exact H.sub ⟨O,O,O,O,O,aL⟩) ?_ ?_
 ·exact ⟨bD _,⟨by simp,fun r h1 h2=>absurd h1 V⟩,fun _ _ h=>h⟩
 clear H;rintro ⟨j,cs,g⟩ a w hI H;dsimp only at hI H;obtain ⟨hj,hra,hgm⟩:=hI;dsimp only [lca,dB] at H;refine kP H (SQ fun _ K5=>SR fun _ K6=>Rm O (Rc O (Kz K6 (Cd O ?_ ?_)))) <;> clear H K6
 ·intro jX a H
  try have qo:=dT jX
  obtain ⟨i,rfl⟩:∃ i,j=i+1:=⟨j - 1,V⟩;rw [show (((i+1:Nat):Int) - 1)=(i:Int) by omega] at H
  have hi:i<=S.length:=by omega
  refine kP H (Kc K5 (SQ fun _ K7=>SB (SR fun _ K8=>Rm O (Rm O (Rm O (Rd O ?_))))));clear H K5;intro a H;refine oq (m+1) bE aF H wn O O V V V O ?_;clear H;intro oN a w IQ H;refine aT fI aW i H wn O O O V O ?_;clear H;intro a H;refine pz aW 1 (c:=cs) (vs:=[_]) (cs.set i (.slice (some ⟨oN,0,none⟩) (m+1) (m+1))) H wn O O O O O O (Eq.mpr Nat.ble_eq (by have:=hra.1;simp only [List.length_singleton];omega)) (by rw [fC,Nat.mul_one];exact FQ) ?_;clear H;intro w H;dsimp only [List.set] at H;obtain ⟨cs2,hcs2⟩:∃ x,x=cs.set i (.slice (some ⟨oN,0,none⟩) (m+1) (m+1)):=⟨_,O⟩;rw [<- hcs2] at H
  have vF:cs2.length=S.length+1:=by rw [hcs2,List.length_set];exact hra.1
  have hci:cs2[i]?=some (.slice (some ⟨oN,0,none⟩) (m+1) (m+1)):=by rw [hcs2,List.getElem?_set_self (by have:=hra.1;omega)]
  have hcn:∀ r,i < r->cs2[r]?=cs[r]?:=fun r hr=>by rw [hcs2,List.getElem?_set_ne V]
  rw [show List.replicate (m+1) (Value.int .i64 0)=(List.replicate (m+1) (0:Int)).map vi from List.map_replicate.symm] at H;refine K8 _ _ ?_;clear K8;refine kP H (SR fun _ K9=>Rm O (Rs O (aB K9 O (SB ?_))));clear H K9;intro a H;skip;refine eG (ι:=Nat × List Int × GH) (Tc:=[(0,_),(1,_),(2,_),(7,_),(8,_)]) (Lc:=[(_,_)]) (fun gh=>[(9,vi ((gh.1:Int) - 1))]) (fun gh=>[bF oN gh.2.1]) (fun gh=>gh.2.2) (fun gh=>gh.1<=m∧gh.2.1.length=m+1∧(∀ q,gh.1<=q->q<=m->gh.2.1[q]?=some (tot (aU S) S.length m i q))∧(∀ q,q < gh.1->gh.2.1[q]?=some 0)∧(∀ b o,G b=some o->gh.2.2 b=some o)∧(∀ b o,g b=some o->gh.2.2 b=some o)) (fun gh=>gh.1) ((m,List.replicate (m+1) 0,g)) (by exact (H.dR (Pl:=[_,_]) (dx:=[_,_]) [1,0] Y O).sub ⟨O,O,O,O,O,O,aL⟩) ?_ ?_
  ·exact ⟨bD _,by simp,fun q h1 h2=>by rw [BA V];simp [List.getElem?_replicate];omega,fun q hq=>by simp [List.getElem?_replicate];omega,hgm,fun _ _ h=>h⟩
  clear H;rintro ⟨p,fl,g2⟩ a w hI H;dsimp only at hI H;obtain ⟨hp,hfl,nZ,hf0,eH,hgg⟩:=hI;dsimp only [lca,dB] at H;refine kP H (SQ fun _ aP=>SR fun _ bH=>Rm O (Rc O (Rm O (Sp 28 O ?_ ?_)))) <;> clear H
  ·intro fU a H
   try have p28:=dT fU
   refine kH H (YM fU O (YM fU O (YC fU O (Pt fU O (Kz bH (Cd O ?_ ?_)))))) <;> clear H bH
   ·intro h32 a H
    try have p32:=dT h32
    obtain ⟨k,rfl⟩:∃ k,p=k+1:=⟨p - 1,V⟩;rw [show (((k+1:Nat):Int) - 1)=(k:Int) by omega] at H
    have hk:k < m:=by omega
    have hi1:i < S.length:=by omega
    obtain ⟨bn,hen,hrn⟩:=hra.2 (i+1) (bD _) V;rw [<- hcn _ (Nat.lt_succ_self i)] at hen;obtain ⟨_,_,e0,Oj⟩:=oZ (k:=k) (hrn.mono hgg) (by simp [nL];omega)
    injection e0 with e0;injection e0 with e1 e2;subst e1;subst e2
    obtain ⟨_,_,e0,EK⟩:=oZ (k:=k+1) (hrn.mono hgg) (by simp [nL];omega)
    injection e0 with e0;injection e0 with e1 e2;subst e1;subst e2
    rw [show (nL S m (i+1))[k]'(by simp [nL];omega)=tot (aU S) S.length m (i+1) k by simp [nL]] at Oj;rw [show (nL S m (i+1))[k+1]'(by simp [nL];omega)=tot (aU S) S.length m (i+1) (k+1) by simp [nL]] at EK;have hb1:=htb (i+1) k;have hb2:=htb i (k+1);have hb3:=htb (i+1) (k+1);have hok:=hS.ok i k hi1 hk;have hin:=KG (s:=aU S) hi1 hk;have ef:=nZ (k+1) (bD _) V;obtain ⟨b,o,bA,bc,rfl,g1,WU⟩:=wO (hv.mono eH) hi1;have hw:S[i].length=m:=hS.wid _ (dV hi1);obtain ⟨nb,no,rfl,gn⟩:=oZ WU (show k < S[i].length by omega);rw [<- Bn hi1 V] at gn;rw [hw] at g1;refine kP H (Kc aP (SQ fun _ bL=>SB (SQ fun _ bI=>?_)));clear H aP;intro a H;refine dI gG [[],[],[0,1],[0,1,2],[],[],[],[6],[5,6,7],ra 5 4,[],ra 5 6,ra 5 7,[],[],[13,14],[13,14,15],[],[17],ra 13 6,ra 13 7,ra 5 16,ra 0 22,ra 0 23] [22,23] Z [.slice (some ⟨b12,0,none⟩) (S.length+1) (S.length+1),vi i,(aH b12 (0+i*1)),.slice (some ⟨oN,0,none⟩) (m+1) (m+1),vi k,.slice (some ⟨b12,0,none⟩) (S.length+1) (S.length+1),vi i,vi ((i:Int)+1),(aH b12 (0+(i+1)*1)),.slice (some ⟨bn,0,none⟩) (m+1) (m+1),vi k,(aH bn (0+k*1)),vi (tot (aU S) S.length m (i+1) k),.slice (some ⟨b12,0,none⟩) (S.length+1) (S.length+1),vi i,(aH b12 (0+i*1)),.slice (some ⟨oN,0,none⟩) (m+1) (m+1),vi k,vi ((k:Int)+1),(aH oN (0+(k+1)*1)),vi (tot (aU S) S.length m i (k+1)),vi (max (tot (aU S) S.length m (i+1) k) (tot (aU S) S.length m i (k+1)))] H (aI ?_ ?_ ?_ ?_ (aI ?_ ?_ ?_ ?_ (aI ?_ ?_ ?_ ?_ (aI ?_ ?_ ?_ ?_ (aI ?_ ?_ ?_ ?_ (aI ?_ ?_ (gB O) (gB O) fQ)))))) ?_
    ·intro au a w G1 _ ah hc hG HT hv;have H:=HT;clear ah;have Hb:=H.full;have H:=Hb;clear hc;refine kH H (Rm O ?_);clear H;intro a H;refine aj ⟨O,?_⟩;exact ay HT Hb hG hv (fun _ _ _ _ _ h=>h) H O
    ·intro au a w G1 _ ah hc hG HT hv;have H:=HT;clear ah;have Hb:=H.full;have H:=Hb;clear hc;refine kH H (Rm O ?_);clear H;intro a H;refine aj ⟨O,?_⟩;exact ay HT Hb hG hv (fun _ _ _ _ _ h=>h) H O
    ·intro au a w G1 _ ah hc hG HT hv;have H:=HT;clear ah;have H:=H.ak (hv 0 35 (hc 0 Y) O) O;have H:=H.ak (hv 1 36 (hc 1 Y) O) O;have Hb:=H.full;have H:=Hb;clear hc;refine aT fI aW i H wn O O O V O ?_;clear H;intro a H;refine aj ⟨O,?_⟩;exact ay HT Hb hG hv (fun _ _ _ _ _ h=>h) H O
    ·intro au a w G1 _ ah hc hG HT hv;have H:=HT;clear ah;have H:=H.ak (hv 2 37 (hc 2 Y) O) O;have Hb:=H.full;have H:=Hb;clear hc;refine iM aW H wn O (H.hp.jc 0 O (by rw [fC,Nat.mul_one];exact (List.getElem?_toArray ..).trans hci)) O ?_;clear H;intro a H;refine aj ⟨O,?_⟩;exact ay HT Hb hG hv (fun _ _ _ _ _ h=>h) H O
    ·intro au a w G1 _ ah hc hG HT hv;have H:=HT;clear ah;have Hb:=H.full;have H:=Hb;clear hc;refine kH H (Rm O ?_);clear H;intro a H;refine aj ⟨O,?_⟩;exact ay HT Hb hG hv (fun _ _ _ _ _ h=>h) H O
    ·intro au a w G1 _ ah hc hG HT hv;have H:=HT;clear ah;have Hb:=H.full;have H:=Hb;clear hc;refine kH H (Rm O ?_);clear H;intro a H;refine aj ⟨O,?_⟩;exact ay HT Hb hG hv (fun _ _ _ _ _ h=>h) H O
    ·intro au a w G1 _ ah hc hG HT hv;have H:=HT;clear ah;have Hb:=H.full;have H:=Hb;clear hc;refine kH H (Rm O ?_);clear H;intro a H;refine aj ⟨O,?_⟩;exact ay HT Hb hG hv (fun _ _ _ _ _ h=>h) H O
    ·intro au a w G1 _ ah hc hG HT hv;have H:=HT;clear ah;have H:=H.ak (hv 6 41 (hc 6 Y) O) O;have Hb:=H.full;have H:=Hb;clear hc;refine kH H (Rd O ?_);clear H;intro a H;refine aj ⟨O,?_⟩;exact ay HT Hb hG hv (fun _ _ _ _ _ h=>h) H O
    ·intro au a w G1 _ ah hc hG HT hv;have H:=HT;clear ah;have H:=H.ak (hv 5 40 (hc 5 Y) O) O;have H:=H.ak (hv 7 42 (hc 7 Y) O) O;have Hb:=H.full;have H:=Hb;clear hc;refine aT fI aW (i+1) H wn O O V V O ?_;clear H;intro a H;refine aj ⟨O,?_⟩;exact ay HT Hb hG hv (fun _ _ _ _ _ h=>h) H O
    ·intro au a w G1 _ ah hc hG HT hv;have H:=HT;clear ah;have H:=H.ak (hv 8 43 (hc 8 Y) O) O;have Hb:=H.full;have H:=Hb;clear hc;refine iM aW H wn O (H.hp.jc 0 O (by rw [fC,Nat.mul_one];exact (List.getElem?_toArray ..).trans hen)) O ?_;clear H;intro a H;refine aj ⟨O,?_⟩;exact ay HT Hb hG hv (fun _ _ _ _ _ h=>h) H O
    ·intro au a w G1 _ ah hc hG HT hv;have H:=HT;clear ah;have Hb:=H.full;have H:=Hb;clear hc;refine kH H (Rm O ?_);clear H;intro a H;refine aj ⟨O,?_⟩;exact ay HT Hb hG hv (fun _ _ _ _ _ h=>h) H O
    ·intro au a w G1 _ ah hc hG HT hv;have H:=HT;clear ah;have H:=H.ak (hv 9 44 (hc 9 Y) O) O;have H:=H.ak (hv 10 45 (hc 10 Y) O) O;have Hb:=H.full;have H:=Hb;clear hc;refine aT bE aF k H wn O O O V O ?_;clear H;intro a H;refine aj ⟨O,?_⟩;exact ay HT Hb hG hv (fun _ _ _ _ _ h=>h) H O
    ·intro au a w G1 _ ah hc hG HT hv;have H:=HT;clear ah;have H:=H.ak (hv 11 46 (hc 11 Y) O) O;have Hb:=H.full;have H:=Hb;clear hc;refine kH H (Rg aF O (aK hG Oj) ?_);clear H;intro a H;refine aj ⟨O,?_⟩;exact ay HT Hb hG hv (fun _ _ _ _ _ h=>h) H O
    ·intro au a w G1 _ ah hc hG HT hv;have H:=HT;clear ah;have Hb:=H.full;have H:=Hb;clear hc;refine kH H (Rm O ?_);clear H;intro a H;refine aj ⟨O,?_⟩;exact ay HT Hb hG hv (fun _ _ _ _ _ h=>h) H O
    ·intro au a w G1 _ ah hc hG HT hv;have H:=HT;clear ah;have Hb:=H.full;have H:=Hb;clear hc;refine kH H (Rm O ?_);clear H;intro a H;refine aj ⟨O,?_⟩;exact ay HT Hb hG hv (fun _ _ _ _ _ h=>h) H O
    ·intro au a w G1 _ ah hc hG HT hv;have H:=HT;clear ah;have H:=H.ak (hv 13 48 (hc 13 Y) O) O;have H:=H.ak (hv 14 49 (hc 14 Y) O) O;have Hb:=H.full;have H:=Hb;clear hc;refine aT fI aW i H wn O O O V O ?_;clear H;intro a H;refine aj ⟨O,?_⟩;exact ay HT Hb hG hv (fun _ _ _ _ _ h=>h) H O
    ·intro au a w G1 _ ah hc hG HT hv;have H:=HT;clear ah;have H:=H.ak (hv 15 50 (hc 15 Y) O) O;have Hb:=H.full;have H:=Hb;clear hc;refine iM aW H wn O (H.hp.jc 0 O (by rw [fC,Nat.mul_one];exact (List.getElem?_toArray ..).trans hci)) O ?_;clear H;intro a H;refine aj ⟨O,?_⟩;exact ay HT Hb hG hv (fun _ _ _ _ _ h=>h) H O
    ·intro au a w G1 _ ah hc hG HT hv;have H:=HT;clear ah;have Hb:=H.full;have H:=Hb;clear hc;refine kH H (Rm O ?_);clear H;intro a H;refine aj ⟨O,?_⟩;exact ay HT Hb hG hv (fun _ _ _ _ _ h=>h) H O
    ·intro au a w G1 _ ah hc hG HT hv;have H:=HT;clear ah;have H:=H.ak (hv 17 52 (hc 17 Y) O) O;have Hb:=H.full;have H:=Hb;clear hc;refine kH H (Rd O ?_);clear H;intro a H;refine aj ⟨O,?_⟩;exact ay HT Hb hG hv (fun _ _ _ _ _ h=>h) H O
    ·intro au a w G1 _ ah hc hG HT hv;have H:=HT;clear ah;have H:=H.ak (hv 16 51 (hc 16 Y) O) O;have H:=H.ak (hv 18 53 (hc 18 Y) O) O;have Hb:=H.full;have H:=Hb;clear hc;refine aT bE aF (k+1) H wn O O V V O ?_;clear H;intro a H;refine aj ⟨O,?_⟩;exact ay HT Hb hG hv (fun _ _ _ _ _ h=>h) H O
    ·intro au a w G1 _ ah hc hG HT hv;have H:=HT;clear ah;have H:=H.ak (hv 19 54 (hc 19 Y) O) O;have Hb:=H.full;have H:=Hb;clear hc;refine iM aF H wn O (H.hp.jc 1 O (by rw [fC,Nat.mul_one];exact rF ef)) O ?_;clear H;intro a H;refine aj ⟨O,?_⟩;exact ay HT Hb hG hv (fun _ _ _ _ _ h=>h) H O
    ·intro au a w G1 _ ah hc hG HT hv;have H:=HT;clear ah;have H:=H.ak (hv 12 47 (hc 12 Y) O) O;have H:=H.ak (hv 20 55 (hc 20 Y) O) O;have Hb:=H.full;have H:=Hb;clear hc;refine FJ H wn O O O ?_;clear H;intro a H;refine aj ⟨O,?_⟩;exact ay HT Hb hG hv (fun _ _ _ _ _ h=>h) H O
    clear H;intro a w G jE H hv;have H:=H.ak (hv 3 38 O O) O;have H:=H.ak (hv 4 39 O O) O;have H:=H.ak (hv 21 56 O O) O;clear hv;refine aT bE aF k H wn O O O V O ?_;clear H;intro a H;refine pz aF 1 (c:=fl.map vi) (vs:=[_]) ((fl.set k (max (tot (aU S) S.length m (i+1) k) (tot (aU S) S.length m i (k+1)))).map vi) H wn O O O O O O (Eq.mpr Nat.ble_eq (by rw [bN,hfl];simp only [List.length_singleton];omega)) (by rw [fC,Nat.mul_one,List.map_set];rfl) ?_;clear H;intro w H;dsimp only [List.set] at H;have g1:=aK jE g1;have gn:=aK jE gn;have EK:=aK jE EK;have jN:=jE;have eg:(fl.set k (max (tot (aU S) S.length m (i+1) k) (tot (aU S) S.length m i (k+1))))[k]?=some (max (tot (aU S) S.length m (i+1) k) (tot (aU S) S.length m i (k+1))):=List.getElem?_set_self V;refine aj ⟨O,?_⟩;refine bI _ _ ?_;clear bI;refine kP H (SR fun _ cB=>Rm O (Rm O ?_));clear H;intro a H;refine aT fI aW i H wn O O O hi1 O ?_;clear H;intro a H;refine kH H (Rg aW O g1 (Rm O ?_));clear H;intro a H;refine aT bE aF k H wn O O O hk O ?_;clear H;intro a H;refine kH H (Rg aF O gn (Rc O (Kz cB (Cd O ?_ ?_)))) <;> clear H cB
    ·intro Iu a H
     try have p65:=dT Iu
     refine dI gG [[],[],[0,1],[0,1,2],[],[],[],[5,6],[5,6,7],[],ra 5 5,ra 5 6,[],[],[12,13],[12,13,14],[],ra 12 5,ra 12 6,[],[],[20],[19,20,21],ra 19 4,[],[24],ra 19 7,ra 19 8,ra 12 16,ra 5 24,ra 0 30,ra 0 31] [30,31] Z [.slice (some ⟨b12,0,none⟩) (S.length+1) (S.length+1),vi i,(aH b12 (0+i*1)),.slice (some ⟨oN,0,none⟩) (m+1) (m+1),vi k,.slice (some ⟨b12,0,none⟩) (S.length+1) (S.length+1),vi i,(aH b12 (0+i*1)),.slice (some ⟨oN,0,none⟩) (m+1) (m+1),vi k,(aH oN (0+k*1)),vi (max (tot (aU S) S.length m (i+1) k) (tot (aU S) S.length m i (k+1))),.slice (some ⟨b,o,none⟩) S.length c,vi i,(aH b (o+i*1)),.slice (some ⟨nb,no,none⟩) m bc,vi k,(aH nb (no+k*1)),vi (aU S i k),.slice (some ⟨b12,0,none⟩) (S.length+1) (S.length+1),vi i,vi ((i:Int)+1),(aH b12 (0+(i+1)*1)),.slice (some ⟨bn,0,none⟩) (m+1) (m+1),vi k,vi ((k:Int)+1),(aH bn (0+(k+1)*1)),vi (tot (aU S) S.length m (i+1) (k+1)),vi (aU S i k+tot (aU S) S.length m (i+1) (k+1)),vi (tot (aU S) S.length m i k)] H (aI ?_ ?_ ?_ ?_ (aI ?_ ?_ ?_ ?_ (aI ?_ ?_ ?_ ?_ (aI ?_ ?_ ?_ ?_ (aI ?_ ?_ ?_ ?_ (aI ?_ ?_ ?_ ?_ (aI ?_ ?_ ?_ ?_ (aI ?_ ?_ (gB O) (gB O) fQ)))))))) ?_
     ·intro au a w G1 _ ah hc hG HT hv;have H:=HT;clear ah;have Hb:=H.full;have H:=Hb;clear hc;refine kH H (Rm O ?_);clear H;intro a H;refine aj ⟨O,?_⟩;exact ay HT Hb hG hv (fun _ _ _ _ _ h=>h) H O
     ·intro au a w G1 _ ah hc hG HT hv;have H:=HT;clear ah;have Hb:=H.full;have H:=Hb;clear hc;refine kH H (Rm O ?_);clear H;intro a H;refine aj ⟨O,?_⟩;exact ay HT Hb hG hv (fun _ _ _ _ _ h=>h) H O
     ·intro au a w G1 _ ah hc hG HT hv;have H:=HT;clear ah;have H:=H.ak (hv 0 66 (hc 0 Y) O) O;have H:=H.ak (hv 1 67 (hc 1 Y) O) O;have Hb:=H.full;have H:=Hb;clear hc;refine aT fI aW i H wn O O O V O ?_;clear H;intro a H;refine aj ⟨O,?_⟩;exact ay HT Hb hG hv (fun _ _ _ _ _ h=>h) H O
     ·intro au a w G1 _ ah hc hG HT hv;have H:=HT;clear ah;have H:=H.ak (hv 2 68 (hc 2 Y) O) O;have Hb:=H.full;have H:=Hb;clear hc;refine iM aW H wn O (H.hp.jc 0 O (by rw [fC,Nat.mul_one];exact (List.getElem?_toArray ..).trans hci)) O ?_;clear H;intro a H;refine aj ⟨O,?_⟩;exact ay HT Hb hG hv (fun _ _ _ _ _ h=>h) H O
     ·intro au a w G1 _ ah hc hG HT hv;have H:=HT;clear ah;have Hb:=H.full;have H:=Hb;clear hc;refine kH H (Rm O ?_);clear H;intro a H;refine aj ⟨O,?_⟩;exact ay HT Hb hG hv (fun _ _ _ _ _ h=>h) H O
     ·intro au a w G1 _ ah hc hG HT hv;have H:=HT;clear ah;have Hb:=H.full;have H:=Hb;clear hc;refine kH H (Rm O ?_);clear H;intro a H;refine aj ⟨O,?_⟩;exact ay HT Hb hG hv (fun _ _ _ _ _ h=>h) H O
     ·intro au a w G1 _ ah hc hG HT hv;have H:=HT;clear ah;have Hb:=H.full;have H:=Hb;clear hc;refine kH H (Rm O ?_);clear H;intro a H;refine aj ⟨O,?_⟩;exact ay HT Hb hG hv (fun _ _ _ _ _ h=>h) H O
     ·intro au a w G1 _ ah hc hG HT hv;have H:=HT;clear ah;have H:=H.ak (hv 5 71 (hc 5 Y) O) O;have H:=H.ak (hv 6 72 (hc 6 Y) O) O;have Hb:=H.full;have H:=Hb;clear hc;refine aT fI aW i H wn O O O V O ?_;clear H;intro a H;refine aj ⟨O,?_⟩;exact ay HT Hb hG hv (fun _ _ _ _ _ h=>h) H O
     ·intro au a w G1 _ ah hc hG HT hv;have H:=HT;clear ah;have H:=H.ak (hv 7 73 (hc 7 Y) O) O;have Hb:=H.full;have H:=Hb;clear hc;refine iM aW H wn O (H.hp.jc 0 O (by rw [fC,Nat.mul_one];exact (List.getElem?_toArray ..).trans hci)) O ?_;clear H;intro a H;refine aj ⟨O,?_⟩;exact ay HT Hb hG hv (fun _ _ _ _ _ h=>h) H O
     ·intro au a w G1 _ ah hc hG HT hv;have H:=HT;clear ah;have Hb:=H.full;have H:=Hb;clear hc;refine kH H (Rm O ?_);clear H;intro a H;refine aj ⟨O,?_⟩;exact ay HT Hb hG hv (fun _ _ _ _ _ h=>h) H O
     ·intro au a w G1 _ ah hc hG HT hv;have H:=HT;clear ah;have H:=H.ak (hv 8 74 (hc 8 Y) O) O;have H:=H.ak (hv 9 75 (hc 9 Y) O) O;have Hb:=H.full;have H:=Hb;clear hc;refine aT bE aF k H wn O O O V O ?_;clear H;intro a H;refine aj ⟨O,?_⟩;exact ay HT Hb hG hv (fun _ _ _ _ _ h=>h) H O
     ·intro au a w G1 _ ah hc hG HT hv;have H:=HT;clear ah;have H:=H.ak (hv 10 76 (hc 10 Y) O) O;have Hb:=H.full;have H:=Hb;clear hc;refine iM aF H wn O (H.hp.jc 1 O (by rw [fC,Nat.mul_one];exact rF eg)) O ?_;clear H;intro a H;refine aj ⟨O,?_⟩;exact ay HT Hb hG hv (fun _ _ _ _ _ h=>h) H O
     ·intro au a w G1 _ ah hc hG HT hv;have H:=HT;clear ah;have Hb:=H.full;have H:=Hb;clear hc;refine kH H (Rm O ?_);clear H;intro a H;refine aj ⟨O,?_⟩;exact ay HT Hb hG hv (fun _ _ _ _ _ h=>h) H O
     ·intro au a w G1 _ ah hc hG HT hv;have H:=HT;clear ah;have Hb:=H.full;have H:=Hb;clear hc;refine kH H (Rm O ?_);clear H;intro a H;refine aj ⟨O,?_⟩;exact ay HT Hb hG hv (fun _ _ _ _ _ h=>h) H O
     ·intro au a w G1 _ ah hc hG HT hv;have H:=HT;clear ah;have H:=H.ak (hv 12 78 (hc 12 Y) O) O;have H:=H.ak (hv 13 79 (hc 13 Y) O) O;have Hb:=H.full;have H:=Hb;clear hc;refine aT fI aW i H wn O O O hi1 O ?_;clear H;intro a H;refine aj ⟨O,?_⟩;exact ay HT Hb hG hv (fun _ _ _ _ _ h=>h) H O
     ·intro au a w G1 _ ah hc hG HT hv;have H:=HT;clear ah;have H:=H.ak (hv 14 80 (hc 14 Y) O) O;have Hb:=H.full;have H:=Hb;clear hc;refine kH H (Rg aW O (aK hG g1) ?_);clear H;intro a H;refine aj ⟨O,?_⟩;exact ay HT Hb hG hv (fun _ _ _ _ _ h=>h) H O
     ·intro au a w G1 _ ah hc hG HT hv;have H:=HT;clear ah;have Hb:=H.full;have H:=Hb;clear hc;refine kH H (Rm O ?_);clear H;intro a H;refine aj ⟨O,?_⟩;exact ay HT Hb hG hv (fun _ _ _ _ _ h=>h) H O
     ·intro au a w G1 _ ah hc hG HT hv;have H:=HT;clear ah;have H:=H.ak (hv 15 81 (hc 15 Y) O) O;have H:=H.ak (hv 16 82 (hc 16 Y) O) O;have Hb:=H.full;have H:=Hb;clear hc;refine aT bE aF k H wn O O O hk O ?_;clear H;intro a H;refine aj ⟨O,?_⟩;exact ay HT Hb hG hv (fun _ _ _ _ _ h=>h) H O
     ·intro au a w G1 _ ah hc hG HT hv;have H:=HT;clear ah;have H:=H.ak (hv 17 83 (hc 17 Y) O) O;have Hb:=H.full;have H:=Hb;clear hc;refine kH H (Rg aF O (aK hG gn) ?_);clear H;intro a H;refine aj ⟨O,?_⟩;exact ay HT Hb hG hv (fun _ _ _ _ _ h=>h) H O
     ·intro au a w G1 _ ah hc hG HT hv;have H:=HT;clear ah;have Hb:=H.full;have H:=Hb;clear hc;refine kH H (Rm O ?_);clear H;intro a H;refine aj ⟨O,?_⟩;exact ay HT Hb hG hv (fun _ _ _ _ _ h=>h) H O
     ·intro au a w G1 _ ah hc hG HT hv;have H:=HT;clear ah;have Hb:=H.full;have H:=Hb;clear hc;refine kH H (Rm O ?_);clear H;intro a H;refine aj ⟨O,?_⟩;exact ay HT Hb hG hv (fun _ _ _ _ _ h=>h) H O
     ·intro au a w G1 _ ah hc hG HT hv;have H:=HT;clear ah;have H:=H.ak (hv 20 86 (hc 20 Y) O) O;have Hb:=H.full;have H:=Hb;clear hc;refine kH H (Rd O ?_);clear H;intro a H;refine aj ⟨O,?_⟩;exact ay HT Hb hG hv (fun _ _ _ _ _ h=>h) H O
     ·intro au a w G1 _ ah hc hG HT hv;have H:=HT;clear ah;have H:=H.ak (hv 19 85 (hc 19 Y) O) O;have H:=H.ak (hv 21 87 (hc 21 Y) O) O;have Hb:=H.full;have H:=Hb;clear hc;refine aT fI aW (i+1) H wn O O V V O ?_;clear H;intro a H;refine aj ⟨O,?_⟩;exact ay HT Hb hG hv (fun _ _ _ _ _ h=>h) H O
     ·intro au a w G1 _ ah hc hG HT hv;have H:=HT;clear ah;have H:=H.ak (hv 22 88 (hc 22 Y) O) O;have Hb:=H.full;have H:=Hb;clear hc;refine iM aW H wn O (H.hp.jc 0 O (by rw [fC,Nat.mul_one];exact (List.getElem?_toArray ..).trans hen)) O ?_;clear H;intro a H;refine aj ⟨O,?_⟩;exact ay HT Hb hG hv (fun _ _ _ _ _ h=>h) H O
     ·intro au a w G1 _ ah hc hG HT hv;have H:=HT;clear ah;have Hb:=H.full;have H:=Hb;clear hc;refine kH H (Rm O ?_);clear H;intro a H;refine aj ⟨O,?_⟩;exact ay HT Hb hG hv (fun _ _ _ _ _ h=>h) H O
     ·intro au a w G1 _ ah hc hG HT hv;have H:=HT;clear ah;have H:=H.ak (hv 24 90 (hc 24 Y) O) O;have Hb:=H.full;have H:=Hb;clear hc;refine kH H (Rd O ?_);clear H;intro a H;refine aj ⟨O,?_⟩;exact ay HT Hb hG hv (fun _ _ _ _ _ h=>h) H O
     ·intro au a w G1 _ ah hc hG HT hv;have H:=HT;clear ah;have H:=H.ak (hv 23 89 (hc 23 Y) O) O;have H:=H.ak (hv 25 91 (hc 25 Y) O) O;have Hb:=H.full;have H:=Hb;clear hc;refine aT bE aF (k+1) H wn O O V V O ?_;clear H;intro a H;refine aj ⟨O,?_⟩;exact ay HT Hb hG hv (fun _ _ _ _ _ h=>h) H O
     ·intro au a w G1 _ ah hc hG HT hv;have H:=HT;clear ah;have H:=H.ak (hv 26 92 (hc 26 Y) O) O;have Hb:=H.full;have H:=Hb;clear hc;refine kH H (Rg aF O (aK hG EK) ?_);clear H;intro a H;refine aj ⟨O,?_⟩;exact ay HT Hb hG hv (fun _ _ _ _ _ h=>h) H O
     ·intro au a w G1 _ ah hc hG HT hv;have H:=HT;clear ah;have H:=H.ak (hv 18 84 (hc 18 Y) O) O;have H:=H.ak (hv 27 93 (hc 27 Y) O) O;have Hb:=H.full;have H:=Hb;clear hc;refine kH H (Rd O ?_);clear H;intro a H;refine aj ⟨O,?_⟩;exact ay HT Hb hG hv (fun _ _ _ _ _ h=>h) H O
     ·intro au a w G1 _ ah hc hG HT hv;have H:=HT;clear ah;have H:=H.ak (hv 11 77 (hc 11 Y) O) O;have H:=H.ak (hv 28 94 (hc 28 Y) O) O;have Hb:=H.full;have H:=Hb;clear hc;refine FJ H wn O O O ?_;clear H;intro a H;refine aj ⟨O,?_⟩;exact jw Z (fun _ _ _ _ _ h=>h) O O HT Hb hG hv (fun _ _ h=>h) (by rw [hin,aX];rfl) H
     clear H;intro a w G zf H hv;have H:=H.ak (hv 3 69 O O) O;have H:=H.ak (hv 4 70 O O) O;have H:=H.ak (hv 29 95 O O) O;clear hv;refine aT bE aF k H wn O O O V O ?_;clear H;intro a H;refine pz aF 1 (c:=(fl.set k (max (tot (aU S) S.length m (i+1) k) (tot (aU S) S.length m i (k+1)))).map vi) (vs:=[_]) ((fl.set k (tot (aU S) S.length m i k)).map vi) H wn O O O O O O (Eq.mpr Nat.ble_eq (by rw [bN,List.length_set,hfl];simp only [List.length_singleton];omega)) (by rw [fC,Nat.mul_one,FQ,List.map_set,List.map_set,List.set_set]) ?_;clear H;intro w H;dsimp only [List.set] at H;have jN:∀ b o,g2 b=some o->G b=some o:=fun b o h=>zf b o (jE b o h);refine aj ⟨O,?_⟩;refine bL _ _ ?_;clear bL;refine kP H (SC (Rm O (Rs O (Ra O ?_))));clear H;intro a H;refine aj ?_;refine bg ((k,fl.set k (tot (aU S) S.length m i k),G)) (by exact H.sub ⟨O,O,O,O,O,O,aL⟩) ?_
     try dsimp only
     exact ⟨V,by simp [hfl],fun q h1 h2=>by
       by_cases e:q=k
       ·subst e;rw [List.getElem?_set_self V]
       rw [List.getElem?_set_ne V];exact nZ q V h2,fun q hq=>by rw [List.getElem?_set_ne V];exact hf0 q V,fun b o h=>jN b o (eH b o h),fun b o h=>jN b o (hgg b o h)⟩
    intro Iu a H
    try have p65:=dF Iu
    rw [show max (tot (aU S) S.length m (i+1) k) (tot (aU S) S.length m i (k+1))=tot (aU S) S.length m i k by rw [hin,dJ,Int.max_eq_left (by omega:(-1:Int)<=_)]] at H;refine kP H (Kc bL (SC (Rm O (Rs O (Ra O ?_)))));clear H bL;intro a H;refine aj ?_;refine bg ((k,fl.set k (tot (aU S) S.length m i k),G)) (by exact H.sub ⟨O,O,O,O,O,O,aL⟩) ?_
    try dsimp only
    exact ⟨V,by simp [hfl],fun q h1 h2=>by
      by_cases e:q=k
      ·subst e;rw [List.getElem?_set_self V]
      rw [List.getElem?_set_ne V];exact nZ q V h2,fun q hq=>by rw [List.getElem?_set_ne V];exact hf0 q V,fun b o h=>jN b o (eH b o h),fun b o h=>jN b o (hgg b o h)⟩
   intro h32 a H
   try have p32:=dF h32
   refine dD ?_;refine K7 _ _ ?_;clear K7
   have hall:∀ q,q<=m->fl[q]?=some (tot (aU S) S.length m i q):=fun q hq=>by
    by_cases e:p<=q
    ·exact nZ q e hq
    rw [hf0 q V,BA V]
   have hrow:=RI hfl hall;have H:=H.dR (Pl:=[_,_]) (dx:=[_,_]) [1,0] Y O;obtain ⟨G3,qM,hg3,H⟩:=H.jd
   have qh:xH G3 S m cs2 i:=⟨vF,fun r h1 h2=>by
    by_cases e:r=i
    ·subst e;refine ⟨oN,hci,?_⟩;rw [<- hrow];exact aC.mQ (xs:=fl.map vi) hg3 (by rw [bN,hfl]) (bD _) V (iU (by simp [hfl])) (uH _ _)
    obtain ⟨br,e1,e2⟩:=hra.2 r V h2
    exact ⟨br,by rw [hcn r V];exact e1,(e2.mono hgg).mono qM⟩⟩
   refine kP H (SC (Rm O (Rs O (Ra O ?_))));clear H;intro a H;refine aj ?_;refine bg ((i,cs2,G3)) (by exact H.sub ⟨O,O,O,O,O,aL⟩) ?_
   (try dsimp only);exact ⟨V,qh,fun b o h=>qM b o (eH b o h)⟩
  intro fU a H
  try have p28:=dF fU
  refine kH H (aQ fU O (Pf fU O (Kz bH (Cf O O ?_))));clear H bH;intro a H;refine dD ?_;refine K7 _ _ ?_;clear K7
  have hall:∀ q,q<=m->fl[q]?=some (tot (aU S) S.length m i q):=fun q hq=>by
   by_cases e:p<=q
   ·exact nZ q e hq
   rw [hf0 q V,BA V]
  have hrow:=RI hfl hall;have H:=H.dR (Pl:=[_,_]) (dx:=[_,_]) [1,0] Y O;obtain ⟨G3,qM,hg3,H⟩:=H.jd
  have qh:xH G3 S m cs2 i:=⟨vF,fun r h1 h2=>by
   by_cases e:r=i
   ·subst e;refine ⟨oN,hci,?_⟩;rw [<- hrow];exact aC.mQ (xs:=fl.map vi) hg3 (by rw [bN,hfl]) (bD _) V (iU (by simp [hfl])) (uH _ _)
   obtain ⟨br,e1,e2⟩:=hra.2 r V h2
   exact ⟨br,by rw [hcn r V];exact e1,(e2.mono hgg).mono qM⟩⟩
  refine kP H (SC (Rm O (Rs O (Ra O ?_))));clear H;intro a H;refine aj ?_;refine bg ((i,cs2,G3)) (by exact H.sub ⟨O,O,O,O,O,aL⟩) ?_
  (try dsimp only);exact ⟨V,qh,fun b o h=>qM b o (eH b o h)⟩
 intro jX a H
 try have qo:=dF jX
 refine dD ?_;refine K3 _ _ ?_;clear K3;refine kP H (SR fun _ dw=>Rm O (aB dw O ?_));clear H dw;intro a H;refine aV ?_
 have hj0:j=0:=by omega
 subst hj0;obtain ⟨Gr,hmr,hgr,H⟩:=H.jd;refine lv H results25 O ?_;exact H.rt (aC.mQ (xs:=cs) hgr (by simp [nM]) (bD _) V (iU (by have:=hra.1;rw [List.toList_toArray];omega)) (hra.mono hmr).cat)
section
section
variable {N:Nat} {D:List Deferred} {w0:World} {F:Nat->Prop} {G0 G G1 G2:GH} {L L1:OL} {T Xs:List (Nat × av)}
variable {r:Option Nat} {P:Program} {Q:Exit->Act->World->Prop} {l:List Oper} {a a':Act} {w w':World}
end
end
section
section
variable {N:Nat} {D:List Deferred} {w0:World} {F:Nat->Prop} {G0 G G1 G2:GH} {L L1 L2:OL} {T Xs:List (Nat × av)}
variable {r:Option Nat} {P:Program} {Q:Exit->Act->World->Prop} {l:List Oper} {a a':Act} {w w':World}
theorem Nt {pr:Nat->av->GH->Prop} {S:Nat->Bool} {i:Nat} (hi:dY l i=none) (HT:St N D w0 F G0 G1 L T a w) (hG:∀ k o,G k=some o->G1 k=some o) (hv:∀ i d,S i=true->dY l i=some d->∃ v,a.tmps[d]?=some v∧pr i v G1)
  (H:St N D w0 F G0 G1 L2 (Xs++full N a) a w'):DX N D w0 F G0 G L2 T l pr (fD S i) a w' :=
 ⟨G1,hG,HT.move H.hp,fun j e hj he=>hv j e (by
  unfold fD at hj
  by_cases hji:j=i
  ·subst hji;rw [hi] at he;cases he
  ·rwa [aJ hji] at hj) he⟩
theorem MJ {id:Nat} (hm:P.follows .mixedOrders=true) (bQ:List (List Nat)) (B:List Nat) (hk:vC l bQ=true) (hB:vN l bQ B=true) (m:Nat) (Ji:B.contains m=false) (pr:Nat->av->GH->Prop) (ix:Nat) (ob:Nat × Obj)
  (H:St N D w0 F G0 G L T a w)
  (hstep:allI (fun i o=>∀ S a w G1,B.contains i=false->Nat.beq i m=false->S i=false->(∀ j∈bQ.getD i [],S j=true)->(∀ k o,G k=some o->G1 k=some o)->St N D w0 F G0 G1 L T a w->(∀ i d,S i=true->dY l i=some d->∃ v,a.tmps[d]?=some v∧pr i v G1) ->
   WL r P l.toArray (fun e a' w'=>e=.normal∧DX N D w0 F G0 G L T l pr (fD S i) a' w') [o] a w) 0 l)
  (hmid:∀ o S a w G1,l[m]?=some o->S m=false->(∀ j∈bQ.getD m [],S j=true)->(∀ k o,G k=some o->G1 k=some o)->St N D w0 F G0 G1 L T a w->(∀ i d,S i=true->dY l i=some d->∃ v,a.tmps[d]?=some v∧pr i v G1) ->
   WL r P l.toArray (fun e a' w'=>e=.normal∧DX N D w0 F G0 G (L.set ix ob) T l pr (fD S m) a' w') [o] a w)
  (hstep2:allI (fun i o=>∀ S a w G1,(B.contains i || (bQ.getD m []).contains i)=false->Nat.beq i m=false->S i=false->(∀ j∈bQ.getD i [],S j=true)->(∀ k o,G k=some o->G1 k=some o)->St N D w0 F G0 G1 (L.set ix ob) T a w->(∀ i d,S i=true->dY l i=some d->∃ v,a.tmps[d]?=some v∧pr i v G1) ->
   WL r P l.toArray (fun e a' w'=>e=.normal∧DX N D w0 F G0 G (L.set ix ob) T l pr (fD S i) a' w') [o] a w) 0 l)
  (hend:∀ a w G1,(∀ k o,G k=some o->G1 k=some o)->St N D w0 F G0 G1 (L.set ix ob) T a w->(∀ i d,B.contains i=false->dY l i=some d->∃ v,a.tmps[d]?=some v∧pr i v G1)->WL r P l.toArray (fun e a w=>e=.normal∧Q .normal a w) (nI l B) a w)
  (hml:Nat.blt m l.length=true):WP r P (.region id l.toArray true) Q a w:=by
 refine MI hm bQ B hk hB (fun S a w=>(S m=false∧DX N D w0 F G0 G L T l pr S a w)∨(S m=true∧DX N D w0 F G0 G (L.set ix ob) T l pr S a w))
  (.inl ⟨rfl,G,fun _ _ h=>h,H.move H.hp.drew,fun _ _ h=>absurd (show false=true from h) Y⟩) ?_ ?_
 ·rintro i o S a w ho hb ah mM hdesc hX
  by_cases him:i=m
  ·subst him
   rcases hX with ⟨_,G1,hG,HS,hv⟩|⟨h1,_⟩
   ·have h:=hmid o S a w G1 ho ah mM hG HS hv
    have e1:fD S i i=true:=aM O
    exact qU (fun e a' w' ⟨he,hD⟩=>⟨he,.inr ⟨e1,hD⟩⟩) h
   ·rw [h1] at ah;cases ah
  ·have e:fD S i m=S m:=aJ (fun h=>him h.symm)
   rcases hX with ⟨h1,G1,hG,HS,hv⟩|⟨h1,G1,hG,HS,hv⟩
   ·have h:=yO hstep i o ho
    rw [fC] at h
    exact qU (fun e' a' w' ⟨he,hD⟩=>⟨he,.inl ⟨e.trans h1,hD⟩⟩) (h S a w G1 hb (Ai him) ah mM hG HS hv)
   ·have h:=yO hstep2 i o ho
    rw [fC] at h
    have hnc:(B.contains i || (bQ.getD m []).contains i)=false:=by
     rw [hb,Bool.false_or]
     cases hc2:(bQ.getD m []).contains i with
     | false=>rfl
     | true=>have:=hdesc m (Eq.mp Nat.blt_eq hml) (sw.1 hc2);rw [h1] at this;cases this
    exact qU (fun e' a' w' ⟨he,hD⟩=>⟨he,.inr ⟨e.trans h1,hD⟩⟩) (h S a w G1 hnc (Ai him) ah mM hG HS hv)
 ·rintro S a w hall Ym hX
  have Fb:S m=true:=hall m (Eq.mp Nat.blt_eq hml) Ji
  rcases hX with ⟨h1,_⟩|⟨h1,G1,hG,HS,hv⟩
  ·rw [h1] at Fb;cases Fb
  ·exact hend a w G1 hG HS fun j d hb hd=>hv j d (hall j (Ao hd) hb) hd
end
end
end Go.Proofs.YtomebajfpcjoeaaDoor
