/-
  What the claim stands on, part 6: Tts Bmm Dv Mmx Bks Bkm Bkl Wgt Mb Can Brw Blr Bkf Brd.
-/
import Derived.Test.YtomebajfpcjoeaaGreatDoorWae
import Derived.ProofKit
import Derived.Deep.Slices
import Derived.Laws.StructEq
namespace Go.Proofs.YtomebajfpcjoeaaGreatDoor
set_option linter.all false
open Go.Proofs.Tryz
open Go.RowKit
def qp (S:List (List Int)) (m i:Nat):List Int:=(List.range (m+1)).map fun k=>tot (bI S) S.length m i k
def qw (S:List (List Int)) (m:Nat):List (List Int):=(List.range (S.length+1)).map (qp S m)
theorem aio {S:List (List Int)} {m i k:Nat} (hk:k<=m):(qp S m i)[k]?=some (tot (bI S) S.length m i k):=by simp [qp,List.getElem?_range,show k < m+1 by omega]
theorem XD {S:List (List Int)} {m i:Nat} {fl:List Int} (hl:fl.length=m+1) (h:∀ q,q<=m->fl[q]?=some (tot (bI S) S.length m i q)):fl=qp S m i:=by
 apply List.ext_getElem?
 intro q
 by_cases hq:q<=m
 ·rw [h q hq,aio hq]
 rw [List.getElem?_eq_none V,List.getElem?_eq_none (by simp [qp];omega)]
abbrev Ry (b:Nat) (cs:List ak):Nat × Obj:=(b,.cells cs.toArray 40 (0,0))
def AQ (g:GH) (S:List (List Int)) (m:Nat) (cs:List ak) (j:Nat):Prop:=cs.length=S.length+1∧∀ r,j<=r->r<=S.length->∃ b,cs[r]?=some (.slice (some ⟨b,0,none⟩) (m+1) (m+1))∧aF g (.sl 1 ((qp S m r).map gJ)) (.slice (some ⟨b,0,none⟩) (m+1) (m+1))
theorem AQ.mono {g g':GH} {S:List (List Int)} {m:Nat} {cs:List ak} {j:Nat} (h:AQ g S m cs j) (hm:∀ b o,g b=some o->g' b=some o):AQ g' S m cs j :=
 ⟨h.1,fun r h1 h2=>by obtain ⟨b,e,hr⟩:=h.2 r h1 h2;exact ⟨b,e,hr.mono hm⟩⟩
theorem AQ.cat {g:GH} {S:List (List Int)} {m:Nat} {cs:List ak} (h:AQ g S m cs 0):cO g 1 ((qw S m).map nD) cs:=by
 have hc:=Pk (G:=g) (qw S m) [] [] cs cO.nil (by simp [qw,h.1]) (fun i r u h1 h2=>by
  have hi:i<=S.length:=by have:=(gN.1 h2).1;have:=h.1;omega
  obtain ⟨b,e,hr⟩:=h.2 i (fC _) hi;rw [qw,nM,List.getElem?_range V,rJ] at h1;rw [e] at h2
  injection h1 with h1;injection h2 with h2
  subst h1;subst h2;exact hr)
 simpa using hc
theorem PW {c:List ak} {o:Nat} {v:ak}:setRow c o [v]=c.set o v:=rfl
set_option maxHeartbeats 2000000 in
theorem XE (G:GH) (w0:World) (hG:Hold G w0) {S:List (List Int)} {m:Nat} (hS:Dw S m) (v:ak) (hv:aF G (.sl 1 (S.map nD)) v) :
  Calls prog 35 #[v,vi S.length,vi m] w0 (bQ w0 G fun r G'=>aF G' (.sl 1 ((qw S m).map nD)) r):=by
 obtain ⟨A,c,rfl,hc1,hc2,-⟩:=hv.slice;have hml:maxLen=9223372036854775807:=rfl;have hln:=hS.len;have htb:∀ i k,0<=tot (bI S) S.length m i k∧tot (bI S) S.length m i k<=1000*((S.length - i:Nat):Int):=fun i k=>EP (fun i k hi hk=>(hS.ok i k hi hk).2) _ i k (bS _);rw [bJ] at *;refine eN [(0,_),(1,_),(2,_)] func35 O ntmps35 O O hG ?_;intro a H;refine kP H (SR fun _ K1=>av K1 O (SR fun _ K2=>Rm O (Rd O ?_)));clear H K1;intro a H;refine xV (S.length+1) iE bP H wn O O V V V O ?_;clear H;intro b12 a w ajy H;refine kH H (av K2 O (SQ fun _ K3=>SR fun _ K4=>Rm O (av K4 O (SB ?_))));clear H K2 K4;intro a H;skip;refine dY (ι:=Nat × List ak × GH) (Tc:=[(0,_),(1,_),(2,_),(7,_)]) (Lc:=[]) (fun gh=>[(8,vi ((gh.1:Int) - 1))]) (fun gh=>[Ry b12 gh.2.1]) (fun gh=>gh.2.2) (fun gh=>gh.1<=S.length+1∧AQ gh.2.2 S m gh.2.1 gh.1∧(∀ b o,G b=some o->gh.2.2 b=some o)) (fun gh=>gh.1) ((S.length+1,List.replicate (S.length+1) (.slice none 0 0),G)) (by exact by rw [show (((S.length+1:Nat):Int) - 1)=(S.length:Int) by omega];exact H.sub ⟨O,O,O,O,O,aI⟩) ?_ ?_
 ·exact ⟨bS _,⟨by simp,fun r h1 h2=>absurd h1 V⟩,fun _ _ h=>h⟩
 clear H;rintro ⟨j,cs,g⟩ a w hI H;dsimp only at hI H;obtain ⟨hj,hra,hgm⟩:=hI;dsimp only [lca,bW] at H;refine kP H (SQ fun _ K5=>SR fun _ K6=>Rm O (Rc O (Kz K6 (Cd O ?_ ?_)))) <;> clear H K6
 ·intro lC a H
  try have oK:=dT lC
  obtain ⟨i,rfl⟩:∃ i,j=i+1:=⟨j - 1,V⟩;rw [show (((i+1:Nat):Int) - 1)=(i:Int) by omega] at H
  have hi:i<=S.length:=by omega
  refine kP H (Kc K5 (SQ fun _ K7=>SB (SR fun _ K8=>Rm O (Rm O (Rm O (Rd O ?_))))));clear H K5;intro a H;refine xV (m+1) cB aC H wn O O V V V O ?_;clear H;intro rM a w NM H;refine bD iE bP i H wn O O O V O ?_;clear H;intro a H;refine ql bP 1 (c:=cs) (vs:=[_]) (cs.set i (.slice (some ⟨rM,0,none⟩) (m+1) (m+1))) H wn O O O O O O (Eq.mpr Nat.ble_eq (by have:=hra.1;simp only [List.length_singleton];omega)) (by rw [eH,Nat.mul_one];exact PW) ?_;clear H;intro w H;dsimp only [List.set] at H;obtain ⟨cs2,hcs2⟩:∃ x,x=cs.set i (.slice (some ⟨rM,0,none⟩) (m+1) (m+1)):=⟨_,O⟩;rw [<- hcs2] at H
  have zP:cs2.length=S.length+1:=by rw [hcs2,List.length_set];exact hra.1
  have hci:cs2[i]?=some (.slice (some ⟨rM,0,none⟩) (m+1) (m+1)):=by rw [hcs2,List.getElem?_set_self (by have:=hra.1;omega)]
  have hcn:∀ r,i < r->cs2[r]?=cs[r]?:=fun r hr=>by rw [hcs2,List.getElem?_set_ne V]
  rw [show List.replicate (m+1) (Value.int .i64 0)=(List.replicate (m+1) (0:Int)).map vi from List.map_replicate.symm] at H;refine K8 _ _ ?_;clear K8;refine kP H (SR fun _ K9=>Rm O (Rs O (av K9 O (SB ?_))));clear H K9;intro a H;skip;refine dY (ι:=Nat × List Int × GH) (Tc:=[(0,_),(1,_),(2,_),(7,_),(8,_)]) (Lc:=[(_,_)]) (fun gh=>[(9,vi ((gh.1:Int) - 1))]) (fun gh=>[bF rM gh.2.1]) (fun gh=>gh.2.2) (fun gh=>gh.1<=m∧gh.2.1.length=m+1∧(∀ q,gh.1<=q->q<=m->gh.2.1[q]?=some (tot (bI S) S.length m i q))∧(∀ q,q < gh.1->gh.2.1[q]?=some 0)∧(∀ b o,G b=some o->gh.2.2 b=some o)∧(∀ b o,g b=some o->gh.2.2 b=some o)) (fun gh=>gh.1) ((m,List.replicate (m+1) 0,g)) (by exact (H.dz (Pl:=[_,_]) (bZ:=[_,_]) [1,0] Y O).sub ⟨O,O,O,O,O,O,aI⟩) ?_ ?_
  ·exact ⟨bS _,by simp,fun q h1 h2=>by rw [ER V];simp [List.getElem?_replicate];omega,fun q hq=>by simp [List.getElem?_replicate];omega,hgm,fun _ _ h=>h⟩
  clear H;rintro ⟨p,fl,g2⟩ a w hI H;dsimp only at hI H;obtain ⟨hp,hfl,vw,hf0,gH,hgg⟩:=hI;dsimp only [lca,bW] at H;refine kP H (SQ fun _ aP=>SR fun _ aT=>Rm O (Rc O (Rm O (Sp 28 O ?_ ?_)))) <;> clear H
  ·intro fI a H
   try have p28:=dT fI
   refine kH H (YM fI O (YM fI O (YC fI O (Pt fI O (Kz aT (Cd O ?_ ?_)))))) <;> clear H aT
   ·intro h32 a H
    try have p32:=dT h32
    obtain ⟨k,rfl⟩:∃ k,p=k+1:=⟨p - 1,V⟩;rw [show (((k+1:Nat):Int) - 1)=(k:Int) by omega] at H
    have hk:k < m:=by omega
    have hi1:i < S.length:=by omega
    obtain ⟨bn,hen,hrn⟩:=hra.2 (i+1) (bS _) V;rw [<- hcn _ (Nat.lt_succ_self i)] at hen;obtain ⟨_,_,e0,Ud⟩:=rU (k:=k) (hrn.mono hgg) (by simp [qp];omega)
    injection e0 with e0;injection e0 with e1 e2;subst e1;subst e2
    obtain ⟨_,_,e0,Jp⟩:=rU (k:=k+1) (hrn.mono hgg) (by simp [qp];omega)
    injection e0 with e0;injection e0 with e1 e2;subst e1;subst e2
    rw [show (qp S m (i+1))[k]'(by simp [qp];omega)=tot (bI S) S.length m (i+1) k by simp [qp]] at Ud;rw [show (qp S m (i+1))[k+1]'(by simp [qp];omega)=tot (bI S) S.length m (i+1) (k+1) by simp [qp]] at Jp;have hb1:=htb (i+1) k;have hb2:=htb i (k+1);have hb3:=htb (i+1) (k+1);have hok:=hS.ok i k hi1 hk;have hin:=Qi (s:=bI S) hi1 hk;have ef:=vw (k+1) (bS _) V;obtain ⟨b,o,bA,bc,rfl,g1,g2r⟩:=Ac (hv.mono gH) hi1;have hw:S[i].length=m:=hS.wid _ (dV hi1);obtain ⟨nb,no,rfl,gn⟩:=rU g2r (show k < S[i].length by omega);rw [<- EC hi1 V] at gn;rw [hw] at g1;refine kP H (Kc aP (SQ fun _ bH=>SB (SQ fun _ bG=>?_)));clear H aP;intro a H;refine dI hmx [[],[],[0,1],[0,1,2],[],[],[],[6],[5,6,7],ra 5 4,[],ra 5 6,ra 5 7,[],[],[13,14],[13,14,15],[],[17],ra 13 6,ra 13 7,ra 5 16,ra 0 22,ra 0 23] [22,23] Z [.slice (some ⟨b12,0,none⟩) (S.length+1) (S.length+1),vi i,(aJ b12 (0+i*1)),.slice (some ⟨rM,0,none⟩) (m+1) (m+1),vi k,.slice (some ⟨b12,0,none⟩) (S.length+1) (S.length+1),vi i,vi ((i:Int)+1),(aJ b12 (0+(i+1)*1)),.slice (some ⟨bn,0,none⟩) (m+1) (m+1),vi k,(aJ bn (0+k*1)),vi (tot (bI S) S.length m (i+1) k),.slice (some ⟨b12,0,none⟩) (S.length+1) (S.length+1),vi i,(aJ b12 (0+i*1)),.slice (some ⟨rM,0,none⟩) (m+1) (m+1),vi k,vi ((k:Int)+1),(aJ rM (0+(k+1)*1)),vi (tot (bI S) S.length m i (k+1)),vi (max (tot (bI S) S.length m (i+1) k) (tot (bI S) S.length m i (k+1)))] H (aH ?_ ?_ ?_ ?_ (aH ?_ ?_ ?_ ?_ (aH ?_ ?_ ?_ ?_ (aH ?_ ?_ ?_ ?_ (aH ?_ ?_ ?_ ?_ (aH ?_ ?_ (fT O) (fT O) fD)))))) ?_
    ·intro ay a w G1 _ ah hc hG HT hv;have H:=HT;clear ah;have Hb:=H.full;have H:=Hb;clear hc;refine kH H (Rm O ?_);clear H;intro a H;refine aj ⟨O,?_⟩;exact aB HT Hb hG hv (fun _ _ _ _ _ h=>h) H O
    ·intro ay a w G1 _ ah hc hG HT hv;have H:=HT;clear ah;have Hb:=H.full;have H:=Hb;clear hc;refine kH H (Rm O ?_);clear H;intro a H;refine aj ⟨O,?_⟩;exact aB HT Hb hG hv (fun _ _ _ _ _ h=>h) H O
    ·intro ay a w G1 _ ah hc hG HT hv;have H:=HT;clear ah;have H:=H.au (hv 0 35 (hc 0 Y) O) O;have H:=H.au (hv 1 36 (hc 1 Y) O) O;have Hb:=H.full;have H:=Hb;clear hc;refine bD iE bP i H wn O O O V O ?_;clear H;intro a H;refine aj ⟨O,?_⟩;exact aB HT Hb hG hv (fun _ _ _ _ _ h=>h) H O
    ·intro ay a w G1 _ ah hc hG HT hv;have H:=HT;clear ah;have H:=H.au (hv 2 37 (hc 2 Y) O) O;have Hb:=H.full;have H:=Hb;clear hc;refine iU bP H wn O (H.hp.gK 0 O (by rw [eH,Nat.mul_one];exact (List.getElem?_toArray ..).trans hci)) O ?_;clear H;intro a H;refine aj ⟨O,?_⟩;exact aB HT Hb hG hv (fun _ _ _ _ _ h=>h) H O
    ·intro ay a w G1 _ ah hc hG HT hv;have H:=HT;clear ah;have Hb:=H.full;have H:=Hb;clear hc;refine kH H (Rm O ?_);clear H;intro a H;refine aj ⟨O,?_⟩;exact aB HT Hb hG hv (fun _ _ _ _ _ h=>h) H O
    ·intro ay a w G1 _ ah hc hG HT hv;have H:=HT;clear ah;have Hb:=H.full;have H:=Hb;clear hc;refine kH H (Rm O ?_);clear H;intro a H;refine aj ⟨O,?_⟩;exact aB HT Hb hG hv (fun _ _ _ _ _ h=>h) H O
    ·intro ay a w G1 _ ah hc hG HT hv;have H:=HT;clear ah;have Hb:=H.full;have H:=Hb;clear hc;refine kH H (Rm O ?_);clear H;intro a H;refine aj ⟨O,?_⟩;exact aB HT Hb hG hv (fun _ _ _ _ _ h=>h) H O
    ·intro ay a w G1 _ ah hc hG HT hv;have H:=HT;clear ah;have H:=H.au (hv 6 41 (hc 6 Y) O) O;have Hb:=H.full;have H:=Hb;clear hc;refine kH H (Rd O ?_);clear H;intro a H;refine aj ⟨O,?_⟩;exact aB HT Hb hG hv (fun _ _ _ _ _ h=>h) H O
    ·intro ay a w G1 _ ah hc hG HT hv;have H:=HT;clear ah;have H:=H.au (hv 5 40 (hc 5 Y) O) O;have H:=H.au (hv 7 42 (hc 7 Y) O) O;have Hb:=H.full;have H:=Hb;clear hc;refine bD iE bP (i+1) H wn O O V V O ?_;clear H;intro a H;refine aj ⟨O,?_⟩;exact aB HT Hb hG hv (fun _ _ _ _ _ h=>h) H O
    ·intro ay a w G1 _ ah hc hG HT hv;have H:=HT;clear ah;have H:=H.au (hv 8 43 (hc 8 Y) O) O;have Hb:=H.full;have H:=Hb;clear hc;refine iU bP H wn O (H.hp.gK 0 O (by rw [eH,Nat.mul_one];exact (List.getElem?_toArray ..).trans hen)) O ?_;clear H;intro a H;refine aj ⟨O,?_⟩;exact aB HT Hb hG hv (fun _ _ _ _ _ h=>h) H O
    ·intro ay a w G1 _ ah hc hG HT hv;have H:=HT;clear ah;have Hb:=H.full;have H:=Hb;clear hc;refine kH H (Rm O ?_);clear H;intro a H;refine aj ⟨O,?_⟩;exact aB HT Hb hG hv (fun _ _ _ _ _ h=>h) H O
    ·intro ay a w G1 _ ah hc hG HT hv;have H:=HT;clear ah;have H:=H.au (hv 9 44 (hc 9 Y) O) O;have H:=H.au (hv 10 45 (hc 10 Y) O) O;have Hb:=H.full;have H:=Hb;clear hc;refine bD cB aC k H wn O O O V O ?_;clear H;intro a H;refine aj ⟨O,?_⟩;exact aB HT Hb hG hv (fun _ _ _ _ _ h=>h) H O
    ·intro ay a w G1 _ ah hc hG HT hv;have H:=HT;clear ah;have H:=H.au (hv 11 46 (hc 11 Y) O) O;have Hb:=H.full;have H:=Hb;clear hc;refine kH H (Rg aC O (aK hG Ud) ?_);clear H;intro a H;refine aj ⟨O,?_⟩;exact aB HT Hb hG hv (fun _ _ _ _ _ h=>h) H O
    ·intro ay a w G1 _ ah hc hG HT hv;have H:=HT;clear ah;have Hb:=H.full;have H:=Hb;clear hc;refine kH H (Rm O ?_);clear H;intro a H;refine aj ⟨O,?_⟩;exact aB HT Hb hG hv (fun _ _ _ _ _ h=>h) H O
    ·intro ay a w G1 _ ah hc hG HT hv;have H:=HT;clear ah;have Hb:=H.full;have H:=Hb;clear hc;refine kH H (Rm O ?_);clear H;intro a H;refine aj ⟨O,?_⟩;exact aB HT Hb hG hv (fun _ _ _ _ _ h=>h) H O
    ·intro ay a w G1 _ ah hc hG HT hv;have H:=HT;clear ah;have H:=H.au (hv 13 48 (hc 13 Y) O) O;have H:=H.au (hv 14 49 (hc 14 Y) O) O;have Hb:=H.full;have H:=Hb;clear hc;refine bD iE bP i H wn O O O V O ?_;clear H;intro a H;refine aj ⟨O,?_⟩;exact aB HT Hb hG hv (fun _ _ _ _ _ h=>h) H O
    ·intro ay a w G1 _ ah hc hG HT hv;have H:=HT;clear ah;have H:=H.au (hv 15 50 (hc 15 Y) O) O;have Hb:=H.full;have H:=Hb;clear hc;refine iU bP H wn O (H.hp.gK 0 O (by rw [eH,Nat.mul_one];exact (List.getElem?_toArray ..).trans hci)) O ?_;clear H;intro a H;refine aj ⟨O,?_⟩;exact aB HT Hb hG hv (fun _ _ _ _ _ h=>h) H O
    ·intro ay a w G1 _ ah hc hG HT hv;have H:=HT;clear ah;have Hb:=H.full;have H:=Hb;clear hc;refine kH H (Rm O ?_);clear H;intro a H;refine aj ⟨O,?_⟩;exact aB HT Hb hG hv (fun _ _ _ _ _ h=>h) H O
    ·intro ay a w G1 _ ah hc hG HT hv;have H:=HT;clear ah;have H:=H.au (hv 17 52 (hc 17 Y) O) O;have Hb:=H.full;have H:=Hb;clear hc;refine kH H (Rd O ?_);clear H;intro a H;refine aj ⟨O,?_⟩;exact aB HT Hb hG hv (fun _ _ _ _ _ h=>h) H O
    ·intro ay a w G1 _ ah hc hG HT hv;have H:=HT;clear ah;have H:=H.au (hv 16 51 (hc 16 Y) O) O;have H:=H.au (hv 18 53 (hc 18 Y) O) O;have Hb:=H.full;have H:=Hb;clear hc;refine bD cB aC (k+1) H wn O O V V O ?_;clear H;intro a H;refine aj ⟨O,?_⟩;exact aB HT Hb hG hv (fun _ _ _ _ _ h=>h) H O
    ·intro ay a w G1 _ ah hc hG HT hv;have H:=HT;clear ah;have H:=H.au (hv 19 54 (hc 19 Y) O) O;have Hb:=H.full;have H:=Hb;clear hc;refine iU aC H wn O (H.hp.gK 1 O (by rw [eH,Nat.mul_one];exact uZ ef)) O ?_;clear H;intro a H;refine aj ⟨O,?_⟩;exact aB HT Hb hG hv (fun _ _ _ _ _ h=>h) H O
    ·intro ay a w G1 _ ah hc hG HT hv;have H:=HT;clear ah;have H:=H.au (hv 12 47 (hc 12 Y) O) O;have H:=H.au (hv 20 55 (hc 20 Y) O) O;have Hb:=H.full;have H:=Hb;clear hc;refine KF H wn O O O ?_;clear H;intro a H;refine aj ⟨O,?_⟩;exact aB HT Hb hG hv (fun _ _ _ _ _ h=>h) H O
    clear H;intro a w G kr H hv;have H:=H.au (hv 3 38 O O) O;have H:=H.au (hv 4 39 O O) O;have H:=H.au (hv 21 56 O O) O;clear hv;refine bD cB aC k H wn O O O V O ?_;clear H;intro a H;refine ql aC 1 (c:=fl.map vi) (vs:=[_]) ((fl.set k (max (tot (bI S) S.length m (i+1) k) (tot (bI S) S.length m i (k+1)))).map vi) H wn O O O O O O (Eq.mpr Nat.ble_eq (by rw [bJ,hfl];simp only [List.length_singleton];omega)) (by rw [eH,Nat.mul_one,List.map_set];rfl) ?_;clear H;intro w H;dsimp only [List.set] at H;have g1:=aK kr g1;have gn:=aK kr gn;have Jp:=aK kr Jp;have kQ:=kr;have eg:(fl.set k (max (tot (bI S) S.length m (i+1) k) (tot (bI S) S.length m i (k+1))))[k]?=some (max (tot (bI S) S.length m (i+1) k) (tot (bI S) S.length m i (k+1))):=List.getElem?_set_self V;refine aj ⟨O,?_⟩;refine bG _ _ ?_;clear bG;refine kP H (SR fun _ bX=>Rm O (Rm O ?_));clear H;intro a H;refine bD iE bP i H wn O O O hi1 O ?_;clear H;intro a H;refine kH H (Rg bP O g1 (Rm O ?_));clear H;intro a H;refine bD cB aC k H wn O O O hk O ?_;clear H;intro a H;refine kH H (Rg aC O gn (Rc O (Kz bX (Cd O ?_ ?_)))) <;> clear H bX
    ·intro nV a H
     try have p65:=dT nV
     refine dI hmx [[],[],[0,1],[0,1,2],[],[],[],[5,6],[5,6,7],[],ra 5 5,ra 5 6,[],[],[12,13],[12,13,14],[],ra 12 5,ra 12 6,[],[],[20],[19,20,21],ra 19 4,[],[24],ra 19 7,ra 19 8,ra 12 16,ra 5 24,ra 0 30,ra 0 31] [30,31] Z [.slice (some ⟨b12,0,none⟩) (S.length+1) (S.length+1),vi i,(aJ b12 (0+i*1)),.slice (some ⟨rM,0,none⟩) (m+1) (m+1),vi k,.slice (some ⟨b12,0,none⟩) (S.length+1) (S.length+1),vi i,(aJ b12 (0+i*1)),.slice (some ⟨rM,0,none⟩) (m+1) (m+1),vi k,(aJ rM (0+k*1)),vi (max (tot (bI S) S.length m (i+1) k) (tot (bI S) S.length m i (k+1))),.slice (some ⟨b,o,none⟩) S.length c,vi i,(aJ b (o+i*1)),.slice (some ⟨nb,no,none⟩) m bc,vi k,(aJ nb (no+k*1)),vi (bI S i k),.slice (some ⟨b12,0,none⟩) (S.length+1) (S.length+1),vi i,vi ((i:Int)+1),(aJ b12 (0+(i+1)*1)),.slice (some ⟨bn,0,none⟩) (m+1) (m+1),vi k,vi ((k:Int)+1),(aJ bn (0+(k+1)*1)),vi (tot (bI S) S.length m (i+1) (k+1)),vi (bI S i k+tot (bI S) S.length m (i+1) (k+1)),vi (tot (bI S) S.length m i k)] H (aH ?_ ?_ ?_ ?_ (aH ?_ ?_ ?_ ?_ (aH ?_ ?_ ?_ ?_ (aH ?_ ?_ ?_ ?_ (aH ?_ ?_ ?_ ?_ (aH ?_ ?_ ?_ ?_ (aH ?_ ?_ ?_ ?_ (aH ?_ ?_ (fT O) (fT O) fD)))))))) ?_
     ·intro ay a w G1 _ ah hc hG HT hv;have H:=HT;clear ah;have Hb:=H.full;have H:=Hb;clear hc;refine kH H (Rm O ?_);clear H;intro a H;refine aj ⟨O,?_⟩;exact aB HT Hb hG hv (fun _ _ _ _ _ h=>h) H O
     ·intro ay a w G1 _ ah hc hG HT hv;have H:=HT;clear ah;have Hb:=H.full;have H:=Hb;clear hc;refine kH H (Rm O ?_);clear H;intro a H;refine aj ⟨O,?_⟩;exact aB HT Hb hG hv (fun _ _ _ _ _ h=>h) H O
     ·intro ay a w G1 _ ah hc hG HT hv;have H:=HT;clear ah;have H:=H.au (hv 0 66 (hc 0 Y) O) O;have H:=H.au (hv 1 67 (hc 1 Y) O) O;have Hb:=H.full;have H:=Hb;clear hc;refine bD iE bP i H wn O O O V O ?_;clear H;intro a H;refine aj ⟨O,?_⟩;exact aB HT Hb hG hv (fun _ _ _ _ _ h=>h) H O
     ·intro ay a w G1 _ ah hc hG HT hv;have H:=HT;clear ah;have H:=H.au (hv 2 68 (hc 2 Y) O) O;have Hb:=H.full;have H:=Hb;clear hc;refine iU bP H wn O (H.hp.gK 0 O (by rw [eH,Nat.mul_one];exact (List.getElem?_toArray ..).trans hci)) O ?_;clear H;intro a H;refine aj ⟨O,?_⟩;exact aB HT Hb hG hv (fun _ _ _ _ _ h=>h) H O
     ·intro ay a w G1 _ ah hc hG HT hv;have H:=HT;clear ah;have Hb:=H.full;have H:=Hb;clear hc;refine kH H (Rm O ?_);clear H;intro a H;refine aj ⟨O,?_⟩;exact aB HT Hb hG hv (fun _ _ _ _ _ h=>h) H O
     ·intro ay a w G1 _ ah hc hG HT hv;have H:=HT;clear ah;have Hb:=H.full;have H:=Hb;clear hc;refine kH H (Rm O ?_);clear H;intro a H;refine aj ⟨O,?_⟩;exact aB HT Hb hG hv (fun _ _ _ _ _ h=>h) H O
     ·intro ay a w G1 _ ah hc hG HT hv;have H:=HT;clear ah;have Hb:=H.full;have H:=Hb;clear hc;refine kH H (Rm O ?_);clear H;intro a H;refine aj ⟨O,?_⟩;exact aB HT Hb hG hv (fun _ _ _ _ _ h=>h) H O
     ·intro ay a w G1 _ ah hc hG HT hv;have H:=HT;clear ah;have H:=H.au (hv 5 71 (hc 5 Y) O) O;have H:=H.au (hv 6 72 (hc 6 Y) O) O;have Hb:=H.full;have H:=Hb;clear hc;refine bD iE bP i H wn O O O V O ?_;clear H;intro a H;refine aj ⟨O,?_⟩;exact aB HT Hb hG hv (fun _ _ _ _ _ h=>h) H O
     ·intro ay a w G1 _ ah hc hG HT hv;have H:=HT;clear ah;have H:=H.au (hv 7 73 (hc 7 Y) O) O;have Hb:=H.full;have H:=Hb;clear hc;refine iU bP H wn O (H.hp.gK 0 O (by rw [eH,Nat.mul_one];exact (List.getElem?_toArray ..).trans hci)) O ?_;clear H;intro a H;refine aj ⟨O,?_⟩;exact aB HT Hb hG hv (fun _ _ _ _ _ h=>h) H O
     ·intro ay a w G1 _ ah hc hG HT hv;have H:=HT;clear ah;have Hb:=H.full;have H:=Hb;clear hc;refine kH H (Rm O ?_);clear H;intro a H;refine aj ⟨O,?_⟩;exact aB HT Hb hG hv (fun _ _ _ _ _ h=>h) H O
     ·intro ay a w G1 _ ah hc hG HT hv;have H:=HT;clear ah;have H:=H.au (hv 8 74 (hc 8 Y) O) O;have H:=H.au (hv 9 75 (hc 9 Y) O) O;have Hb:=H.full;have H:=Hb;clear hc;refine bD cB aC k H wn O O O V O ?_;clear H;intro a H;refine aj ⟨O,?_⟩;exact aB HT Hb hG hv (fun _ _ _ _ _ h=>h) H O
     ·intro ay a w G1 _ ah hc hG HT hv;have H:=HT;clear ah;have H:=H.au (hv 10 76 (hc 10 Y) O) O;have Hb:=H.full;have H:=Hb;clear hc;refine iU aC H wn O (H.hp.gK 1 O (by rw [eH,Nat.mul_one];exact uZ eg)) O ?_;clear H;intro a H;refine aj ⟨O,?_⟩;exact aB HT Hb hG hv (fun _ _ _ _ _ h=>h) H O
     ·intro ay a w G1 _ ah hc hG HT hv;have H:=HT;clear ah;have Hb:=H.full;have H:=Hb;clear hc;refine kH H (Rm O ?_);clear H;intro a H;refine aj ⟨O,?_⟩;exact aB HT Hb hG hv (fun _ _ _ _ _ h=>h) H O
     ·intro ay a w G1 _ ah hc hG HT hv;have H:=HT;clear ah;have Hb:=H.full;have H:=Hb;clear hc;refine kH H (Rm O ?_);clear H;intro a H;refine aj ⟨O,?_⟩;exact aB HT Hb hG hv (fun _ _ _ _ _ h=>h) H O
     ·intro ay a w G1 _ ah hc hG HT hv;have H:=HT;clear ah;have H:=H.au (hv 12 78 (hc 12 Y) O) O;have H:=H.au (hv 13 79 (hc 13 Y) O) O;have Hb:=H.full;have H:=Hb;clear hc;refine bD iE bP i H wn O O O hi1 O ?_;clear H;intro a H;refine aj ⟨O,?_⟩;exact aB HT Hb hG hv (fun _ _ _ _ _ h=>h) H O
     ·intro ay a w G1 _ ah hc hG HT hv;have H:=HT;clear ah;have H:=H.au (hv 14 80 (hc 14 Y) O) O;have Hb:=H.full;have H:=Hb;clear hc;refine kH H (Rg bP O (aK hG g1) ?_);clear H;intro a H;refine aj ⟨O,?_⟩;exact aB HT Hb hG hv (fun _ _ _ _ _ h=>h) H O
     ·intro ay a w G1 _ ah hc hG HT hv;have H:=HT;clear ah;have Hb:=H.full;have H:=Hb;clear hc;refine kH H (Rm O ?_);clear H;intro a H;refine aj ⟨O,?_⟩;exact aB HT Hb hG hv (fun _ _ _ _ _ h=>h) H O
     ·intro ay a w G1 _ ah hc hG HT hv;have H:=HT;clear ah;have H:=H.au (hv 15 81 (hc 15 Y) O) O;have H:=H.au (hv 16 82 (hc 16 Y) O) O;have Hb:=H.full;have H:=Hb;clear hc;refine bD cB aC k H wn O O O hk O ?_;clear H;intro a H;refine aj ⟨O,?_⟩;exact aB HT Hb hG hv (fun _ _ _ _ _ h=>h) H O
     ·intro ay a w G1 _ ah hc hG HT hv;have H:=HT;clear ah;have H:=H.au (hv 17 83 (hc 17 Y) O) O;have Hb:=H.full;have H:=Hb;clear hc;refine kH H (Rg aC O (aK hG gn) ?_);clear H;intro a H;refine aj ⟨O,?_⟩;exact aB HT Hb hG hv (fun _ _ _ _ _ h=>h) H O
     ·intro ay a w G1 _ ah hc hG HT hv;have H:=HT;clear ah;have Hb:=H.full;have H:=Hb;clear hc;refine kH H (Rm O ?_);clear H;intro a H;refine aj ⟨O,?_⟩;exact aB HT Hb hG hv (fun _ _ _ _ _ h=>h) H O
     ·intro ay a w G1 _ ah hc hG HT hv;have H:=HT;clear ah;have Hb:=H.full;have H:=Hb;clear hc;refine kH H (Rm O ?_);clear H;intro a H;refine aj ⟨O,?_⟩;exact aB HT Hb hG hv (fun _ _ _ _ _ h=>h) H O
     ·intro ay a w G1 _ ah hc hG HT hv;have H:=HT;clear ah;have H:=H.au (hv 20 86 (hc 20 Y) O) O;have Hb:=H.full;have H:=Hb;clear hc;refine kH H (Rd O ?_);clear H;intro a H;refine aj ⟨O,?_⟩;exact aB HT Hb hG hv (fun _ _ _ _ _ h=>h) H O
     ·intro ay a w G1 _ ah hc hG HT hv;have H:=HT;clear ah;have H:=H.au (hv 19 85 (hc 19 Y) O) O;have H:=H.au (hv 21 87 (hc 21 Y) O) O;have Hb:=H.full;have H:=Hb;clear hc;refine bD iE bP (i+1) H wn O O V V O ?_;clear H;intro a H;refine aj ⟨O,?_⟩;exact aB HT Hb hG hv (fun _ _ _ _ _ h=>h) H O
     ·intro ay a w G1 _ ah hc hG HT hv;have H:=HT;clear ah;have H:=H.au (hv 22 88 (hc 22 Y) O) O;have Hb:=H.full;have H:=Hb;clear hc;refine iU bP H wn O (H.hp.gK 0 O (by rw [eH,Nat.mul_one];exact (List.getElem?_toArray ..).trans hen)) O ?_;clear H;intro a H;refine aj ⟨O,?_⟩;exact aB HT Hb hG hv (fun _ _ _ _ _ h=>h) H O
     ·intro ay a w G1 _ ah hc hG HT hv;have H:=HT;clear ah;have Hb:=H.full;have H:=Hb;clear hc;refine kH H (Rm O ?_);clear H;intro a H;refine aj ⟨O,?_⟩;exact aB HT Hb hG hv (fun _ _ _ _ _ h=>h) H O
     ·intro ay a w G1 _ ah hc hG HT hv;have H:=HT;clear ah;have H:=H.au (hv 24 90 (hc 24 Y) O) O;have Hb:=H.full;have H:=Hb;clear hc;refine kH H (Rd O ?_);clear H;intro a H;refine aj ⟨O,?_⟩;exact aB HT Hb hG hv (fun _ _ _ _ _ h=>h) H O
     ·intro ay a w G1 _ ah hc hG HT hv;have H:=HT;clear ah;have H:=H.au (hv 23 89 (hc 23 Y) O) O;have H:=H.au (hv 25 91 (hc 25 Y) O) O;have Hb:=H.full;have H:=Hb;clear hc;refine bD cB aC (k+1) H wn O O V V O ?_;clear H;intro a H;refine aj ⟨O,?_⟩;exact aB HT Hb hG hv (fun _ _ _ _ _ h=>h) H O
     ·intro ay a w G1 _ ah hc hG HT hv;have H:=HT;clear ah;have H:=H.au (hv 26 92 (hc 26 Y) O) O;have Hb:=H.full;have H:=Hb;clear hc;refine kH H (Rg aC O (aK hG Jp) ?_);clear H;intro a H;refine aj ⟨O,?_⟩;exact aB HT Hb hG hv (fun _ _ _ _ _ h=>h) H O
     ·intro ay a w G1 _ ah hc hG HT hv;have H:=HT;clear ah;have H:=H.au (hv 18 84 (hc 18 Y) O) O;have H:=H.au (hv 27 93 (hc 27 Y) O) O;have Hb:=H.full;have H:=Hb;clear hc;refine kH H (Rd O ?_);clear H;intro a H;refine aj ⟨O,?_⟩;exact aB HT Hb hG hv (fun _ _ _ _ _ h=>h) H O
     ·intro ay a w G1 _ ah hc hG HT hv;have H:=HT;clear ah;have H:=H.au (hv 11 77 (hc 11 Y) O) O;have H:=H.au (hv 28 94 (hc 28 Y) O) O;have Hb:=H.full;have H:=Hb;clear hc;refine KF H wn O O O ?_;clear H;intro a H;refine aj ⟨O,?_⟩;exact oD Z (fun _ _ _ _ _ h=>h) O O HT Hb hG hv (fun _ _ h=>h) (by rw [hin,aZ];rfl) H
     clear H;intro a w G xG H hv;have H:=H.au (hv 3 69 O O) O;have H:=H.au (hv 4 70 O O) O;have H:=H.au (hv 29 95 O O) O;clear hv;refine bD cB aC k H wn O O O V O ?_;clear H;intro a H;refine ql aC 1 (c:=(fl.set k (max (tot (bI S) S.length m (i+1) k) (tot (bI S) S.length m i (k+1)))).map vi) (vs:=[_]) ((fl.set k (tot (bI S) S.length m i k)).map vi) H wn O O O O O O (Eq.mpr Nat.ble_eq (by rw [bJ,List.length_set,hfl];simp only [List.length_singleton];omega)) (by rw [eH,Nat.mul_one,PW,List.map_set,List.map_set,List.set_set]) ?_;clear H;intro w H;dsimp only [List.set] at H;have kQ:∀ b o,g2 b=some o->G b=some o:=fun b o h=>xG b o (kr b o h);refine aj ⟨O,?_⟩;refine bH _ _ ?_;clear bH;refine kP H (SC (Rm O (Rs O (Ra O ?_))));clear H;intro a H;refine aj ?_;refine bE ((k,fl.set k (tot (bI S) S.length m i k),G)) (by exact H.sub ⟨O,O,O,O,O,O,aI⟩) ?_
     try dsimp only
     exact ⟨V,by simp [hfl],fun q h1 h2=>by
       by_cases e:q=k
       ·subst e;rw [List.getElem?_set_self V]
       rw [List.getElem?_set_ne V];exact vw q V h2,fun q hq=>by rw [List.getElem?_set_ne V];exact hf0 q V,fun b o h=>kQ b o (gH b o h),fun b o h=>kQ b o (hgg b o h)⟩
    intro nV a H
    try have p65:=dF nV
    rw [show max (tot (bI S) S.length m (i+1) k) (tot (bI S) S.length m i (k+1))=tot (bI S) S.length m i k by rw [hin,dS,Int.max_eq_left (by omega:(-1:Int)<=_)]] at H;refine kP H (Kc bH (SC (Rm O (Rs O (Ra O ?_)))));clear H bH;intro a H;refine aj ?_;refine bE ((k,fl.set k (tot (bI S) S.length m i k),G)) (by exact H.sub ⟨O,O,O,O,O,O,aI⟩) ?_
    try dsimp only
    exact ⟨V,by simp [hfl],fun q h1 h2=>by
      by_cases e:q=k
      ·subst e;rw [List.getElem?_set_self V]
      rw [List.getElem?_set_ne V];exact vw q V h2,fun q hq=>by rw [List.getElem?_set_ne V];exact hf0 q V,fun b o h=>kQ b o (gH b o h),fun b o h=>kQ b o (hgg b o h)⟩
   intro h32 a H
   try have p32:=dF h32
   refine dJ ?_;refine K7 _ _ ?_;clear K7
   have hall:∀ q,q<=m->fl[q]?=some (tot (bI S) S.length m i q):=fun q hq=>by
    by_cases e:p<=q
    ·exact vw q e hq
    rw [hf0 q V,ER V]
   have hrow:=XD hfl hall;have H:=H.dz (Pl:=[_,_]) (bZ:=[_,_]) [1,0] Y O;obtain ⟨G3,wz,hg3,H⟩:=H.kE
   have vC:AQ G3 S m cs2 i:=⟨zP,fun r h1 h2=>by
    by_cases e:r=i
    ·subst e;refine ⟨rM,hci,?_⟩;rw [<- hrow];exact aF.rV (xs:=fl.map vi) hg3 (by rw [bJ,hfl]) (bS _) V (gG (by simp [hfl])) (yQ _ _)
    obtain ⟨br,e1,e2⟩:=hra.2 r V h2
    exact ⟨br,by rw [hcn r V];exact e1,(e2.mono hgg).mono wz⟩⟩
   refine kP H (SC (Rm O (Rs O (Ra O ?_))));clear H;intro a H;refine aj ?_;refine bE ((i,cs2,G3)) (by exact H.sub ⟨O,O,O,O,O,aI⟩) ?_
   (try dsimp only);exact ⟨V,vC,fun b o h=>wz b o (gH b o h)⟩
  intro fI a H
  try have p28:=dF fI
  refine kH H (aV fI O (Pf fI O (Kz aT (Cf O O ?_))));clear H aT;intro a H;refine dJ ?_;refine K7 _ _ ?_;clear K7
  have hall:∀ q,q<=m->fl[q]?=some (tot (bI S) S.length m i q):=fun q hq=>by
   by_cases e:p<=q
   ·exact vw q e hq
   rw [hf0 q V,ER V]
  have hrow:=XD hfl hall;have H:=H.dz (Pl:=[_,_]) (bZ:=[_,_]) [1,0] Y O;obtain ⟨G3,wz,hg3,H⟩:=H.kE
  have vC:AQ G3 S m cs2 i:=⟨zP,fun r h1 h2=>by
   by_cases e:r=i
   ·subst e;refine ⟨rM,hci,?_⟩;rw [<- hrow];exact aF.rV (xs:=fl.map vi) hg3 (by rw [bJ,hfl]) (bS _) V (gG (by simp [hfl])) (yQ _ _)
   obtain ⟨br,e1,e2⟩:=hra.2 r V h2
   exact ⟨br,by rw [hcn r V];exact e1,(e2.mono hgg).mono wz⟩⟩
  refine kP H (SC (Rm O (Rs O (Ra O ?_))));clear H;intro a H;refine aj ?_;refine bE ((i,cs2,G3)) (by exact H.sub ⟨O,O,O,O,O,aI⟩) ?_
  (try dsimp only);exact ⟨V,vC,fun b o h=>wz b o (gH b o h)⟩
 intro lC a H
 try have oK:=dF lC
 refine dJ ?_;refine K3 _ _ ?_;clear K3;refine kP H (SR fun _ dG=>Rm O (av dG O ?_));clear H dG;intro a H;refine aU ?_
 have hj0:j=0:=by omega
 subst hj0;obtain ⟨Gr,hmr,hgr,H⟩:=H.kE;refine lv H results35 O ?_;exact H.rt (aF.rV (xs:=cs) hgr (by simp [qw]) (bS _) V (gG (by have:=hra.1;rw [List.toList_toArray];omega)) (hra.mono hmr).cat)
def xu {α:Type} (κ:α->Int) (φ:α->ByteArray) (x y:α):Int:=if κ y=κ x then qm (φ x) (φ y) else 0
def nG {α:Type} (κ:α->Int) (φ:α->ByteArray) (lb:List α) (x:α):List Int:=lb.map (xu κ φ x)
def kV {α:Type} (κ:α->Int) (φ:α->ByteArray) (la lb:List α):List (List Int):=la.map (nG κ φ lb)
theorem acr {α:Type} (κ:α->Int) (φ:α->ByteArray) (x y:α):0<=xu κ φ x y∧xu κ φ x y<=1000:=by
 unfold xu
 split
 ·exact ahn _ _
 decide
theorem Xb {α:Type} (κ:α->Int) (φ:α->ByteArray) {la lb:List α} (ha:la.length<=1024) (hb:lb.length<=1024):pV (kV κ φ la lb)=0:=by
 rw [pV,aL (by simp [kV];omega)];refine Nl fun j hj=>?_
 have hj2:j < la.length:=by simpa [kV] using hj
 have e:(kV κ φ la lb)[j]=nG κ φ lb la[j]:=by simp [kV]
 have hh:((kV κ φ la lb).headD []).length=lb.length:=by
  cases la with
  | nil=>simp at hj2
  | cons x la=>simp [kV,nG]
 rw [e,hh,nP,aL (by simp [nG];omega),aL (by simp [nG]),aN];rw [gW];intro z hz;obtain ⟨y,-,rfl⟩:=List.mem_map.1 hz;have:=acr κ φ la[j] y
 simp [vF,this]
def BN (g:GH) (M:List (List Int)) (n m:Nat) (cs:List ak) (j:Nat):Prop:=cs.length=n∧∀ r,r < j->∃ R b,M[r]?=some R∧R.length=m∧cs[r]?=some (.slice (some ⟨b,0,none⟩) m m)∧aF g (.sl 1 (R.map gJ)) (.slice (some ⟨b,0,none⟩) m m)
theorem BN.mono {g g':GH} {M:List (List Int)} {n m:Nat} {cs:List ak} {j:Nat} (h:BN g M n m cs j) (hm:∀ b o,g b=some o->g' b=some o):BN g' M n m cs j :=
 ⟨h.1,fun r h1=>by obtain ⟨R,b,e0,e1,e,hr⟩:=h.2 r h1;exact ⟨R,b,e0,e1,e,hr.mono hm⟩⟩
theorem BN.cat {g:GH} {M:List (List Int)} {m:Nat} {cs:List ak} (h:BN g M M.length m cs M.length):cO g 1 (M.map nD) cs:=by
 have hc:=Pk (G:=g) M [] [] cs cO.nil h.1 (fun i r u h1 h2=>by
  have hi:i < M.length:=(gN.1 h1).1;obtain ⟨R,b,e0,-,e,hr⟩:=h.2 i hi;rw [e0] at h1;rw [e] at h2
  injection h1 with h1;injection h2 with h2
  subst h1;subst h2;exact hr)
 simpa using hc
theorem TN {fl:List Int} {M:List Int} {m k:Nat} (hl:fl.length=m) (hM:M.length=m) (hk:k < m) (h:∀ q,q < k->fl[q]?=M[q]?) (h0:∀ q,k<=q->q < m->fl[q]?=some 0) {z:Int} (hz:M[k]?=some z) :
  (fl.set k z).length=m∧(∀ q,q < k+1->(fl.set k z)[q]?=M[q]?)∧(∀ q,k+1<=q->q < m->(fl.set k z)[q]?=some 0):=by
 refine ⟨by simp [hl],fun q hq=>?_,fun q h1 h2=>?_⟩
 ·by_cases e:q=k
  ·subst e;rw [List.getElem?_set_self V,hz]
  rw [List.getElem?_set_ne V];exact h q V
 rw [List.getElem?_set_ne V];exact h0 q V h2
theorem TP {fl:List Int} {M:List Int} {m k:Nat} (hk:k < m) (h:∀ q,q < k->fl[q]?=M[q]?) (h0:∀ q,k<=q->q < m->fl[q]?=some 0) (hz:M[k]?=some 0):(∀ q,q < k+1->fl[q]?=M[q]?)∧(∀ q,k+1<=q->q < m->fl[q]?=some 0):=by
 refine ⟨fun q hq=>?_,fun q h1 h2=>h0 q V h2⟩
 by_cases e:q=k
 ·subst e;rw [hz];exact h0 q (bS _) hk
 exact h q V
theorem TM {fl M:List Int} {m:Nat} (hl:fl.length=m) (hM:M.length=m) (h:∀ q,q < m->fl[q]?=M[q]?):fl=M:=by
 apply List.ext_getElem?
 intro q
 by_cases hq:q < m
 ·exact h q hq
 rw [List.getElem?_eq_none V,List.getElem?_eq_none V]
section
section
variable {N:Nat} {D:List Deferred} {w0:World} {F:Nat->Prop} {G0 G:GH} {L:OL} {T Xs:List (Nat × ak)}
variable {r:Option Nat} {P:Program} {Q:Exit->Act->World->Prop} {l:List Oper} {a a':Act} {w w':World}
abbrev wQ:Type:=Nat × ak × Nat × Bool
def pJ (ent:List wQ) (S:Nat->Bool) (a:Act):Prop:=∀ e∈ent,S e.2.2.1=e.2.2.2->a.tmps[e.1]?=some e.2.1
theorem pJ.at {ent:List wQ} {S:Nat->Bool} {a:Act} (h:pJ ent S a) (k:Nat) {t:Nat} {v:ak} {j:Nat} {b:Bool} (hk:ent[k]?=some (t,v,j,b)) (hS:S j=b):a.tmps[t]?=some v:=h _ (kg hk) hS
theorem aaD {ent:List wQ} {S:Nat->Bool} {i d:Nat} {v:ak} (hok:ent.all (fun e=>Nat.beq e.1 d == Nat.beq e.2.2.1 i)=true) (hv:∀ e∈ent,e.1=d->e.2.2.2=true->e.2.1=v)
  (HT:St N D w0 F G0 G L [] a w) (Hb:St N D w0 F G0 G L (Xs++full N a) a w) (hE:pJ ent S a) (H:St N D w0 F G0 G L ((d,v) :: (Xs++full N a)) a' w'):St N D w0 F G0 G L [] a' w'∧pJ ent (fq S i) a':=by
 have hsame:∀ t,t≠d->a'.tmps[t]?=a.tmps[t]?:=by
  intro t ht
  by_cases hlt:t < N
  ·have h1:∃ u,lk (Xs++full N a) t=some u:=by
    rw [Bl]
    cases lk Xs t with
    | some u=>exact ⟨u,O⟩
    | none=>exact ⟨_,Ho a hlt⟩
   obtain ⟨u,hu⟩:=h1
   rw [Hb.get t u hu,H.get t u (by rw [fJ (Ne.symm ht)];exact hu)]
  ·rw [Array.getElem?_eq_none (by rw [H.jU];omega),Array.getElem?_eq_none (by rw [Hb.jU];omega)]
 refine ⟨⟨H.jU,(fun t u ht=>by cases ht),H.oz,H.hp⟩,fun e he hS=>?_⟩
 have hb:=gW.1 hok e he
 by_cases hd:e.1=d
 ·have h1:Nat.beq e.1 d=true:=by rw [hd];exact Nat.beq_refl d
  rw [h1] at hb
  have h2:e.2.2.1=i:=vQ (by simpa using hb)
  rw [h2] at hS
  have h3:e.2.2.2=true:=by rw [<- hS];exact aN O
  rw [hd,hv e he hd h3]
  exact H.get d v (jX _ _ _)
 ·have h1:Nat.beq e.1 d=false:=BS hd
  rw [h1] at hb
  have h2:¬ e.2.2.1=i:=by
   intro e2
   rw [e2,Nat.beq_refl] at hb;cases hb
  rw [hsame _ hd]
  exact hE e he (by rw [<- hS];exact (aL h2).symm)
theorem R9 {id:Nat} (hm:P.follows .mixedOrders=true) (bU:List (List Nat)) (hk:vW l bU=true) (ent:List wQ) (H:St N D w0 F G0 G L T a w) (h0:pJ ent (fun _=>false) a)
  (hstep:allI (fun i o=>∀ S a w,S i=false->(∀ j∈bU.getD i [],S j=true)->(∀ j,j < l.length->i∈bU.getD j []->S j=false)->St N D w0 F G0 G L T a w->pJ ent S a ->
   WL r P l.toArray (fun x a' w'=>x=.normal∧St N D w0 F G0 G L T a' w'∧pJ ent (fq S i) a') [o] a w) 0 l)
  (hend:∀ S a w,(∀ i,i < l.length->S i=true)->St N D w0 F G0 G L T a w->pJ ent S a->Q .normal a w):WP r P (.region id l.toArray true) Q a w:=by
 refine FK hm bU hk (fun S a w=>St N D w0 F G0 G L T a w∧pJ ent S a) ⟨H.move H.hp.drew,h0⟩ ?_ ?_
 ·rintro i o S a w ho ⟨HS,hE⟩ ah mU hdesc
  have h:=zC hstep i o ho
  rw [eH] at h
  exact h S a w ah mU hdesc HS hE
 ·rintro S a w hall ⟨HS,hE⟩
  exact hend S a w hall HS hE
theorem aaC {ent:List wQ} {S:Nat->Bool} {i d:Nat} {v:ak} (hok:(ent.all (fun e=>Nat.beq e.1 d == Nat.beq e.2.2.1 i) && (lk T d).isNone)=true) (hv:∀ e∈ent,e.1=d->e.2.2.2=true->e.2.1=v)
  (HT:St N D w0 F G0 G L T a w) (Hb:St N D w0 F G0 G L (Xs++full N a) a w) (hE:pJ ent S a) (H:St N D w0 F G0 G L ((d,v) :: (Xs++full N a)) a' w'):St N D w0 F G0 G L T a' w'∧pJ ent (fq S i) a':=by
 rw [iG,Option.isNone_iff_eq_none] at hok
 have hsame:∀ t,t≠d->a'.tmps[t]?=a.tmps[t]?:=by
  intro t ht
  by_cases hlt:t < N
  ·have h1:∃ u,lk (Xs++full N a) t=some u:=by
    rw [Bl]
    cases lk Xs t with
    | some u=>exact ⟨u,O⟩
    | none=>exact ⟨_,Ho a hlt⟩
   obtain ⟨u,hu⟩:=h1
   rw [Hb.get t u hu,H.get t u (by rw [fJ (Ne.symm ht)];exact hu)]
  ·rw [Array.getElem?_eq_none (by rw [H.jU];omega),Array.getElem?_eq_none (by rw [Hb.jU];omega)]
 have h0:=aaD hok.1 hv ⟨HT.jU,(fun t u ht=>by cases ht),HT.oz,HT.hp⟩ Hb hE H
 refine ⟨⟨H.jU,fun t u ht=>?_,H.oz,H.hp⟩,h0.2⟩
 have hne:t≠d:=fun e=>by rw [e,hok.2] at ht;cases ht
 rw [hsame t hne]
 exact HT.get t u ht
def Hg:List wQ->Bool
 | []=>true
 | e :: l=>(l.all fun f=>!(Nat.beq f.1 e.1 && f.2.2.2 == e.2.2.2)) && Hg l
theorem Vq:∀ {ent:List wQ} {k:Nat} {e f:wQ},Hg ent=true->ent[k]?=some e->f∈ent->f.1=e.1->f.2.2.2=e.2.2.2->f=e
 | [],k,e,f,_,hk,_,_,_=>by simp at hk
 | x :: l,0,e,f,h,hk,hf,h1,h2=>by
  rw [zx] at hk
  injection hk with hk
  subst hk
  rw [Hg,iG] at h
  rcases nT.1 hf with rfl|hf
  ·rfl
  ·have:=gW.1 h.1 f hf
   rw [h1,h2,Nat.beq_refl] at this
   simp at this
 | x :: l,k+1,e,f,h,hk,hf,h1,h2=>by
  rw [List.getElem?_cons_succ] at hk
  rw [Hg,iG] at h
  rcases nT.1 hf with rfl|hf
  ·have:=gW.1 h.1 e (kg hk)
   rw [<- h1,<- h2,Nat.beq_refl] at this
   simp at this
  ·exact Vq h.2 hk hf h1 h2
theorem iP {ent:List wQ} {S:Nat->Bool} {i d:Nat} {v u:ak} (k:Nat) (hk:ent[k]?=some (d,v,i,true)) (hok:(Hg ent && (ent.all (fun e=>Nat.beq e.1 d == Nat.beq e.2.2.1 i) && (lk T d).isNone))=true) (hv:v=u)
  (HT:St N D w0 F G0 G L T a w) (Hb:St N D w0 F G0 G L (Xs++full N a) a w) (hE:pJ ent S a) (H:St N D w0 F G0 G L ((d,u) :: (Xs++full N a)) a' w'):St N D w0 F G0 G L T a' w'∧pJ ent (fq S i) a':=by
 rw [iG] at hok
 subst hv
 exact aaC hok.2 (fun e he h1 h2=>by rw [Vq hok.1 hk he h1 h2]) HT Hb hE H
theorem pJ.cf {B:List wQ} {t j:Nat} {v:ak} (h:a.tmps[t]?=some v) (hr:pJ B (fun _=>false) a):pJ ((t,v,j,false) :: B) (fun _=>false) a:=by
 intro e he hS
 rcases nT.1 he with rfl|he
 ·exact h
 ·exact hr e he hS
theorem pJ.ct {B:List wQ} (h:B.all (fun e=>e.2.2.2)=true):pJ B (fun _=>false) a:=by
 intro e he hS
 have:=gW.1 h e he
 rw [<- hS] at this
 cases this
end
end
theorem aby:bL 52:=bN func52 O
theorem abo:bL 36:=bN func36 O
theorem TU:∀ (m:List (gM × ByteArray)) (q:List dM × List ByteArray),∃ r,(m.foldl qY q).1=q.1++r
 | [],q=>⟨[],by simp⟩
 | x :: m,q=>by
  obtain ⟨r,hr⟩:=TU m (qY q x);exact ⟨_,by rw [List.foldl_cons,hr,qY,oU]⟩
theorem aif (l:List (gM × ByteArray)) (ks:List ByteArray) (n:Nat):(eG (l.take n) ks).1=(eG l ks).1.take n:=by
 by_cases h:n<=l.length
 ·have hl:=(ze l ks n h).1;obtain ⟨r,hr⟩:=TU (l.drop n) (eG (l.take n) ks)
  have e:(eG l ks).1=(eG (l.take n) ks).1++r:=by
   rw [<- hr,eG,eG,<- List.foldl_append,List.take_append_drop]
  have e2:((eG (l.take n) ks).1).take n=(eG (l.take n) ks).1:=gG V;rw [e,List.take_append_of_le_length V,e2]
 have hl:=(H7 l ks).1;rw [gG V,gG V]
theorem VI (a:ByteArray):Bn a=nH a:=aif _ _ _
theorem afB (a b:ByteArray):∃ K:List ByteArray,K.Nodup∧tQ ((dD a).take 2048) (nH a) K∧tQ ((dD b).take 2048) (uF a b) K:=by
 obtain ⟨h1,h2,h3⟩:=H8 ((dD a).take 2048) [] List.nodup_nil _ (bS _);rw [qE] at h1 h3;obtain ⟨g1,g2,g3⟩:=H8 ((dD b).take 2048) (eG ((dD a).take 2048) []).2 h1 _ (bS _);rw [qE] at g1 g2 g3;rw [show (eG ((dD a).take 2048) []).1=nH a from VI a] at h3;exact ⟨_,g1,h3.up g2,g3⟩
theorem afz (a b:ByteArray):(uF a b).length<=2048:=by
 rw [uF,(H7 _ _).1,List.length_take];omega
theorem afA (a b:ByteArray):∀ x∈uF a b,1<=x.weight∧x.weight<=1000:=by
 have h:=KS (eG ((dD a).take 2048) []).2 (l:=(dD b).take 2048) (fun x hx=>Qe b x (List.mem_of_mem_take hx)) _ (bS _)
 rwa [qE] at h
theorem afw (a b:ByteArray):yE (nH a) (uF a b)=qm a b:=by
 obtain ⟨K,hK,hx,hy⟩:=air a b;obtain ⟨K2,K2,hx2,hy2⟩:=afB a b;have lx:=hx.len;have ly:=hy.len;have lx2:=hx2.len;have ly2:=hy2.len
 have hs1:fF (nH a) (uF a b) 0 0=fF (qZ a b) (nH a) 0 0:=by
  refine HV V O (fun i k hi hk=>?_) (fun k hk=>?_) (fun i hi=>rfl) _ 0 0 (bS _)
  ·rw [Vr K2 hx2 hy2 (show i < ((dD a).take 2048).length by omega) (show k < ((dD b).take 2048).length by omega)];have h:=Vr hK hx hy (show i < ((dD a).take 2048).length by omega) (show k < ((dD b).take 2048).length by omega);exact h.symm.trans eq_comm
  obtain ⟨-,-,-,q1⟩:=hy2.at_ k V V;obtain ⟨-,-,-,q2⟩:=hy.at_ k V V;rw [q1,q2]
 have hs2:fF (nH a) (qZ a b) 0 0=fF (qZ a b) (nH a) 0 0 :=
  HV rfl rfl (fun i k hi hk=>eq_comm) (fun k hk=>rfl) (fun i hi=>rfl) _ 0 0 (bS _)
 have hw:jL (nH a++uF a b)=jL (nH a++qZ a b):=by
  rw [P7,P7,Xo _ _ ((Xp hy2).trans (Xp hy).symm)]
 rw [qm,yE,yE,hs1,hs2,hw]
theorem afv {G0:GH} (G:GH) (w0:World) (hG:Hold G w0) (h0:∀ b o,G0 b=some o->G b=some o) (s t:ByteArray) (hs:mO G0 s) (ht:mO G0 t) :
  Calls prog 36 #[.string s,.string t] w0 (bQ w0 G fun u G'=>u=vi (qm s t)):=by
 refine eN [(0,_),(1,_)] func36 O ntmps36 O O hG ?_;intro a H;refine kP H (SR fun _ K1=>av K1 O (SR fun _ K2=>Rm O (Rm O ?_)));clear H K1;intro a H;refine s_call aby H wn O (afy _ _ H.ro h0 s t hs ht) O ?_;clear H;rintro v12 LB a w ⟨Yh,y12,rfl,JX,OE⟩ JJ H;rw [VI] at JX;refine kH H (Rm O ?_);clear H;intro a H;(iterate 2 refine eZ H wn O O O ?_;clear H;intro a H);refine kH H (Ra O (av K2 O (SR fun _ K3=>Rm O (Rm O ?_))));clear H K2;intro a H;refine s_call Tk H wn O (Rx _ _ H.ro _ _ _ _ JX OE (XF s) (afz s t) (KT s) (afA s t)) O ?_;clear H;rintro v18 QI a w rfl hm18 H;rw [afw] at H;refine kH H (Rm O ?_);clear H;intro a H;(iterate 2 refine eZ H wn O O O ?_;clear H;intro a H);exact kH H (Ra O (av K3 O (SR fun _ K4=>Rm O (av K4 O (LR results36 O fun H=>H.rt O)))))
set_option maxHeartbeats 4000000 in
theorem afp {Gt:GH} (G:GH) (w0:World) (hG:Hold G w0) (h0:∀ b o,Gt b=some o->G b=some o) (pa pb:List (Int × ByteArray)) (va vb ka kb:ak) (hva:aF G (.sl 1 ((pa.map Prod.snd).map qo)) va) (hvb:aF G (.sl 1 ((pb.map Prod.snd).map qo)) vb)
  (hka:aF G (.sl 1 ((pa.map Prod.fst).map gJ)) ka) (hkb:aF G (.sl 1 ((pb.map Prod.fst).map gJ)) kb) (hoa:∀ x∈pa,mO Gt x.2) (Od:∀ x∈pb,mO Gt x.2) (hla:pa.length<=1024) (hlb:pb.length<=1024) :
  Calls prog 23 #[va,vb,ka,kb] w0 (bQ w0 G fun u G'=>aF G' (.sl 1 ((kV Prod.fst Prod.snd pa pb).map nD)) u):=by
 obtain ⟨A,c,rfl,hc1,hc2,-⟩:=hva.slice;obtain ⟨B,d,rfl,hd1,hd2,-⟩:=hvb.slice;obtain ⟨C,e,rfl,he1,he2,-⟩:=hka.slice;obtain ⟨D,f,rfl,hf1,hf2,-⟩:=hkb.slice;have hml:maxLen=9223372036854775807:=rfl
 simp only [bJ] at *
 refine eN [(0,_),(1,_),(2,_),(3,_)] func23 O ntmps23 O O hG ?_;intro a H;refine kP H (SR fun _ K1=>av K1 O (SR fun _ K2=>av K2 O (SQ fun _ K3=>SR fun _ K4=>av K4 O (SB ?_))));clear H K1 K2 K4;intro a H;skip;refine dY (ι:=Nat × ak × List ak × OL × GH) (Tc:=[(0,_),(1,_),(2,_),(3,_)]) (Lc:=[]) (fun gh=>[(9,gh.2.1),(10,vi gh.1)]) (fun gh=>[]++gh.2.2.2.1) (fun gh=>gh.2.2.2.2) (fun gh=>gh.1<=pa.length∧aW 40 1 gh.2.1 gh.1 gh.2.2.1 gh.2.2.2.1∧cO gh.2.2.2.2 1 (((kV Prod.fst Prod.snd pa pb).take gh.1).map nD) gh.2.2.1∧(∀ b o,G b=some o->gh.2.2.2.2 b=some o)) (fun gh=>pa.length - gh.1) ((0,.slice none 0 0,[],[],G)) (by exact H.sub ⟨O,O,O,O,O,O,aI⟩) ?_ ?_
 ·exact ⟨V,aW.nil,cO.nil,fun _ _ h=>h⟩
 clear H;rintro ⟨i,v,cs,Lo,g⟩ a w hI H;dsimp only at hI H;obtain ⟨hi,hrw,iq,hgm⟩:=hI;dsimp only [lca,bW] at H;refine kP H (SQ fun _ K5=>SR fun _ K6=>Rm O (Rm O (Rl kX O (Rc O (Kz K6 (Cd O ?_ ?_)))))) <;> clear H K6
 ·intro h16 a H
  try have p16:=dT h16
  have hi1:i < pa.length:=by omega
  obtain ⟨vA,vc,rfl,GY,GZ⟩:=hrw.shape;obtain ⟨Vk,Vs,rfl,Jo⟩:=rU (hka.mono hgm) (show i < (pa.map Prod.fst).length by simpa using hi1);obtain ⟨sb1,Xd,rfl,gs1⟩:=HY (hva.mono hgm) (show i < (pa.map Prod.snd).length by simpa using hi1);rw [List.getElem_map] at Jo gs1;refine kP H (Kc K5 (SQ fun _ K7=>SB (SR fun _ K8=>Rm O (Rl kX O ?_))));clear H K5;intro a H;refine xV pb.length cB aC H wn O O O V V O ?_;clear H;intro DF a w ajC H;refine kH H (av K8 O (SQ fun _ K9=>SQ fun _ aP=>?_));clear H K8;intro a H;rw [show List.replicate pb.length (Value.int .i64 0)=(List.replicate pb.length (0:Int)).map vi from List.map_replicate.symm] at H;refine kP H (SC (bO aP O (SB ?_)));clear H aP;intro a H;skip;refine dY (ι:=Nat × List Int × GH) (Tc:=[(0,_),(1,_),(2,_),(3,_),(9,_),(10,_),(11,_)]) (Lc:=[]) (fun gh=>[(12,vi gh.1)]) (fun gh=>[bF DF gh.2.1]++Lo) (fun gh=>gh.2.2) (fun gh=>gh.1<=pb.length∧gh.2.1.length=pb.length∧(∀ q,q < gh.1->gh.2.1[q]?=(nG Prod.fst Prod.snd pb pa[i])[q]?)∧(∀ q,gh.1<=q->q < pb.length->gh.2.1[q]?=some 0)∧(∀ b o,G b=some o->gh.2.2 b=some o)∧(∀ b o,g b=some o->gh.2.2 b=some o)) (fun gh=>pb.length - gh.1) ((0,List.replicate pb.length 0,g)) (by exact H.sub ⟨O,O,O,O,O,O,O,O,aI⟩) ?_ ?_
  ·exact ⟨fC _,by simp,fun q h=>absurd h (Nat.not_lt_zero _),fun q _ hq=>by simp [List.getElem?_replicate];omega,hgm,fun _ _ h=>h⟩
  clear H;rintro ⟨k,fl,g2⟩ a w hI H;dsimp only at hI H;obtain ⟨hk,hfl,vw,hf0,gH,hgg⟩:=hI;dsimp only [lca,bW] at H;refine kP H (SQ fun _ aT=>SR fun _ bH=>Rm O (Rm O (Rl kX O (Rc O (Kz bH (Cd O ?_ ?_)))))) <;> clear H bH
  ·intro kN a H
   try have p25:=dT kN
   have hk1:k < pb.length:=by omega
   obtain ⟨Vl,Vt,rfl,Uc⟩:=rU (hkb.mono gH) (show k < (pb.map Prod.fst).length by simpa using hk1);obtain ⟨PI,PO,rfl,gs2⟩:=HY (hvb.mono gH) (show k < (pb.map Prod.snd).length by simpa using hk1);rw [List.getElem_map] at Uc gs2;replace Jo:=aK hgg Jo;replace gs1:=aK hgg gs1
   have NH:(nG Prod.fst Prod.snd pb pa[i]).length=pb.length:=by simp [nG]
   have Gg:(nG Prod.fst Prod.snd pb pa[i])[k]?=some (xu Prod.fst Prod.snd pa[i] pb[k]):=by simp [nG,hk1]
   refine kP H (Kc aT (SQ fun _ bG=>SB (SQ fun _ bX=>?_)));clear H aT;intro a H;refine dI hmx [[],[],[0,1],[0,1,2],[],[],[4,5],[4,5,6],ra 0 8] [] Z [.slice (some ⟨Vk,Vs,none⟩) pa.length e,vi i,(aJ Vk (Vs+i*1)),vi pa[i].1,.slice (some ⟨Vl,Vt,none⟩) pb.length f,vi k,(aJ Vl (Vt+k*1)),vi pb[k].1,.bool (decide (pa[i].1=pb[k].1))] H (aH ?_ ?_ ?_ ?_ (aH ?_ ?_ ?_ ?_ (eB ?_ fD))) ?_
   ·intro ay a w G1 _ ah hc hG HT hv;have H:=HT;clear ah;have Hb:=H.full;have H:=Hb;clear hc;refine kH H (Rm O ?_);clear H;intro a H;refine aj ⟨O,?_⟩;exact aB HT Hb hG hv (fun _ _ _ _ _ h=>h) H O
   ·intro ay a w G1 _ ah hc hG HT hv;have H:=HT;clear ah;have Hb:=H.full;have H:=Hb;clear hc;refine kH H (Rm O ?_);clear H;intro a H;refine aj ⟨O,?_⟩;exact aB HT Hb hG hv (fun _ _ _ _ _ h=>h) H O
   ·intro ay a w G1 _ ah hc hG HT hv;have H:=HT;clear ah;have H:=H.au (hv 0 28 (hc 0 Y) O) O;have H:=H.au (hv 1 29 (hc 1 Y) O) O;have Hb:=H.full;have H:=Hb;clear hc;refine bD cB aC i H wn O O O hi1 O ?_;clear H;intro a H;refine aj ⟨O,?_⟩;exact aB HT Hb hG hv (fun _ _ _ _ _ h=>h) H O
   ·intro ay a w G1 _ ah hc hG HT hv;have H:=HT;clear ah;have H:=H.au (hv 2 30 (hc 2 Y) O) O;have Hb:=H.full;have H:=Hb;clear hc;refine kH H (Rg aC O (aK hG Jo) ?_);clear H;intro a H;refine aj ⟨O,?_⟩;exact aB HT Hb hG hv (fun _ _ _ _ _ h=>h) H O
   ·intro ay a w G1 _ ah hc hG HT hv;have H:=HT;clear ah;have Hb:=H.full;have H:=Hb;clear hc;refine kH H (Rm O ?_);clear H;intro a H;refine aj ⟨O,?_⟩;exact aB HT Hb hG hv (fun _ _ _ _ _ h=>h) H O
   ·intro ay a w G1 _ ah hc hG HT hv;have H:=HT;clear ah;have Hb:=H.full;have H:=Hb;clear hc;refine kH H (Rm O ?_);clear H;intro a H;refine aj ⟨O,?_⟩;exact aB HT Hb hG hv (fun _ _ _ _ _ h=>h) H O
   ·intro ay a w G1 _ ah hc hG HT hv;have H:=HT;clear ah;have H:=H.au (hv 4 32 (hc 4 Y) O) O;have H:=H.au (hv 5 33 (hc 5 Y) O) O;have Hb:=H.full;have H:=Hb;clear hc;refine bD cB aC k H wn O O O hk1 O ?_;clear H;intro a H;refine aj ⟨O,?_⟩;exact aB HT Hb hG hv (fun _ _ _ _ _ h=>h) H O
   ·intro ay a w G1 _ ah hc hG HT hv;have H:=HT;clear ah;have H:=H.au (hv 6 34 (hc 6 Y) O) O;have Hb:=H.full;have H:=Hb;clear hc;refine kH H (Rg aC O (aK hG Uc) ?_);clear H;intro a H;refine aj ⟨O,?_⟩;exact aB HT Hb hG hv (fun _ _ _ _ _ h=>h) H O
   ·intro ay a w G1 _ ah hc hG HT hv;have H:=HT;clear ah;have H:=H.au (hv 3 31 (hc 3 Y) O) O;have H:=H.au (hv 7 35 (hc 7 Y) O) O;have Hb:=H.full;have H:=Hb;clear hc;refine kH H (Rc O ?_);clear H;intro a H;refine aj ⟨O,?_⟩;exact aB HT Hb hG hv (fun _ _ _ _ _ h=>h) H O
   clear H;intro a w G kr H hv;have H:=H.au (hv 8 36 O O) O;clear hv;refine aj ⟨O,?_⟩;refine bX _ _ ?_;clear bX;refine ou H O ?_ ?_
   ·intro jS
    try have p36:=dT jS
    have hen:xu Prod.fst Prod.snd pa[i] pb[k]=qm pa[i].2 pb[k].2:=aN p36.symm;have hfn:=TN hfl NH hk1 vw hf0 (hen ▸ Gg);refine dI hmx [[],[],[],[],[2,3],[2,3,4],[],[],[6,7],[6,7,8],ra 2 8,ra 0 11,ra 0 12] [11,12] Z [.slice (some ⟨DF,0,none⟩) pb.length pb.length,vi k,.slice (some ⟨sb1,Xd,none⟩) pa.length c,vi i,(aJ sb1 (Xd+i*1)),.string pa[i].2,.slice (some ⟨PI,PO,none⟩) pb.length d,vi k,(aJ PI (PO+k*1)),.string pb[k].2,vi (qm pa[i].2 pb[k].2)] H (aH ?_ ?_ ?_ ?_ (aH ?_ ?_ ?_ ?_ (aH ?_ ?_ ?_ (fT O) (eB (fT O) fD)))) ?_
    ·intro ay a w G1 _ ah hc hG HT hv;have H:=HT;clear ah;have Hb:=H.full;have H:=Hb;clear hc;refine kH H (Rm O ?_);clear H;intro a H;refine aj ⟨O,?_⟩;exact aB HT Hb hG hv (fun _ _ _ _ _ h=>h) H O
    ·intro ay a w G1 _ ah hc hG HT hv;have H:=HT;clear ah;have Hb:=H.full;have H:=Hb;clear hc;refine kH H (Rm O ?_);clear H;intro a H;refine aj ⟨O,?_⟩;exact aB HT Hb hG hv (fun _ _ _ _ _ h=>h) H O
    ·intro ay a w G1 _ ah hc hG HT hv;have H:=HT;clear ah;have Hb:=H.full;have H:=Hb;clear hc;refine kH H (Rm O ?_);clear H;intro a H;refine aj ⟨O,?_⟩;exact aB HT Hb hG hv (fun _ _ _ _ _ h=>h) H O
    ·intro ay a w G1 _ ah hc hG HT hv;have H:=HT;clear ah;have Hb:=H.full;have H:=Hb;clear hc;refine kH H (Rm O ?_);clear H;intro a H;refine aj ⟨O,?_⟩;exact aB HT Hb hG hv (fun _ _ _ _ _ h=>h) H O
    ·intro ay a w G1 _ ah hc hG HT hv;have H:=HT;clear ah;have H:=H.au (hv 2 39 (hc 2 Y) O) O;have H:=H.au (hv 3 40 (hc 3 Y) O) O;have Hb:=H.full;have H:=Hb;clear hc;refine bD kX iW i H wn O O O hi1 O ?_;clear H;intro a H;refine aj ⟨O,?_⟩;exact aB HT Hb hG hv (fun _ _ _ _ _ h=>h) H O
    ·intro ay a w G1 _ ah hc hG HT hv;have H:=HT;clear ah;have H:=H.au (hv 4 41 (hc 4 Y) O) O;have Hb:=H.full;have H:=Hb;clear hc;refine kH H (Rg iW O (aK hG (aK kr gs1)) ?_);clear H;intro a H;refine aj ⟨O,?_⟩;exact aB HT Hb hG hv (fun _ _ _ _ _ h=>h) H O
    ·intro ay a w G1 _ ah hc hG HT hv;have H:=HT;clear ah;have Hb:=H.full;have H:=Hb;clear hc;refine kH H (Rm O ?_);clear H;intro a H;refine aj ⟨O,?_⟩;exact aB HT Hb hG hv (fun _ _ _ _ _ h=>h) H O
    ·intro ay a w G1 _ ah hc hG HT hv;have H:=HT;clear ah;have Hb:=H.full;have H:=Hb;clear hc;refine kH H (Rm O ?_);clear H;intro a H;refine aj ⟨O,?_⟩;exact aB HT Hb hG hv (fun _ _ _ _ _ h=>h) H O
    ·intro ay a w G1 _ ah hc hG HT hv;have H:=HT;clear ah;have H:=H.au (hv 6 43 (hc 6 Y) O) O;have H:=H.au (hv 7 44 (hc 7 Y) O) O;have Hb:=H.full;have H:=Hb;clear hc;refine bD kX iW k H wn O O O hk1 O ?_;clear H;intro a H;refine aj ⟨O,?_⟩;exact aB HT Hb hG hv (fun _ _ _ _ _ h=>h) H O
    ·intro ay a w G1 _ ah hc hG HT hv;have H:=HT;clear ah;have H:=H.au (hv 8 45 (hc 8 Y) O) O;have Hb:=H.full;have H:=Hb;clear hc;refine kH H (Rg iW O (aK hG (aK kr gs2)) ?_);clear H;intro a H;refine aj ⟨O,?_⟩;exact aB HT Hb hG hv (fun _ _ _ _ _ h=>h) H O
    ·intro ay a w G1 _ ah hc hG HT hv;have H:=HT;clear ah;have H:=H.au (hv 5 42 (hc 5 Y) O) O;have H:=H.au (hv 9 46 (hc 9 Y) O) O;have Hb:=H.full;have H:=Hb;clear hc;refine s_call abo H wn O (afv _ _ H.ro (fun b o h=>hG _ _ (kr _ _ (gH _ _ (h0 b o h)))) _ _ (hoa _ (dV hi1)) (Od _ (dV hk1))) O ?_;clear H;rintro v47 G47 a w rfl adu H;refine aj ⟨O,?_⟩;exact oD Z (fun _ _ _ _ _ h=>h) O O HT Hb hG hv adu (rfl) H
    clear H;intro a w G yM H hv;have H:=H.au (hv 0 37 O O) O;have H:=H.au (hv 1 38 O O) O;have H:=H.au (hv 10 47 O O) O;clear hv;refine bD cB aC k H wn O O O hk1 O ?_;clear H;intro a H;refine ql aC 0 (c:=fl.map vi) (vs:=[_]) ((fl.set k (qm pa[i].2 pb[k].2)).map vi) H wn O O O O O O (Eq.mpr Nat.ble_eq (by rw [bJ,hfl];simp only [List.length_singleton];omega)) (by rw [eH,Nat.mul_one,List.map_set];rfl) ?_;clear H;intro w H;dsimp only [List.set] at H;refine aj ⟨O,?_⟩;refine bG _ _ ?_;clear bG;refine kP H (SC (Rm O (Rd O (Ra O ?_))));clear H;intro a H;refine aj ?_;refine bE ((k+1,fl.set k (qm pa[i].2 pb[k].2),G)) (by exact H.sub ⟨O,O,O,O,O,O,O,O,aI⟩) ?_
    (try dsimp only);exact ⟨V,hfn.1,hfn.2.1,hfn.2.2,fun b o h=>yM _ _ (kr _ _ (gH b o h)),fun b o h=>yM _ _ (kr _ _ (hgg b o h))⟩
   intro jS
   try have p36:=dF jS
   have hen:xu Prod.fst Prod.snd pa[i] pb[k]=0:=aL fun h=>p36 h.symm;have hfn:=TP hk1 vw hf0 (hen ▸ Gg);refine kP H (Kc bG (SC (Rm O (Rd O (Ra O ?_)))));clear H bG;intro a H;refine aj ?_;refine bE ((k+1,fl,G)) (by exact H.sub ⟨O,O,O,O,O,O,O,O,aI⟩) ?_
   (try dsimp only);exact ⟨V,hfl,hfn.1,hfn.2,fun b o h=>kr _ _ (gH b o h),fun b o h=>kr _ _ (hgg b o h)⟩
  intro kN a H
  try have p25:=dF kN
  refine dJ ?_;refine K9 _ _ ?_;clear K9;have hall:fl=nG Prod.fst Prod.snd pb pa[i]:=TM hfl (by simp [nG]) fun q hq=>vw q V;obtain ⟨G3,wz,hg3,H⟩:=H.kE
  have aey:aF G3 (.sl 1 ((nG Prod.fst Prod.snd pb pa[i]).map gJ)) (.slice (some ⟨DF,0,none⟩) pb.length pb.length):=by
   rw [<- hall];exact aF.rV (xs:=fl.map vi) hg3 (by rw [bJ,hfl]) (bS _) V (gG (by simp [hfl])) (yQ _ _)
  have NT:cO G3 1 (((kV Prod.fst Prod.snd pa pb).take (i+1)).map nD) (cs++[.slice (some ⟨DF,0,none⟩) pb.length pb.length]):=by
   rw [jq (by simpa [kV] using hi1),jw];exact (iq.mono fun b o h=>wz _ _ (hgg b o h)).snoc (by simpa [kV] using Kq aey) O
  refine kP H (SC (Rm O (Rm O ?_)));clear H;intro a H;refine eU iE bP [_] [_] H wn O O O O O (by intro i q h;match i,h with|0,h=>exact h|n+1,h=>simp at h) O O ?_;clear H;intro b51 a w ajJ H;refine dX (Li:=[_]) (Lo:=Lo) (news:=[.slice (some ⟨DF,0,none⟩) pb.length pb.length]) iE bP O O H wn O O hrw O (H.hp.bR 0 O O) O V V O ?_;clear H;intro v52 YX a w aeH H;refine kH H (bO K7 O (SC (Rm O (Rd O (Ra O ?_)))));clear H K7;intro a H;refine aj ?_;refine bE ((i+1,v52,cs++[.slice (some ⟨DF,0,none⟩) pb.length pb.length],YX,G3)) (by exact (H.dz (Pl:=[_]) (bZ:=[]) [] Y O).sub ⟨O,O,O,O,O,O,aI⟩) ?_
  (try dsimp only);exact ⟨V,aeH,NT,fun b o h=>wz b o (gH b o h)⟩
 intro h16 a H
 try have p16:=dF h16
 refine dJ ?_;refine K3 _ _ ?_;clear K3;refine kP H (SR fun _ dG=>Rm O (av dG O ?_));clear H dG;intro a H;refine aU ?_
 have hie:i=pa.length:=by omega
 obtain ⟨Gr,hmr,hrep,H⟩:=St.kF (Li:=[]) (Lo:=Lo) H hrw (rows:=(kV Prod.fst Prod.snd pa pb).map nD) (by simp [kV,hie]) (by rw [gG (by simp [kV];omega)] at iq;exact iq);refine lv H results23 O ?_;exact H.rt hrep
theorem abm:bL 32:=bN func32 O
theorem uI:prog.underlying 67=some (.slice 66):=by kernel_rfl
theorem nS:Ty prog 66 2 24 [.int .i64 0,.string ⟨#[]⟩] true:=⟨Z,Z⟩
theorem ahH:sD prog 66 [(0,1),(1,1)] [.int .i64 0,.string ⟨#[]⟩]:=⟨Z,Z⟩
theorem Tm:bL 31:=bN func31 O
theorem F4:gL prog 66 1 1:=⟨Z⟩
theorem Tn:bL 33:=bN func33 O
theorem zF (l:List aD):(iM l).length=(lq l).length:=by rw [iM,bJ]
theorem DK {l:List aD} {k:Nat} (hk:k < (lq l).length):(iM l).take (k+1)=(iM l).take k++[yI l (lq l)[k]]:=by
 rw [jq (by rw [zF];exact hk)];simp [iM]
theorem BU (l:List aD):(lq l).length<=2*l.length+1:=by
 unfold lq;split
 ·exact FH l 0 0 true
 simp
set_option maxHeartbeats 2000000 in
theorem Mt (G:GH) (w0:World) (hG:Hold G w0) (l:List aD) (v:ak) (hv:aF G (.sl 11 (l.map aD.dat)) v) (hz:cK l<=1073741823) (he:jW l=0) :
  Calls prog 18 #[v] w0 (bQ w0 G fun u G'=>aF G' (.sl 2 ((iM l).map iX.dat)) u):=by
 have hll:=yj l;have hbl:=BU l;have hml:maxLen=9223372036854775807:=rfl;obtain ⟨A,c,rfl,hc1,hc2,hg⟩:=hv.slice;rw [bJ] at *;refine eN [(0,_)] func18 O ntmps18 O O hG ?_;intro a H;refine kP H (SR fun _ K1=>av K1 O (SR fun _ K2=>Rm O ?_));clear H K1;intro a H;refine s_call MW H wn O (Lm _ _ H.ro l _ hv V) O ?_;clear H;rintro v16 BJ a w ⟨x,rfl,hrep⟩ Cu H;obtain ⟨Yp,n16,c16,rfl⟩:=hrep.form;have hn16:=hrep.len;rw [bJ] at hn16;refine kH H (Rm O ?_);clear H;intro a H;(iterate 2 refine eZ H wn O O O ?_;clear H;intro a H);refine kH H (Ra O (av K2 O (SR fun _ K3=>av K3 O (SQ fun _ K4=>SR fun _ K5=>Rm O (Rl wN O (Rm O (Kz K5 (SB ?_))))))));clear H K2 K3 K5;intro a H;skip;refine dY (ι:=Nat × ak × List ak × OL × GH) (Tc:=[(0,_),(19,_),(20,_)]) (Lc:=[]) (fun gh=>[(5,gh.2.1),(21,vi gh.1)]) (fun gh=>[]++gh.2.2.2.1) (fun gh=>gh.2.2.2.2) (fun gh=>gh.1<=(lq l).length∧aW 66 2 gh.2.1 gh.1 gh.2.2.1 gh.2.2.2.1∧cO gh.2.2.2.2 2 (((iM l).take gh.1).map iX.dat) gh.2.2.1∧(∀ b o,BJ b=some o->gh.2.2.2.2 b=some o)) (fun gh=>(lq l).length - gh.1) ((0,.slice none 0 0,[],[],BJ)) (by exact H.sub ⟨O,O,O,O,O,aI⟩) ?_ ?_
 ·exact ⟨V,aW.nil,cO.nil,fun _ _ h=>h⟩
 clear H;rintro ⟨k,v,xs,Lo,g⟩ a w hI H;dsimp only at hI H;obtain ⟨hk,hrw,iq,hgm⟩:=hI;dsimp only [lca,bW] at H;refine kP H (SR fun _ K6=>Rc O (Kz K6 (SQ fun _ K7=>Cd O ?_ ?_))) <;> clear H K6
 ·intro h22 a H
  try have mX:=dT h22
  have hk2:k < (lq l).length:=by omega
  obtain ⟨B,hB⟩:∃ B,B=(lq l)[k]:=⟨_,O⟩;have hBm:B∈lq l:=hB ▸ dV hk2;obtain ⟨b,o,cs,rfl,hcl,hrow,hr⟩:=(hrep.mono hgm).at_ k (uf B) (by simp [hk2,hB]);obtain rfl:=Mv hr;have hin:=RJ he hBm;have oG:∀ b o,G b=some o->g b=some o:=fun b o h=>hgm b o (Cu b o h);have hbz:=Mw l B;obtain ⟨vA,vc,rfl,GY,GZ⟩:=hrw.shape;refine kP H (Kc K7 (SQ fun _ K8=>SB (SR fun _ K9=>Ri wN lY O O ?_)));clear H K7;intro a H;refine bV lY (cs:=[_,_,_,_]) H wn O O (fun j v hj=>H.hp.aS (hrow j v hj)) O ?_;clear H;intro a H;refine gX lY H wn O ?_;clear H;intro b7 a w Ed H;refine bg lY 0 (vs:=[_,_,_,_]) H wn O ?_;clear H;intro w H;refine K9 _ _ ?_;clear K9;refine kP H (SR fun _ aP=>fG D8 aC 0 O O ?_);clear H;intro a H;refine ku ahH [_,_] H wn O O O O ?_;clear H;intro a H;refine gX nS H wn O ?_;clear H;intro b8 a w Gm H;refine bg nS 0 (vs:=[_,_]) H wn O ?_;clear H;intro w H;refine aP _ _ ?_;clear aP;refine kP H (SQ fun _ aT=>SR fun _ bH=>fG D8 aC 1 O O (Rc O (Kz bH (Cd O ?_ ?_)))) <;> clear H bH
  ·intro Cj a H
   try have p30:=dT Cj
   obtain ⟨i,xi,hi,hfi,Ou⟩:=Wp (l:=l) (t:=B.from_) he hin.2.1 (by have:=hin.2;omega);obtain ⟨bi,oi,pA,pn,pc,dA,dn,dc,yA,yn,yc,fA,fn,fc,Kk,rn,rc,rfl,hrow2,hhd,hfl,hrs⟩:=zL hi hg;obtain ⟨R,hR⟩:∃ R,R=l[i].rows:=⟨_,O⟩;rw [<- hR] at hrs
   obtain rfl:rn=R.length:=by have:=hrs.len;rwa [bJ] at this
   have hbk:ug l B=nE R:=by rw [ug,aN p30,Wx hi hfi,hR]
   rw [hbk] at hbz;refine kP H (SR fun _ bG=>Rm O (fG Jj aC 1 O O ?_));clear H;intro a H;refine s_call Tm H wn O (Wo _ _ H.ro l B.from_ _ (hv.mono oG) V) O ?_;clear H;rintro v35 QK a w rfl Gx H;rw [Ou] at H;dsimp only at H;refine kH H (Rm O ?_);clear H;intro a H;(iterate 3 refine eZ H wn O O O ?_;clear H;intro a H);refine kH H (Ra O (Ra O (av bG O (SR fun _ bX=>Rm O (Rc O (Kz bX (Cd O ?_ ?_))))))) <;> clear H bG bX
   ·intro pY a H
    try have p40:=dT pY
    refine kP H (SR fun _ dG=>Rm O (Rm O (Ri iB fB O O (Rf uW O (Rg vH O (aK (fun b o h=>Gx _ _ (oG b o h)) (hrow2 10 _ O)) (Rl mK O (Rm O (Kz dG (SB ?_)))))))));clear H dG;intro a H;skip;refine dY (ι:=Nat × GH) (Tc:=[(0,_),(5,_),(8,_),(19,_),(20,_),(21,_),(45,_),(46,_)]) (Lc:=[(_,_)]) (fun gh=>[(47,vi gh.1)]) (fun gh=>[(b8,.cells #[vi B.kind,.string (kM (nE (R.take gh.1)))] 66 (0,0))]++Lo) (fun gh=>gh.2) (fun gh=>gh.1<=R.length∧(∀ b o,g b=some o->gh.2 b=some o)) (fun gh=>R.length - gh.1) ((0,QK)) (by exact (H.dz (Pl:=[_,_]) (bZ:=[_,_]) [1,0] Y O).sub ⟨O,O,O,O,O,O,O,O,O,aI⟩) ?_ ?_
    ·exact ⟨V,Gx⟩
    clear H;rintro ⟨j,g2⟩ a w hI H;dsimp only at hI H;obtain ⟨hj,hgg⟩:=hI;dsimp only [lca,bW] at H;refine kP H (SR fun _ dR=>Rc O (Kz dR (SQ fun _ fu=>Cd O ?_ ?_))) <;> clear H dR
    ·intro h48 a H
     try have p48:=dT h48
     have hj2:j < R.length:=by omega
     obtain ⟨br,or_,cr,rfl,Uq,hrow3,hr3⟩:=(hrs.mono fun b o h=>hgg _ _ (oG b o h)).at_ j R[j].dat (by simp [hj2]);obtain ⟨qA,qn,qc,uA,un,uc,zA,zn,zc,xA,xn,xc,rfl,hh3,hf3⟩:=hr3.row;have hpz:=Kt (l:=R) (k:=j);have Oj:=Kt (l:=R) (k:=j+1);have hbs:=Ww hj2;have NS:=gZ List.length hbs;rw [fQ] at NS;have hrz:=Dn (dV hj2);have hre:=wP R[j];have hrl:=Kr R;have hRl:=E9 R;have hie:=oO l[i];rw [<- hR] at hie;have him:=BH (dV hi);refine kP H (Kc fu (SQ fun _ gF=>SB (SR fun _ fU=>Ri mK jo O O ?_)));clear H fu;intro a H;refine bV jo (cs:=[_,_,_,_,_,_]) H wn O O (fun j v hj=>H.hp.aS (hrow3 j v hj)) O ?_;clear H;intro a H;refine gX jo H wn O ?_;clear H;intro b13 a w adD H;refine bg jo 0 (vs:=[_,_,_,_,_,_]) H wn O ?_;clear H;intro w H;refine fU _ _ ?_;clear fU;refine MF (hmx) [[],[0],[],[2],ra 0 4,ra 0 5,ra 0 6] [] Z Z 6 Y (fun (jV:Nat) (v:ak) (G:GH)=>match jV with|0=>v=(aJ b8 1)|1=>v=.string (kM (nE (R.take j)))|2=>v=.agg #[.slice qA qn qc,vi R[j].head.marks.ins,vi R[j].head.marks.move,.slice uA un uc,.slice zA zn zc,.slice xA xn xc]|3=>v=.string (kM (kU R[j].cells))|4=>v=.string (kM (nE (R.take (j+1))))|5=>v=(aJ b8 1)|_=>True) 2 ((b8,.cells #[vi B.kind,.string (kM (nE (R.take (j+1))))] 66 (0,0))) H ?_ ?_ ?_ ?_ Z
     ·clear H;refine aH ?_ ?_ ?_ ?_ (eB ?_ (eB ?_ (eB ?_ fD)))
      ·intro ay a w G1 _ _ ah hc hG HT hv;have H:=HT;clear ah;have Hb:=H.full;have H:=Hb;clear hc;refine kH H (Rf F4 O ?_);clear H;intro a H;refine aj ⟨O,?_⟩;exact aB HT Hb hG hv (fun _ _ _ _ _ h=>h) H O
      ·intro ay a w G1 _ _ ah hc hG HT hv;have H:=HT;clear ah;have H:=H.au (hv 0 51 (hc 0 Y) O) O;have Hb:=H.full;have H:=Hb;clear hc;refine kH H (Ro iW 2 O ?_);clear H;intro a H;refine aj ⟨O,?_⟩;exact aB HT Hb hG hv (fun _ _ _ _ _ h=>h) H O
      ·intro ay a w G1 _ _ ah hc hG HT hv;have H:=HT;clear ah;have Hb:=H.full;have H:=Hb;clear hc;refine bV jo (cs:=[_,_,_,_,_,_]) H wn O O (H.hp.bR 0 O O) O ?_;clear H;intro a H;refine aj ⟨O,?_⟩;exact aB HT Hb hG hv (fun _ _ _ _ _ h=>h) H O
      ·intro ay a w G1 _ _ ah hc hG HT hv;have H:=HT;clear ah;have H:=H.au (hv 2 53 (hc 2 Y) O) O;have Hb:=H.full;have H:=Hb;clear hc;refine s_call abm H wn O (Zx _ _ H.ro R[j] [_,_,_,_,_,_] (hr3.mono hG) V) O ?_;clear H;rintro v54 QM a w rfl adw H;refine aj ⟨O,?_⟩;exact oD Z (fun _ _ _ _ _ h=>h) O O HT Hb hG hv adw (rfl) H
      ·intro ay a w G1 _ _ ah hc hG HT hv;have H:=HT;clear ah;have H:=H.au (hv 1 52 (hc 1 Y) O) O;have H:=H.au (hv 3 54 (hc 3 Y) O) O;have Hb:=H.full;have H:=Hb;clear hc;refine ED H wn O O (by rw [xg,xg];omega) rfl ?_;clear H;intro a H;rw [<- AX,<- hbs] at H;refine aj ⟨O,?_⟩;exact aB HT Hb hG hv (fun _ _ _ _ _ h=>h) H O
      ·intro ay a w G1 _ _ ah hc hG HT hv;have H:=HT;clear ah;have Hb:=H.full;have H:=Hb;clear hc;refine kH H (Rf F4 O ?_);clear H;intro a H;refine aj ⟨O,?_⟩;exact aB HT Hb hG hv (fun _ _ _ _ _ h=>h) H O
      intro _ _ _ _ _ hB;exact absurd hB Y
     ·clear H;intro o_ ay a w G1 xJ _ hc hG HT hv;obtain rfl:_=o_:=Option.some.inj xJ;clear xJ;have H:=HT;have H:=H.au (hv 5 56 (hc 5 Y) O) O;have H:=H.au (hv 4 55 (hc 4 Y) O) O;have Hb:=H.full;have H:=Hb;clear hc;refine bg iW 2 (vs:=[_]) H wn O ?_;clear H;intro w H;refine aj ⟨O,?_⟩;exact MP O HT hG hv H
     ·clear H;refine aH (fT O) (fT O) (fT O) (fT O) (eB (fT O) (eB (fT O) (eB ?_ fD)))
      intro _ _ _ _ _ hB;exact absurd hB Y
     clear H;intro a w G Jt H hv;dsimp only [List.set,List.append,lca,bW] at H;clear hv;refine aj ⟨O,?_⟩;refine gF _ _ ?_;clear gF;refine kP H (SC (Rd O (Rm O ?_)));clear H;intro a H;refine aj ?_;refine bE ((j+1,G)) (by exact (H.dz (Pl:=[_,_,_]) (bZ:=[_,_]) [1,2] Y O).sub ⟨O,O,O,O,O,O,O,O,O,aI⟩) ?_
     (try dsimp only);exact ⟨V,fun b o h=>Jt _ _ (hgg b o h)⟩
    intro h48 a H
    try have p48:=dF h48
    refine dJ ?_;refine aT _ _ ?_;clear aT
    first
     | rw [show R.take j=R from gG V,<- hbk] at H
     | rw [<- hbk] at H
    refine kP H (SC (Rm O ?_));clear H;intro a H;refine bV nS (cs:=[_,_]) H wn O O (H.hp.bR 1 O O) O ?_;clear H;intro a H;refine eU uI nS [_,_] [_,_] H wn O O O O O (by intro i q h;match i,h with|0,h=>exact h|n+1,h=>simp at h) O O ?_;clear H;intro Zc a w adL H;refine dX (Li:=[_,_,_]) (Lo:=Lo) (news:=(yI l B).cells) uI nS O O H wn O O hrw O (H.hp.bR 0 O O) O V V O ?_;clear H;intro v68 LU a w Ox H;refine kH H (bO K8 O (SC (Rd O (Rm O ?_))));clear H K8;intro a H;refine aj ?_;refine bE ((k+1,v68,xs++(yI l B).cells,LU,_)) (by exact (H.dz (Pl:=[_,_,_]) (bZ:=[]) [] Y O).sub ⟨O,O,O,O,O,aI⟩) ?_
    (try dsimp only);exact ⟨V,Ox,by rw [DK hk2,<- hB,jw];exact (iq.mono (by first|exact hgg|exact JM)).snoc (RU _ _) O,fun b o h=>by first|exact hgg _ _ (hgm b o h)|exact JM _ _ (hgm b o h)⟩
   intro pY a H
   exact absurd pY Y
  intro Cj a H
  try have p30:=dF Cj
  have hbk:ug l B=Ia l B:=by rw [ug,aL p30]
  refine kP H (SC (Rm O ?_));clear H;intro a H;refine bV lY (cs:=[_,_,_,_]) H wn O O (H.hp.bR 1 O O) O ?_;clear H;intro a H;refine s_call Tn H wn O (V6 _ _ H.ro l B _ (hv.mono oG) V he hBm hin) O ?_;clear H;rintro v61 G61 a w rfl JM H;refine kH H (Rm O ?_);clear H;intro a H;(iterate 2 refine eZ H wn O O O ?_;clear H;intro a H);refine kH H (Rf F4 O ?_);clear H;intro a H;refine bg iW 0 (vs:=[_]) H wn O ?_;clear H;intro w H;refine aj ?_;refine aT _ _ ?_;clear aT
  first
   | rw [show R.take j=R from gG V,<- hbk] at H
   | rw [<- hbk] at H
  refine kP H (SC (Rm O ?_));clear H;intro a H;refine bV nS (cs:=[_,_]) H wn O O (H.hp.bR 0 O O) O ?_;clear H;intro a H;refine eU uI nS [_,_] [_,_] H wn O O O O O (by intro i q h;match i,h with|0,h=>exact h|n+1,h=>simp at h) O O ?_;clear H;intro Zc a w adL H;refine dX (Li:=[_,_,_]) (Lo:=Lo) (news:=(yI l B).cells) uI nS O O H wn O O hrw O (H.hp.bR 0 O O) O V V O ?_;clear H;intro v68 LU a w Ox H;refine kH H (bO K8 O (SC (Rd O (Rm O ?_))));clear H K8;intro a H;refine aj ?_;refine bE ((k+1,v68,xs++(yI l B).cells,LU,_)) (by exact (H.dz (Pl:=[_,_,_]) (bZ:=[]) [] Y O).sub ⟨O,O,O,O,O,aI⟩) ?_
  (try dsimp only);exact ⟨V,Ox,by rw [DK hk2,<- hB,jw];exact (iq.mono (by first|exact hgg|exact JM)).snoc (RU _ _) O,fun b o h=>by first|exact hgg _ _ (hgm b o h)|exact JM _ _ (hgm b o h)⟩
 intro h22 a H
 try have mX:=dF h22
 refine dJ ?_;refine K4 _ _ ?_;clear K4;refine kP H (SR fun _ jd=>Rm O (av jd O ?_));clear H jd;intro a H;refine aU ?_
 have hke:k=(lq l).length:=by omega
 obtain ⟨Gr,hmr,aeA,H⟩:=St.kF (Li:=[]) (Lo:=Lo) H hrw (rows:=(iM l).map iX.dat) (by rw [bJ,zF,hke]) (by rw [gG (by rw [zF];omega)] at iq;exact iq);refine lv H results18 O ?_;exact H.rt aeA
theorem acQ:gL prog 66 0 0:=⟨Z⟩
theorem abd:bL 17:=bN func17 O
theorem MV:bL 18:=bN func18 O
theorem abe:bL 19:=bN func19 O
set_option maxHeartbeats 2000000 in
theorem afn {Gt:GH} (G:GH) (w0:World) (hG:Hold G w0) (h0:∀ b o,Gt b=some o->G b=some o) (κ:iX->Int) (φ:iX->ByteArray) (la lb:List iX) (va vb fv:ak) (hva:aF G (.sl 2 (la.map iX.dat)) va) (hvb:aF G (.sl 2 (lb.map iX.dat)) vb)
  (hfa:∀ x∈la,L8 fv w0 G x.dat (κ x) (φ x)) (sN:∀ x∈lb,L8 fv w0 G x.dat (κ x) (φ x)) (hoa:∀ x∈la,mO Gt (φ x)) (Od:∀ x∈lb,mO Gt (φ x)) (hla:la.length<=1024) (hlb:lb.length<=1024) :
  Calls prog 17 #[va,vb,fv] w0 (bQ w0 G fun u G'=>∃ x,u=.tuple #[x,vi 0]∧aF G' (.sl 3 ((pR (kV κ φ la lb)).map jJ.dat)) x):=by
 obtain ⟨A,c,rfl,hc1,hc2,hga⟩:=hva.slice;obtain ⟨B,d,rfl,hd1,hd2,hgb⟩:=hvb.slice;have hml:maxLen=9223372036854775807:=rfl
 have hMl:(kV κ φ la lb).length=la.length:=by simp [kV]
 (iterate 2 rw [bJ] at *);refine eN [(0,_),(1,_),(2,_)] func17 O ntmps17 O O hG ?_;intro a H;refine kP H (SR fun _ K1=>Ra O (av K1 O (SQ fun _ K2=>SR fun _ K3=>Rm O (Rl uI O (Rc O (Rm O (Sp 20 O ?_ ?_))))))) <;> clear H K1
 ·intro h20 a H
  try have vG:=dT h20
  exact absurd vG V
 intro h20 a H
 try have vG:=dF h20
 refine kH H (YM h20 O (YL uI h20 O (YC h20 O (Pf h20 O (Kz K3 (Cd O ?_ ?_)))))) <;> clear H K3
 ·intro aQ a H
  try have gP:=dT aQ
  exact absurd gP V
 intro aQ a H
 try have gP:=dF aQ
 refine kP H (Kc K2 (SR fun _ K4=>Rm O (Rl uI O ?_)));clear H K2;intro a H;refine xV la.length iE bP H wn O O O V V O ?_;clear H;intro Mk a w ajD H;refine kH H (av K4 O (SQ fun _ K5=>SR fun _ K6=>Rm O (Rl uI O (Rm O (Kz K6 (SB ?_))))));clear H K4 K6;intro a H;skip;refine dY (ι:=Nat × List ak × GH) (Tc:=[(1,_),(2,_),(8,_),(28,_),(29,_)]) (Lc:=[]) (fun gh=>[(30,vi gh.1)]) (fun gh=>[Ry Mk gh.2.1]) (fun gh=>gh.2.2) (fun gh=>gh.1<=la.length∧BN gh.2.2 (kV κ φ la lb) la.length lb.length gh.2.1 gh.1∧(∀ b o,G b=some o->gh.2.2 b=some o)) (fun gh=>la.length - gh.1) ((0,List.replicate la.length (.slice none 0 0),G)) (by exact H.sub ⟨O,O,O,O,O,O,aI⟩) ?_ ?_
 ·exact ⟨fC _,⟨by simp,fun r h1=>absurd h1 (Nat.not_lt_zero _)⟩,fun _ _ h=>h⟩
 clear H;rintro ⟨i,cs,g⟩ a w hI H;dsimp only at hI H;obtain ⟨hi,hra,hgm⟩:=hI;dsimp only [lca,bW] at H;refine kP H (SR fun _ K7=>Rc O (Kz K7 (SQ fun _ K8=>Cd O ?_ ?_))) <;> clear H K7
 ·intro h31 a H
  try have p31:=dT h31
  have hi1:i < la.length:=by omega
  obtain ⟨b,o,cells,rfl,hcl,hrow,hrep⟩:=hga i la[i].dat (by simp [hi1]);obtain rfl:=IK hrep;replace hrow:=fun j u hj=>aK hgm (hrow j u hj);refine kP H (Kc K8 (SQ fun _ K9=>SB (SR fun _ aP=>Rm O (Ri uI nS O O ?_))));clear H K8;intro a H;refine bV nS (cs:=[_,_]) H wn O O (fun j v hj=>H.hp.aS (hrow j v hj)) O ?_;clear H;intro a H;refine gX nS H wn O ?_;clear H;intro b10 a w NI H;refine kH H (Ra O ?_);clear H;intro a H;refine bg nS 0 (vs:=[_,_]) H wn O ?_;clear H;intro w H;refine aP _ _ ?_;clear aP;refine kP H (SR fun _ aT=>Rm O (Rm O (Rm O (Rl uI O ?_))));clear H;intro a H;refine xV lb.length cB aC H wn O O O V V O ?_;clear H;intro vS a w NQ H;refine bD iE bP i H wn O O O hi1 O ?_;clear H;intro a H;refine ql bP 2 (c:=cs) (vs:=[_]) (cs.set i (.slice (some ⟨vS,0,none⟩) lb.length lb.length)) H wn O O O O O O (Eq.mpr Nat.ble_eq (by have:=hra.1;simp only [List.length_singleton];omega)) (by rw [eH,Nat.mul_one];exact PW) ?_;clear H;intro w H;dsimp only [List.set] at H;obtain ⟨cs2,hcs2⟩:∃ x,x=cs.set i (.slice (some ⟨vS,0,none⟩) lb.length lb.length):=⟨_,O⟩;rw [<- hcs2] at H
  have zP:cs2.length=la.length:=by rw [hcs2,List.length_set];exact hra.1
  have hci:cs2[i]?=some (.slice (some ⟨vS,0,none⟩) lb.length lb.length):=by rw [hcs2,List.getElem?_set_self (by have:=hra.1;omega)]
  have hcn:∀ r,r < i->cs2[r]?=cs[r]?:=fun r hr=>by rw [hcs2,List.getElem?_set_ne V]
  rw [show List.replicate lb.length (Value.int .i64 0)=(List.replicate lb.length (0:Int)).map vi from List.map_replicate.symm] at H;refine aT _ _ ?_;clear aT;refine kP H (SR fun _ bH=>Rm O ?_);clear H;intro a H;refine bV nS (cs:=[_,_]) H wn O O (H.hp.bR 1 O O) O ?_;clear H;intro a H;refine yV H wn O O (hfa _ (dV hi1) _ _ _ hgm H.ro (hrep.mono hgm)) O ?_;clear H;rintro v44 YD a w rfl N8 H;refine kH H (Rm O ?_);clear H;intro a H;(iterate 2 refine eZ H wn O O O ?_;clear H;intro a H);refine kH H (Ra O (av bH O (SR fun _ bG=>Rm O (Rl uI O (Rm O (Kz bG (SB ?_)))))));clear H bH bG;intro a H;skip;refine dY (ι:=Nat × List Int × GH) (Tc:=[(1,_),(2,_),(8,_),(9,_),(11,_),(12,_),(28,_),(29,_),(30,_),(47,_),(48,_)]) (Lc:=[(_,_),(_,_)]) (fun gh=>[(49,vi gh.1)]) (fun gh=>[bF vS gh.2.1]) (fun gh=>gh.2.2) (fun gh=>gh.1<=lb.length∧gh.2.1.length=lb.length∧(∀ q,q < gh.1->gh.2.1[q]?=(nG κ φ lb la[i])[q]?)∧(∀ q,gh.1<=q->q < lb.length->gh.2.1[q]?=some 0)∧(∀ b o,G b=some o->gh.2.2 b=some o)∧(∀ b o,g b=some o->gh.2.2 b=some o)) (fun gh=>lb.length - gh.1) ((0,List.replicate lb.length 0,_)) (by exact (H.dz (Pl:=[_,_,_]) (bZ:=[_,_,_]) [1,2,0] Y O).sub ⟨O,O,O,O,O,O,O,O,O,O,O,O,aI⟩) ?_ ?_
  ·exact ⟨fC _,by simp,fun q h=>absurd h (Nat.not_lt_zero _),fun q _ hq=>by simp [List.getElem?_replicate];omega,fun b o h=>N8 b o (hgm b o h),N8⟩
  clear H;rintro ⟨k,fl,g2⟩ a w hI H;dsimp only at hI H;obtain ⟨hk,hfl,vw,hf0,gH,hgg⟩:=hI;dsimp only [lca,bW] at H;refine kP H (SR fun _ bX=>Rc O (Kz bX (SQ fun _ dG=>Cd O ?_ ?_))) <;> clear H bX
  ·intro h50 a H
   try have p50:=dT h50
   have hk1:k < lb.length:=by omega
   obtain ⟨b2,o2,ajp,rfl,Uq,hrow2,yN⟩:=hgb k lb[k].dat (by simp [hk1]);obtain rfl:=IK yN;replace hrow2:=fun j u hj=>aK gH (hrow2 j u hj)
   have NH:(nG κ φ lb la[i]).length=lb.length:=by simp [nG]
   have Gg:(nG κ φ lb la[i])[k]?=some (xu κ φ la[i] lb[k]):=by simp [nG,hk1]
   refine kP H (Kc dG (SQ fun _ dR=>SB (SR fun _ fu=>Rm O (Ri uI nS O O ?_))));clear H dG;intro a H;refine bV nS (cs:=[_,_]) H wn O O (fun j v hj=>H.hp.aS (hrow2 j v hj)) O ?_;clear H;intro a H;refine gX nS H wn O ?_;clear H;intro b14 a w adF H;refine kH H (Ra O ?_);clear H;intro a H;refine bg nS 0 (vs:=[_,_]) H wn O ?_;clear H;intro w H;refine fu _ _ ?_;clear fu;refine kP H (SR fun _ gF=>Rm O ?_);clear H;intro a H;refine bV nS (cs:=[_,_]) H wn O O (H.hp.bR 0 O O) O ?_;clear H;intro a H;refine yV H wn O O (sN _ (dV hk1) _ _ _ gH H.ro (yN.mono gH)) O ?_;clear H;rintro v57 G57 a w rfl GD H;refine kH H (Rm O ?_);clear H;intro a H;(iterate 2 refine eZ H wn O O O ?_;clear H;intro a H);refine kH H (Ra O (av gF O (SR fun _ fU=>Rm O (Rm O (Rc O (Kz fU (Cd O ?_ ?_))))))) <;> clear H gF fU
   ·intro kK a H
    try have p62:=dT kK
    have hen:xu κ φ la[i] lb[k]=qm (φ la[i]) (φ lb[k]):=aN p62;have hfn:=TN hfl NH hk1 vw hf0 (hen ▸ Gg);refine MF (hmx) [[],[],[0,1],[0,1,2],[],[],[],[5,6],[5,6,7],ra 5 4,ra 5 4,ra 0 10,(ra 0 10++[11])] [] Z Z 12 Y (fun (jV:Nat) (v:ak) (G:GH)=>match jV with|0=>v=.slice (some ⟨Mk,0,none⟩) la.length la.length|1=>v=vi i|2=>v=(aJ Mk (0+i*1))|3=>v=.slice (some ⟨vS,0,none⟩) lb.length lb.length|4=>v=vi k|5=>v=.string (φ la[i])|6=>v=.string (φ lb[k])|7=>v=.tuple #[vi (qm (φ la[i]) (φ lb[k])),vi 0]|8=>v=.tuple #[vi (qm (φ la[i]) (φ lb[k])),vi 0]|9=>v=vi (qm (φ la[i]) (φ lb[k]))|10=>v=vi 0|11=>v=(aJ vS (0+k*1))|_=>True) 3 (bF vS (fl.set k (qm (φ la[i]) (φ lb[k])))) H ?_ ?_ ?_ ?_ Z
    ·clear H;refine aH ?_ ?_ ?_ ?_ (aH ?_ ?_ ?_ ?_ (aH ?_ ?_ ?_ ?_ (eB ?_ fD)))
     ·intro ay a w G1 _ _ ah hc hG HT hv;have H:=HT;clear ah;have Hb:=H.full;have H:=Hb;clear hc;refine kH H (Rm O ?_);clear H;intro a H;refine aj ⟨O,?_⟩;exact aB HT Hb hG hv (fun _ _ _ _ _ h=>h) H O
     ·intro ay a w G1 _ _ ah hc hG HT hv;have H:=HT;clear ah;have Hb:=H.full;have H:=Hb;clear hc;refine kH H (Rm O ?_);clear H;intro a H;refine aj ⟨O,?_⟩;exact aB HT Hb hG hv (fun _ _ _ _ _ h=>h) H O
     ·intro ay a w G1 _ _ ah hc hG HT hv;have H:=HT;clear ah;have H:=H.au (hv 0 64 (hc 0 Y) O) O;have H:=H.au (hv 1 65 (hc 1 Y) O) O;have Hb:=H.full;have H:=Hb;clear hc;refine bD iE bP i H wn O O O hi1 O ?_;clear H;intro a H;refine aj ⟨O,?_⟩;exact aB HT Hb hG hv (fun _ _ _ _ _ h=>h) H O
     ·intro ay a w G1 _ _ ah hc hG HT hv;have H:=HT;clear ah;have H:=H.au (hv 2 66 (hc 2 Y) O) O;have Hb:=H.full;have H:=Hb;clear hc;refine iU bP H wn O (H.hp.gK 2 O (by rw [eH,Nat.mul_one];exact (List.getElem?_toArray ..).trans hci)) O ?_;clear H;intro a H;refine aj ⟨O,?_⟩;exact aB HT Hb hG hv (fun _ _ _ _ _ h=>h) H O
     ·intro ay a w G1 _ _ ah hc hG HT hv;have H:=HT;clear ah;have Hb:=H.full;have H:=Hb;clear hc;refine kH H (Rm O ?_);clear H;intro a H;refine aj ⟨O,?_⟩;exact aB HT Hb hG hv (fun _ _ _ _ _ h=>h) H O
     ·intro ay a w G1 _ _ ah hc hG HT hv;have H:=HT;clear ah;have Hb:=H.full;have H:=Hb;clear hc;refine kH H (Rm O ?_);clear H;intro a H;refine aj ⟨O,?_⟩;exact aB HT Hb hG hv (fun _ _ _ _ _ h=>h) H O
     ·intro ay a w G1 _ _ ah hc hG HT hv;have H:=HT;clear ah;have Hb:=H.full;have H:=Hb;clear hc;refine kH H (Rm O ?_);clear H;intro a H;refine aj ⟨O,?_⟩;exact aB HT Hb hG hv (fun _ _ _ _ _ h=>h) H O
     ·intro ay a w G1 _ _ ah hc hG HT hv;have H:=HT;clear ah;have H:=H.au (hv 5 69 (hc 5 Y) O) O;have H:=H.au (hv 6 70 (hc 6 Y) O) O;have Hb:=H.full;have H:=Hb;clear hc;refine s_call Ta H wn O (RS _ _ H.ro (fun b o h=>hG _ _ (GD _ _ (gH _ _ (h0 b o h)))) _ _ (hoa _ (dV hi1)) (Od _ (dV hk1))) O ?_;clear H;rintro v71 G71 a w rfl ady H;refine aj ⟨O,?_⟩;exact oD Z (fun _ _ _ _ _ h=>h) O O HT Hb hG hv ady (rfl) H
     ·intro ay a w G1 _ _ ah hc hG HT hv;have H:=HT;clear ah;have H:=H.au (hv 7 71 (hc 7 Y) O) O;have Hb:=H.full;have H:=Hb;clear hc;refine kH H (Rm O ?_);clear H;intro a H;refine aj ⟨O,?_⟩;exact aB HT Hb hG hv (fun _ _ _ _ _ h=>h) H O
     ·intro ay a w G1 _ _ ah hc hG HT hv;have H:=HT;clear ah;have H:=H.au (hv 8 63 (hc 8 Y) O) O;have Hb:=H.full;have H:=Hb;clear hc;refine eZ H wn O O O ?_;clear H;intro a H;refine aj ⟨O,?_⟩;exact aB HT Hb hG hv (fun _ _ _ _ _ h=>h) H O
     ·intro ay a w G1 _ _ ah hc hG HT hv;have H:=HT;clear ah;have H:=H.au (hv 8 63 (hc 8 Y) O) O;have Hb:=H.full;have H:=Hb;clear hc;refine eZ H wn O O O ?_;clear H;intro a H;refine aj ⟨O,?_⟩;exact aB HT Hb hG hv (fun _ _ _ _ _ h=>h) H O
     ·intro ay a w G1 _ _ ah hc hG HT hv;have H:=HT;clear ah;have H:=H.au (hv 3 67 (hc 3 Y) O) O;have H:=H.au (hv 4 68 (hc 4 Y) O) O;have Hb:=H.full;have H:=Hb;clear hc;refine bD cB aC k H wn O O O hk1 O ?_;clear H;intro a H;refine aj ⟨O,?_⟩;exact aB HT Hb hG hv (fun _ _ _ _ _ h=>h) H O
     intro _ _ _ _ _ hB;exact absurd hB Y
    ·clear H;intro o_ ay a w G1 xJ _ hc hG HT hv;obtain rfl:_=o_:=Option.some.inj xJ;clear xJ;have H:=HT;have H:=H.au (hv 11 74 (hc 11 Y) O) O;have H:=H.au (hv 9 72 (hc 9 Y) O) O;have Hb:=H.full;have H:=Hb;clear hc;refine ql aC 3 (c:=fl.map vi) (vs:=[_]) ((fl.set k (qm (φ la[i]) (φ lb[k]))).map vi) H wn O O O O O O (Eq.mpr Nat.ble_eq (by rw [bJ,hfl];simp only [List.length_singleton];omega)) (by rw [eH,Nat.mul_one,List.map_set];rfl) ?_;clear H;intro w H;dsimp only [List.set] at H;refine aj ⟨O,?_⟩;exact MP O HT hG hv H
    ·clear H;refine aH (fT O) (fT O) (fT O) (fT O) (aH (fT O) (fT O) (fT O) (fT O) (aH (fT O) (fT O) ?_ (fT O) (eB ?_ fD)))
     ·intro ay a w G1 _ _ ah hc hG HT hv;have H:=HT;dsimp only [List.set,List.append,lca,bW] at H;clear ah;have H:=H.au (hv 8 63 (hc 8 Y) O) O;have Hb:=H.full;have H:=Hb;clear hc;refine eZ H wn O O O ?_;clear H;intro a H;refine aj ⟨O,?_⟩;exact aB HT Hb hG hv (fun _ _ _ _ _ h=>h) H O
     intro _ _ _ _ _ hB;exact absurd hB Y
    clear H;intro a w G Ju H hv;dsimp only [List.set,List.append,lca,bW] at H;clear hv;refine aj ⟨O,?_⟩;refine dR _ _ ?_;clear dR;refine kP H (SC (Rd O (Rm O ?_)));clear H;intro a H;refine aj ?_;refine bE ((k+1,fl.set k (qm (φ la[i]) (φ lb[k])),G)) (by exact (H.dz (Pl:=[_,_,_,_]) (bZ:=[_,_,_]) [1,2,3] Y O).sub ⟨O,O,O,O,O,O,O,O,O,O,O,O,aI⟩) ?_
    (try dsimp only);exact ⟨V,hfn.1,hfn.2.1,hfn.2.2,fun b o h=>Ju _ _ (GD _ _ (gH b o h)),fun b o h=>Ju _ _ (GD _ _ (hgg b o h))⟩
   intro kK a H
   try have p62:=dF kK
   have hen:xu κ φ la[i] lb[k]=0:=aL p62;have hfn:=TP hk1 vw hf0 (hen ▸ Gg);refine kP H (Kc dR (SC (Rd O (Rm O ?_))));clear H dR;intro a H;refine aj ?_;refine bE ((k+1,fl,_)) (by exact (H.dz (Pl:=[_,_,_,_]) (bZ:=[_,_,_]) [1,2,3] Y O).sub ⟨O,O,O,O,O,O,O,O,O,O,O,O,aI⟩) ?_
   (try dsimp only);exact ⟨V,hfl,hfn.1,hfn.2,fun b o h=>GD _ _ (gH b o h),fun b o h=>GD _ _ (hgg b o h)⟩
  intro h50 a H
  try have p50:=dF h50
  refine dJ ?_;refine K9 _ _ ?_;clear K9;have hall:fl=nG κ φ lb la[i]:=TM hfl (by simp [nG]) fun q hq=>vw q V;have H:=H.dz (Pl:=[_,_,_]) (bZ:=[_,_,_]) [2,0,1] Y O;obtain ⟨G3,wz,hg3,H⟩:=H.kE
  have vC:BN G3 (kV κ φ la lb) la.length lb.length cs2 (i+1):=⟨zP,fun r h1=>by
   by_cases e:r=i
   ·subst e;refine ⟨nG κ φ lb la[r],vS,by simp [kV,hi1],by simp [nG],hci,?_⟩;rw [<- hall];exact aF.rV (xs:=fl.map vi) hg3 (by rw [bJ,hfl]) (bS _) V (gG (by simp [hfl])) (yQ _ _)
   obtain ⟨R,br,e0,e1,e2,e3⟩:=hra.2 r V
   exact ⟨R,br,e0,e1,by rw [hcn r V];exact e2,(e3.mono hgg).mono wz⟩⟩
  refine kP H (SC (Rd O (Rm O ?_)));clear H;intro a H;refine aj ?_;refine bE ((i+1,cs2,G3)) (by exact (H.dz (Pl:=[_,_]) (bZ:=[_]) [1] Y O).sub ⟨O,O,O,O,O,O,aI⟩) ?_
  (try dsimp only);exact ⟨V,vC,fun b o h=>wz b o (gH b o h)⟩
 intro h31 a H
 try have p31:=dF h31
 refine dJ ?_;refine K5 _ _ ?_;clear K5;refine kP H (SR fun _ jd=>Rm O ?_);clear H;intro a H
 have hie:i=la.length:=by omega
 rw [hie,<- hMl] at hra;obtain ⟨Gr,hmr,hgr,H⟩:=H.kE;refine s_call Tf H wn O (RG _ _ H.ro (kV κ φ la lb) _ (aF.rV (xs:=cs) hgr (by simp [kV]) (bS _) V (gG (by have:=hra.1;rw [List.toList_toArray];omega)) (hra.mono hmr).cat)) rfl ?_;clear H;rintro v78 QN a w ⟨x78,rfl,aeR⟩ ajY H;rw [Xb κ φ hla hlb] at H;(iterate 2 refine eZ H wn O O O ?_;clear H;intro a H);refine kH H (Ra O (av jd O ?_));clear H jd;intro a H;refine aU ?_;refine (bK H results17 (.cons (aG H O) (.cons (aG H O) .nil)) ?_).1;exact H.rt ⟨_,O,aeR⟩
theorem Zm (G:GH) (w0:World) (hG:Hold G w0) (x:iX) :
  Calls prog 19 #[.agg x.cells.toArray] w0 (bQ w0 G fun u G'=>u=.tuple #[vi x.kind,.string x.text]):=by
 refine eN [(0,_)] func19 O ntmps19 O O hG ?_;intro a H;refine gU (fun _ K1=>?_);refine jQ (cs:=[_,_]) H wn O O O ?_;clear H;intro b1 a w hb1 H;refine kH H (Ra O (av K1 O (SQ fun _ K2=>?_)));clear H K1;intro a H;have OA:=H.get 2 (vi 0) O;have OB:=H.get 3 (.string ⟨#[]⟩) O;have H:=H.sub (T':=[(1,_)]) ⟨O,aI⟩;refine R9 (hmx) [[],[0],[],[2],[0,1],ra 0 5] Z ([(2,vi 0,4,false),(3,.string ⟨#[]⟩,5,false),(4,(aJ b1 0),0,true),(5,vi x.kind,1,true),(6,(aJ b1 (0+1)),2,true),(7,.string x.text,3,true),(2,vi x.kind,4,true),(3,.string x.text,5,true)]) H ?_ ?_ ?_
 ·exact .cf OA (.cf OB (.ct Z))
 ·clear H;refine aH ?_ ?_ ?_ ?_ (eB ?_ (eB ?_ fD))
  ·intro ay a w ah hc hd HT hE;have H:=HT;have Hb:=H.full;have H:=Hb;clear hc;refine kH H (Rf acQ O ?_);clear H;intro a H;refine aj ⟨O,?_⟩;exact iP 2 O Z (rfl) HT Hb hE H
  ·intro ay a w ah hc hd HT hE;have H:=HT;have H:=H.eP (hE.at 2 O (hc 0 Y));have Hb:=H.full;have H:=Hb;clear hc;refine kH H (Ro aC 0 O ?_);clear H;intro a H;refine aj ⟨O,?_⟩;exact iP 3 O Z (rfl) HT Hb hE H
  ·intro ay a w ah hc hd HT hE;have H:=HT;have Hb:=H.full;have H:=Hb;clear hc;refine kH H (Rf F4 O ?_);clear H;intro a H;refine aj ⟨O,?_⟩;exact iP 4 O Z (rfl) HT Hb hE H
  ·intro ay a w ah hc hd HT hE;have H:=HT;have H:=H.eP (hE.at 4 O (hc 2 Y));have Hb:=H.full;have H:=Hb;clear hc;refine kH H (Ro iW 0 O ?_);clear H;intro a H;refine aj ⟨O,?_⟩;exact iP 5 O Z (rfl) HT Hb hE H
  ·intro ay a w ah hc hd HT hE;have H:=HT;have H:=H.eP (hE.at 3 O (hc 1 Y));have Hb:=H.full;have H:=Hb;clear hc;refine kH H (Ra O ?_);clear H;intro a H;refine aj ⟨O,?_⟩;exact iP 6 O Z (rfl) HT Hb hE H
  intro ay a w ah hc hd HT hE;have H:=HT;have H:=H.eP (hE.at 5 O (hc 3 Y));have Hb:=H.full;have H:=Hb;clear hc;refine kH H (Ra O ?_);clear H;intro a H;refine aj ⟨O,?_⟩;exact iP 7 O Z (rfl) HT Hb hE H
 clear H;intro ay a w hall H hE;have H:=H.eP (hE.at 6 O (hall 4 Y));have H:=H.eP (hE.at 7 O (hall 5 Y));clear hE hall;skip;refine K2 _ _ ?_;clear K2;refine aU ?_;refine (bK H results19 (.cons (aG H O) (.cons (aG H O) .nil)) ?_).1;exact H.rt O
theorem RI {G:GH} {w0:World} (x:iX):L8 (.func (.func 19) #[] #[]) w0 G x.dat x.kind x.text:=by
 intro G1 w1 cs hm1 hG1 hr;obtain rfl:=IK hr;exact sI (P:=prog) (caps:=[]) (args:=[.agg x.cells.toArray]) abe (Zm _ _ hG1 x)
theorem IL {Gt:GH} (hT:yC Gt) {l:List aD} (hz:cK l<=67108864) (h:ig l=true):∀ x∈iM l,mO Gt x.text:=fun x hx=>by
 obtain ⟨b,-,rfl⟩:=List.mem_map.1 hx;have h2:=Mw l b;exact ahy hT (by show (kM (ug l b)).size<=_;rw [xg];omega) (Zn h b)
theorem Mr {Gt:GH} (G:GH) (w0:World) (hG:Hold G w0) (h0:∀ b o,Gt b=some o->G b=some o) (hT:yC Gt) (la lb:List aD) (va vb:ak) (hva:aF G (.sl 11 (la.map aD.dat)) va) (hvb:aF G (.sl 11 (lb.map aD.dat)) vb) (hza:cK la<=67108864) (hzb:cK lb<=67108864) (hla:la.length<=24) (hlb:lb.length<=24) :
  Calls prog 7 #[va,vb] w0 (bQ w0 G fun u G'=>∃ x,u=.tuple #[x,vi (if ig la=true∧ig lb=true then 0 else 12)]∧aF G' (.sl 3 ((if ig la=true∧ig lb=true then pR (kV iX.kind iX.text (iM la) (iM lb)) else []).map jJ.dat)) x):=by
 obtain ⟨A,n,c,rfl⟩:=hva.form;obtain ⟨B,m,d,rfl⟩:=hvb.form;have ha2:=BU la;have hb2:=BU lb;have ha3:=zF la;have hb3:=zF lb;refine eN [(0,_),(1,_)] func7 O ntmps7 O O hG ?_;intro a H;refine kP H (SR fun _ K1=>Ra O (av K1 O (SQ fun _ K2=>SR fun _ K3=>Rm O ?_)));clear H K1;intro a H;refine s_call FY H wn O (MO _ _ H.ro la _ hva V) O ?_;clear H;rintro v7 G7 a w rfl Bh H;refine kH H (Rn O (Rm O (Sp 9 O ?_ ?_))) <;> clear H
 ·intro h9 a H
  try have p9:=dT h9
  refine kH H (aV h9 O (Pt h9 O (Kz K3 (Ct O O (SR fun _ K4=>Ra O (av K4 O ?_))))));clear H K3 K4;intro a H;refine aU ?_;refine (bK H results7 (.cons (aG H O) (.cons (aG H O) .nil)) ?_).1
  first
  | exact H.rt ⟨_,by rw [aN ⟨hda,hdb⟩],by rw [aN ⟨hda,hdb⟩];exact JY⟩
  | exact H.rt ⟨_,by rw [aL (by simp_all)],by rw [aL (by simp_all)];exact aF.lD O Y⟩
 intro h9 a H
 try have p9:=dF h9
 refine kH H (YM h9 O ?_);clear H;intro a H;refine s_call FY H (wg H O O h9) O (MO _ _ H.ro lb _ (hvb.mono Bh) V) O ?_;clear H;rintro v11 BI a w rfl sO H;refine kH H (YN h9 O (Pf h9 O (Kz K3 (Cd O ?_ ?_)))) <;> clear H K3
 ·intro mR a H
  try have yS:=dT mR
  refine kP H (SR fun _ K5=>Ra O (av K5 O ?_));clear H K5;intro a H;refine aU ?_;refine (bK H results7 (.cons (aG H O) (.cons (aG H O) .nil)) ?_).1
  first
  | exact H.rt ⟨_,by rw [aN ⟨hda,hdb⟩],by rw [aN ⟨hda,hdb⟩];exact JY⟩
  | exact H.rt ⟨_,by rw [aL (by simp_all)],by rw [aL (by simp_all)];exact aF.lD O Y⟩
 intro mR a H
 try have yS:=dF mR
 refine kP H (Kc K2 (SR fun _ K6=>Rm O ?_));clear H K2;intro a H;refine s_call MV H wn O (Mt _ _ H.ro la _ ((hva.mono Bh).mono sO) V (DV (by simpa using h9))) O ?_;clear H;rintro v15 Ar a w UG sP H;obtain ⟨xA,xn,xc,rfl⟩:=UG.form;refine kH H (Rm O ?_);clear H;intro a H;refine s_call MV H wn O (Mt _ _ H.ro lb _ (((hvb.mono Bh).mono sO).mono sP) V (DV (by simpa using mR))) O ?_;clear H;rintro v17 vM a w UJ mE H;obtain ⟨yA,yn,yc,rfl⟩:=UJ.form
 have hda:ig la=true:=by simpa using h9
 have hdb:ig lb=true:=by simpa using mR
 refine s_call abd H wn O (afn _ _ H.ro (fun b o h=>mE _ _ (sP _ _ (sO _ _ (Bh _ _ (h0 b o h))))) iX.kind iX.text (iM la) (iM lb) _ _ _ (UG.mono mE) UJ (fun x _=>RI x) (fun x _=>RI x) (IL hT hza hda) (IL hT hzb hdb) V V) O ?_;clear H;rintro v18 QI a w ⟨x18,rfl,JY⟩ hm18 H;obtain ⟨zA,zn,zc,rfl⟩:=JY.form;(iterate 2 refine eZ H wn O O O ?_;clear H;intro a H);refine kH H (Ra O (av K6 O ?_));clear H K6;intro a H;refine aU ?_;refine (bK H results7 (.cons (aG H O) (.cons (aG H O) .nil)) ?_).1
 first
 | exact H.rt ⟨_,by rw [aN ⟨hda,hdb⟩],by rw [aN ⟨hda,hdb⟩];exact JY⟩
 | exact H.rt ⟨_,by rw [aL (by simp_all)],by rw [aL (by simp_all)];exact aF.lD O Y⟩
theorem Ms (G:GH) (w0:World) (hG:Hold G w0) (l:List aD) (v:ak) (hv:aF G (.sl 11 (l.map aD.dat)) v) (hz:cK l<=67108864) :
  Calls prog 8 #[v] w0 (bQ w0 G fun u G'=>∃ x,u=.tuple #[x,vi (if ig l=true then 0 else 12)]∧aF G' (.sl 1 ((if ig l=true then (iM l).map iX.text else []).map qo)) x):=by
 have hll:=yj l;have hbl:=BU l;have hb3:=zF l;have hml:maxLen=9223372036854775807:=rfl;obtain ⟨A,n,c,rfl⟩:=hv.form;refine eN [(0,_)] func8 O ntmps8 O O hG ?_;intro a H;refine kP H (SR fun _ K1=>Ra O (av K1 O (SQ fun _ K2=>SR fun _ K3=>Rm O ?_)));clear H K1;intro a H;refine s_call FY H wn O (MO _ _ H.ro l _ hv V) O ?_;clear H;rintro v8 G8 a w rfl Ej H;refine kH H (Rn O (Kz K3 (Cd O ?_ ?_))) <;> clear H K3
 ·intro h9 a H
  try have p9:=dT h9
  refine kP H (SR fun _ K4=>Ra O (av K4 O ?_));clear H K4;intro a H;refine aU ?_;refine (bK H results8 (.cons (aG H O) (.cons (aG H O) .nil)) ?_).1
  first
  | exact H.rt ⟨_,by rw [aN hda],by rw [aN hda];exact hrep⟩
  | exact H.rt ⟨_,by rw [aL (by simp_all)],by rw [aL (by simp_all)];exact aF.lD O Y⟩
 intro h9 a H
 try have p9:=dF h9
 refine kP H (Kc K2 (SR fun _ K5=>av K5 O (SQ fun _ K6=>SR fun _ K7=>Rm O ?_)));clear H K2 K5;intro a H;refine s_call MV H wn O (Mt _ _ H.ro l _ (hv.mono Ej) V (DV (by simpa using h9))) O ?_;clear H;rintro v11 BI a w Oe sO H;obtain ⟨xA,xn,xc,rfl⟩:=Oe.form
 obtain rfl:xn=(iM l).length:=by have:=Oe.len;rwa [bJ] at this
 refine kH H (Rl uI O (Rm O (Kz K7 (SB ?_))));clear H K7;intro a H;skip;refine dY (ι:=Nat × ak × OL) (Tc:=[(11,_),(12,_)]) (Lc:=[]) (fun gh=>[(4,gh.2.1),(13,vi gh.1)]) (fun gh=>[]++gh.2.2) (fun gh=>BI) (fun gh=>gh.1<=(iM l).length∧aW 9 1 gh.2.1 gh.1 (((iM l).take gh.1).map fun x=>.string x.text) gh.2.2) (fun gh=>(iM l).length - gh.1) ((0,.slice none 0 0,[])) (by exact H.sub ⟨O,O,O,O,aI⟩) ?_ ?_
 ·exact ⟨V,aW.nil⟩
 clear H;rintro ⟨k,v,Lo⟩ a w hI H;dsimp only at hI H;obtain ⟨hk,hrw⟩:=hI;dsimp only [lca,bW] at H;refine kP H (SR fun _ K8=>Rc O (Kz K8 (SQ fun _ K9=>Cd O ?_ ?_))) <;> clear H K8
 ·intro eD a H
  try have jC:=dT eD
  have hk2:k < (iM l).length:=by omega
  obtain ⟨B,hB⟩:∃ B,B=(iM l)[k]:=⟨_,O⟩;obtain ⟨b,o,cs,rfl,hcl,hrow,hr⟩:=Oe.at_ k B.dat (by simp [hk2,hB]);obtain rfl:=IK hr;obtain ⟨vA,vc,rfl,GY,GZ⟩:=hrw.shape;refine kP H (Kc K9 (SQ fun _ aP=>SB (SR fun _ aT=>Ri uI nS O O ?_)));clear H K9;intro a H;refine bV nS (cs:=[_,_]) H wn O O (fun j v hj=>H.hp.aS (hrow j v hj)) O ?_;clear H;intro a H;refine gX nS H wn O ?_;clear H;intro b6 a w hb6 H;refine bg nS 0 (vs:=[_,_]) H wn O ?_;clear H;intro w H;refine aT _ _ ?_;clear aT;refine kP H (SC (Rm O (fG F4 iW 0 O O ?_)));clear H;intro a H;refine eU kX iW [_] [_] H wn O O O O O (by intro i q h;match i,h with|0,h=>exact h|n+1,h=>simp at h) O O ?_;clear H;intro b20 a w adH H;refine dX (Li:=[_,_]) (Lo:=Lo) (news:=[.string B.text]) kX iW O O H wn O O hrw O (H.hp.bR 0 O O) O V V O ?_;clear H;intro v21 LP a w JV H;refine kH H (bO aP O (SC (Rd O (Rm O ?_))));clear H aP;intro a H;refine aj ?_;refine bE ((k+1,v21,LP)) (by exact (H.dz (Pl:=[_,_]) (bZ:=[]) [] Y O).sub ⟨O,O,O,O,aI⟩) ?_
  (try dsimp only);exact ⟨V,by rw [jq hk2,jw,<- hB];exact JV⟩
 intro eD a H
 try have jC:=dF eD
 refine dJ ?_;refine K6 _ _ ?_;clear K6;refine gy (fun _ bH=>?_)
 obtain rfl:k=(iM l).length:=by omega
 have hda:ig l=true:=by simpa using h9
 obtain ⟨Gr,hmr,hrep,H⟩:=St.kF (Li:=[]) (Lo:=Lo) H hrw (rows:=((iM l).map iX.text).map qo) (by simp) (by rw [qE,show (iM l).map (fun x=>Value.string x.text)=((iM l).map iX.text).map Value.string from by simp [Function.comp_def]];exact PZ _ _);obtain ⟨rA,rn,rc,rfl⟩:=hrep.form;refine kP H (SC (Rm O (Ra O (bO bH O ?_))));clear H bH;intro a H;refine aU ?_;refine (bK H results8 (.cons (aG H O) (.cons (aG H O) .nil)) ?_).1
 first
 | exact H.rt ⟨_,by rw [aN hda],by rw [aN hda];exact hrep⟩
 | exact H.rt ⟨_,by rw [aL (by simp_all)],by rw [aL (by simp_all)];exact aF.lD O Y⟩
theorem abn:bL 34:=bN func34 O
set_option maxHeartbeats 2000000 in
theorem VD (G:GH) (w0:World) (hG:Hold G w0) (l:List aD) (v:ak) (hv:aF G (.sl 11 (l.map aD.dat)) v) (hz:cK l<=67108864) (he:jW l=0) :
  Calls prog 20 #[v] w0 (bQ w0 G fun u G'=>∃ x y,u=.tuple #[x,y]∧aF G' (.sl 1 (((iM l).map iX.text).map qo)) x∧aF G' (.sl 1 (((iM l).map iX.kind).map gJ)) y):=by
 have hll:=yj l;have hbl:=BU l;have hb3:=zF l;have hml:maxLen=9223372036854775807:=rfl;obtain ⟨A,c,rfl,hc1,hc2,hg⟩:=hv.slice;rw [bJ] at *;refine eN [(0,_)] func20 O ntmps20 O O hG ?_;intro a H;refine kP H (SR fun _ K1=>Ra O (av K1 O (SR fun _ K2=>Rm O ?_)));clear H K1;intro a H;refine s_call MW H wn O (Lm _ _ H.ro l _ hv V) O ?_;clear H;rintro v15 Ar a w ⟨x,rfl,hrep⟩ sP H;obtain ⟨A15,n15,c15,rfl⟩:=hrep.form
 obtain rfl:n15=(lq l).length:=by have:=hrep.len;rwa [bJ] at this
 refine kH H (Rm O ?_);clear H;intro a H;(iterate 2 refine eZ H wn O O O ?_;clear H;intro a H);refine kH H (Ra O (av K2 O (SQ fun _ K3=>SR fun _ K4=>av K4 O (SB ?_))));clear H K2 K4;intro a H;skip;refine dY (ι:=Nat × ak × ak × OL × OL × GH) (Tc:=[(0,_),(4,_)]) (Lc:=[]) (fun gh=>[(2,gh.2.1),(3,gh.2.2.1),(6,vi gh.1)]) (fun gh=>[]++gh.2.2.2.1++gh.2.2.2.2.1) (fun gh=>gh.2.2.2.2.2) (fun gh=>gh.1<=(lq l).length∧aW 9 1 gh.2.1 gh.1 (((iM l).take gh.1).map fun x=>.string x.text) gh.2.2.2.1∧aW 3 1 gh.2.2.1 gh.1 (((iM l).take gh.1).map fun x=>vi x.kind) gh.2.2.2.2.1∧(∀ b o,Ar b=some o->gh.2.2.2.2.2 b=some o)) (fun gh=>(lq l).length - gh.1) ((0,.slice none 0 0,.slice none 0 0,[],[],Ar)) (by exact H.sub ⟨O,O,O,O,O,aI⟩) ?_ ?_
 ·exact ⟨V,aW.nil,aW.nil,fun _ _ h=>h⟩
 clear H;rintro ⟨k,vs,vk,Ls,Lk,g⟩ a w hI H;dsimp only at hI H;obtain ⟨hk,hrs,En,hgm⟩:=hI;dsimp only [lca,bW] at H;refine kP H (SQ fun _ K5=>SR fun _ K6=>Rm O (Rm O (Rl wN O (Rc O (Kz K6 (Cd O ?_ ?_)))))) <;> clear H K6
 ·intro h21 a H
  try have mH:=dT h21
  have hk2:k < (lq l).length:=by omega
  obtain ⟨B,hB⟩:∃ B,B=(lq l)[k]:=⟨_,O⟩;have hBm:B∈lq l:=hB ▸ dV hk2;obtain ⟨b,o,cs,rfl,hcl,hrow,hr⟩:=(hrep.mono hgm).at_ k (uf B) (by simp [hk2,hB]);obtain rfl:=Mv hr;have hin:=RJ he hBm;have oG:∀ b o,G b=some o->g b=some o:=fun b o h=>hgm b o (sP b o h);have hbz:=Mw l B;obtain ⟨sA,sc,rfl,hsc1,hsc2⟩:=hrs.shape;obtain ⟨kA,kc,rfl,ajQ,ajR⟩:=En.shape;refine kP H (Kc K5 (SQ fun _ K7=>SB (SR fun _ K8=>Rm O (Rm O (Rm O (Ri wN lY O O ?_))))));clear H K5;intro a H;refine bV lY (cs:=[_,_,_,_]) H wn O O (fun j v hj=>H.hp.aS (hrow j v hj)) O ?_;clear H;intro a H;refine s_call Tn H wn O (V6 _ _ H.ro l B _ (hv.mono oG) V he hBm hin) O ?_;clear H;rintro v30 Dr a w rfl jr H;refine kH H (Rm O ?_);clear H;intro a H;(iterate 2 refine eZ H wn O O O ?_;clear H;intro a H);refine kH H (Ra O (av K8 O (SQ fun _ K9=>SR fun _ aP=>Rm O (Rm O (Ri wN lY O O (Rf D8 O (Rg aC O (aK jr (hrow 0 _ O)) (Rc O (Kz aP (Cd O ?_ ?_)))))))))) <;> clear H K8 aP
  ·intro Ck a H
   try have p38:=dT Ck
   obtain ⟨i,xi,hi,hfi,Ou⟩:=Wp (l:=l) (t:=B.from_) he hin.2.1 (by have:=hin.2;omega);obtain ⟨bi,oi,pA,pn,pc,dA,dn,dc,yA,yn,yc,fA,fn,fc,Kk,rn,rc,rfl,hrow2,hhd,hfl,hrr⟩:=zL hi hg;obtain ⟨R,hR⟩:∃ R,R=l[i].rows:=⟨_,O⟩;rw [<- hR] at hrr
   obtain rfl:rn=R.length:=by have:=hrr.len;rwa [bJ] at this
   have hbk:ug l B=nE R:=by rw [ug,aN p38,Wx hi hfi,hR]
   rw [hbk] at hbz;refine kP H (SR fun _ aT=>Rm O (Rm O (Rm O (Ri wN lY O O (Rf Jj O (Rg aC O (aK jr (hrow 1 _ O)) ?_))))));clear H;intro a H;refine s_call Tm H wn O (Wo _ _ H.ro l B.from_ _ ((hv.mono oG).mono jr) V) O ?_;clear H;rintro v46 QL a w rfl UD H;rw [Ou] at H;dsimp only at H;refine kH H (Rm O ?_);clear H;intro a H;(iterate 3 refine eZ H wn O O O ?_;clear H;intro a H);refine kH H (Ra O (Ra O (av aT O (SR fun _ bH=>av bH O (SR fun _ bG=>av bG O (SB ?_))))));clear H aT bH bG;intro a H;skip;refine dY (ι:=Nat × GH) (Tc:=[(0,_),(2,_),(3,_),(4,_),(6,_),(9,_)]) (Lc:=[]) (fun gh=>[(7,.string (kM (nE (R.take gh.1)))),(12,vi gh.1)]) (fun gh=>[]++Ls++Lk) (fun gh=>gh.2) (fun gh=>gh.1<=R.length∧(∀ b o,g b=some o->gh.2 b=some o)) (fun gh=>R.length - gh.1) ((0,QL)) (by exact H.sub ⟨O,O,O,O,O,O,O,O,aI⟩) ?_ ?_
   ·exact ⟨V,fun b o h=>UD _ _ (jr _ _ h)⟩
   clear H;rintro ⟨j,g2⟩ a w hI H;dsimp only at hI H;obtain ⟨hj,hgg⟩:=hI;dsimp only [lca,bW] at H;refine kP H (SQ fun _ bX=>SR fun _ dG=>Rm O (Rm O (Rl iB O (Rc O (Rm O (Sp 54 O ?_ ?_)))))) <;> clear H
   ·intro oF a H
    try have p54:=dT oF
    refine kH H (YM oF O (YM oF O (YM oF O (YI iB fB oF O O (YF uW oF O (YR vH oF O (aK hgg (aK oG (hrow2 10 _ O))) (YL mK oF O (YC oF O (Pt oF O (Kz dG (Cd O ?_ ?_))))))))))) <;> clear H dG
    ·intro h63 a H
     try have p63:=dT h63
     have hj2:j < R.length:=by omega
     obtain ⟨br,or_,cr,rfl,Uq,hrow3,hr3⟩:=(hrr.mono fun b o h=>hgg _ _ (oG b o h)).at_ j R[j].dat (by simp [hj2]);obtain ⟨qA,qn,qc,uA,un,uc,zA,zn,zc,xA,xn,xc,rfl,hh3,hf3⟩:=hr3.row;have hpz:=Kt (l:=R) (k:=j);have Oj:=Kt (l:=R) (k:=j+1);have hbs:=Ww hj2;have NS:=gZ List.length hbs;rw [fQ] at NS;have hrz:=Dn (dV hj2);have hre:=wP R[j];have hrl:=Kr R;have hRl:=E9 R;have hie:=oO l[i];rw [<- hR] at hie;have him:=BH (dV hi);refine kP H (Kc bX (SQ fun _ dR=>SB (SC (Rm O (Rm O (Rm O (Ri iB fB O O (Rf uW O (Rg vH O (aK hgg (aK oG (hrow2 10 _ O))) (Rm O (Ri mK jo O O ?_)))))))))));clear H bX;intro a H;refine bV jo (cs:=[_,_,_,_,_,_]) H wn O O (fun j v hj=>H.hp.aS (hrow3 j v hj)) O ?_;clear H;intro a H;refine s_call abn H wn O (afu _ _ H.ro R[j].cells _ _ _ _ _ _ hf3 V) O ?_;clear H;rintro v75 G75 a w rfl aei H;refine ED H wn O O (by rw [xg,xg];omega) rfl ?_;clear H;intro a H;rw [<- AX,<- hbs] at H;refine kH H (bO dR O (SC (Rm O (Rd O (Ra O ?_)))));clear H dR;intro a H;refine aj ?_;refine bE ((j+1,_)) (by exact H.sub ⟨O,O,O,O,O,O,O,O,aI⟩) ?_
     (try dsimp only);exact ⟨V,fun b o h=>aei _ _ (hgg b o h)⟩
    intro h63 a H
    try have p63:=dF h63
    refine dJ ?_;refine K9 _ _ ?_;clear K9;refine gy (fun _ fu=>?_)
    first
     | rw [show R.take j=R from gG V,<- hbk] at H
     | rw [<- hbk] at H
    refine kP H (SC (Rm O (Rm O ?_)));clear H;intro a H;refine eU kX iW [_] [_] H wn O O O O O (by intro i q h;match i,h with|0,h=>exact h|n+1,h=>simp at h) O O ?_;clear H;intro Zd a w adN H;have H:=H.perm (oL [_] [] Ls Lk);refine dX (Li:=[_]++([]++Lk)) (Lo:=Ls) (news:=[.string (yI l B).text]) kX iW O O H wn O O hrs O (H.hp.bR 0 O O) O V V O ?_;clear H;intro v80 wU a w Om H;have H:=H.perm (oL [_] [] wU Lk).symm;dsimp only [List.nil_append,List.cons_append] at H;refine kH H (bO fu O (SC (Rm O (Rm O (Rm O (Ri wN lY O O (Rf D8 O (Rg aC O (by first|exact aK hgg (hrow 0 _ O)|exact aK jr (hrow 0 _ O)) ?_))))))));clear H fu;intro a H;refine eU cB aC [_] [_] H wn O O O O O (by intro i q h;match i,h with|0,h=>exact h|n+1,h=>simp at h) O O ?_;clear H;intro Ze a w adO H;have H:=H.cast (Ev [_,_] [] wU Lk);refine dX (Li:=[_,_]++([]++wU)) (Lo:=Lk) (news:=[vi (yI l B).kind]) cB aC O O H wn O O En O (H.hp.bR 0 O O) O V V O ?_;clear H;intro Qy Fx a w Oo H;have H:=H.cast (Ev [_,_] [] wU Fx).symm;dsimp only [List.nil_append,List.cons_append] at H;refine kH H (bO K7 O (SC (Rm O (Rd O (Ra O ?_)))));clear H K7;intro a H;refine aj ?_;refine bE ((k+1,v80,Qy,wU,Fx,_)) (by exact (H.dz (Pl:=[_,_]) (bZ:=[]) [] Y O).sub ⟨O,O,O,O,O,aI⟩) ?_
    (try dsimp only);exact ⟨V,by rw [DK hk2,<- hB,jw];exact Om,by rw [DK hk2,<- hB,jw];exact Oo,fun b o h=>by first|exact hgg _ _ (hgm b o h)|exact jr _ _ (hgm b o h)⟩
   intro oF a H
   try have p54:=dF oF
   exact absurd V p54
  intro Ck a H
  try have p38:=dF Ck
  have hbk:ug l B=Ia l B:=by rw [ug,aL p38]
  refine lV ?_;refine K9 _ _ ?_;clear K9;refine gy (fun _ gF=>?_)
  first
   | rw [show R.take j=R from gG V,<- hbk] at H
   | rw [<- hbk] at H
  refine kP H (SC (Rm O (Rm O ?_)));clear H;intro a H;refine eU kX iW [_] [_] H wn O O O O O (by intro i q h;match i,h with|0,h=>exact h|n+1,h=>simp at h) O O ?_;clear H;intro Zd a w adN H;have H:=H.perm (oL [_] [] Ls Lk);refine dX (Li:=[_]++([]++Lk)) (Lo:=Ls) (news:=[.string (yI l B).text]) kX iW O O H wn O O hrs O (H.hp.bR 0 O O) O V V O ?_;clear H;intro v80 wU a w Om H;have H:=H.perm (oL [_] [] wU Lk).symm;dsimp only [List.nil_append,List.cons_append] at H;refine kH H (bO gF O (SC (Rm O (Rm O (Rm O (Ri wN lY O O (Rf D8 O (Rg aC O (by first|exact aK hgg (hrow 0 _ O)|exact aK jr (hrow 0 _ O)) ?_))))))));clear H gF;intro a H;refine eU cB aC [_] [_] H wn O O O O O (by intro i q h;match i,h with|0,h=>exact h|n+1,h=>simp at h) O O ?_;clear H;intro Ze a w adO H;have H:=H.cast (Ev [_,_] [] wU Lk);refine dX (Li:=[_,_]++([]++wU)) (Lo:=Lk) (news:=[vi (yI l B).kind]) cB aC O O H wn O O En O (H.hp.bR 0 O O) O V V O ?_;clear H;intro Qy Fx a w Oo H;have H:=H.cast (Ev [_,_] [] wU Fx).symm;dsimp only [List.nil_append,List.cons_append] at H;refine kH H (bO K7 O (SC (Rm O (Rd O (Ra O ?_)))));clear H K7;intro a H;refine aj ?_;refine bE ((k+1,v80,Qy,wU,Fx,_)) (by exact (H.dz (Pl:=[_,_]) (bZ:=[]) [] Y O).sub ⟨O,O,O,O,O,aI⟩) ?_
  (try dsimp only);exact ⟨V,by rw [DK hk2,<- hB,jw];exact Om,by rw [DK hk2,<- hB,jw];exact Oo,fun b o h=>by first|exact hgg _ _ (hgm b o h)|exact jr _ _ (hgm b o h)⟩
 intro h21 a H
 try have mH:=dF h21
 refine dJ ?_;refine K3 _ _ ?_;clear K3;refine kP H (SR fun _ fU=>Rm O (Rm O (Ra O (av fU O ?_))));clear H fU;intro a H;refine aU ?_
 obtain rfl:k=(lq l).length:=by omega
 obtain ⟨Gr,hmr,aeB,H⟩:=St.kF (Li:=Ls) (Lo:=Lk) H En (rows:=((iM l).map iX.kind).map gJ) (by simp [hb3]) (by rw [gG V,show (iM l).map (fun x=>vi x.kind)=((iM l).map iX.kind).map vi from by simp [Function.comp_def]];exact yQ _ _);obtain ⟨Gr2,aej,aez,H⟩:=St.kF (Li:=[]) (Lo:=Ls) H hrs (rows:=((iM l).map iX.text).map qo) (by simp [hb3]) (by rw [gG V,show (iM l).map (fun x=>Value.string x.text)=((iM l).map iX.text).map Value.string from by simp [Function.comp_def]];exact PZ _ _);refine (bK H results20 (.cons (aG H O) (.cons (aG H O) .nil)) ?_).1;exact H.rt ⟨_,_,O,aez,aeB.mono aej⟩
theorem MU:bL 13:=bN func13 O
theorem X5 (l m:List aD):cK (l++m)=cK l+cK m:=by simp [cK,HZ]
theorem X7 (l m:List dQ):kY (l++m)=kY l+kY m:=by simp [kY,HZ]
theorem XY (l m:List dO):lZ (l++m)=lZ l+lZ m:=by simp [lZ,HZ]
theorem aiN {l:List aD} {k:Nat} (h:k < l.length):cK (l.take (k+1))=cK (l.take k)+(1+iy l[k].dat):=by rw [jq h,X5];simp [cK,fM]
theorem aiO {l:List dQ} {k:Nat} (h:k < l.length):kY (l.take (k+1))=kY (l.take k)+(1+iy l[k].dat):=by rw [jq h,X7];simp [kY,fM]
theorem aiM {l:List dO} {k:Nat} (h:k < l.length):lZ (l.take (k+1))=lZ (l.take k)+(1+iy l[k].dat):=by rw [jq h,XY];simp [lZ,fM]
theorem X6 (l:List aD) (k:Nat) (h:k<=l.length):cK (l.take k)+(l.length - k)<=cK l:=by
 have h1:=X5 (l.take k) (l.drop k);rw [List.take_append_drop] at h1;have h2:=yj (l.drop k);rw [List.length_drop] at h2
 omega
theorem X8 (l:List dQ) (k:Nat):kY (l.take k)<=kY l:=by
 have:=X7 (l.take k) (l.drop k);rw [List.take_append_drop] at this;omega
theorem XZ (l:List dO) (k:Nat):lZ (l.take k)<=lZ l:=by
 have:=XY (l.take k) (l.drop k);rw [List.take_append_drop] at this;omega
theorem ahU (n:Nat):0<=(n:Int).tdiv 20∧(n:Int).tdiv 20<=n:=by
 rw [Int.tdiv_eq_ediv_of_nonneg V];omega
theorem wH {G:GH} {h:jZ} {pA dA yA:Option Addr} {pn pc dn dc yn yc:Nat} (hh:og G h (.slice pA pn pc) (.slice dA dn dc) (.slice yA yn yc)):pn+dn+yn<=wO h:=by
 have Vf:=QC h;have l1:=hh.props.cells.1;have l2:=hh.ni.cells.1;have l3:=hh.layers.cells.1;have m1:=yZ (h.props.map mg.dat);have m2:=yZ (h.marks.ni.map lI.dat);have m3:=yZ (h.marks.layers.map lQ.dat)
 omega
def Y1 (n:Nat):Prop:=∀ (G:GH) (w0:World),Hold G w0->∀ (l:List aD) (v:ak),aF G (.sl 11 (l.map aD.dat)) v->cK l < n ->
 Calls prog 13 #[v] w0 (bQ w0 G fun u G'=>∃ w d:Int,u=.tuple #[vi w,vi d]∧0<=w∧w<=cK l∧0<=d∧d<=cK l+1)
set_option maxHeartbeats 4000000 in
set_option maxRecDepth 8000 in
theorem Ya:∀ n:Nat,n<=1073741824->Y1 n
 | 0,_=>fun _ _ _ _ _ _ h=>absurd h V
 | n+1,hn=>by
  intro G w0 hG l v hv hz;have ih:=Ya n V;obtain ⟨A,c,rfl,hc1,hc2,hg⟩:=hv.slice;have hml:maxLen=9223372036854775807:=rfl;have hll:=yj l;rw [bJ] at *;refine eN [(0,_)] func13 O ntmps13 O O hG ?_;intro a H;refine kP H (SR fun _ K1=>Ra O (av K1 O (SR fun _ K2=>Rm O (Rl iB O (Ra O (av K2 O (SQ fun _ K3=>SR fun _ K4=>av K4 O (SB ?_))))))));clear H K1 K2 K4;intro a H;skip;refine dY (ι:=Nat × Int × Int × GH) (Tc:=[(0,_)]) (Lc:=[]) (fun gh=>[(2,vi gh.2.1),(3,vi gh.2.2.1),(4,vi gh.1)]) (fun gh=>[]) (fun gh=>gh.2.2.2) (fun gh=>gh.1<=l.length∧0<=gh.2.1∧gh.2.1+gh.1<=l.length+cK (l.take gh.1)∧0<=gh.2.2.1∧gh.2.2.1<=cK l+1∧(∀ b o,G b=some o->gh.2.2.2 b=some o)) (fun gh=>l.length - gh.1) ((0,l.length,1,G)) (by exact H.sub ⟨O,O,O,O,aI⟩) ?_ ?_
  ·exact ⟨V,(by omega:(0:Int)<=(l.length:Int)),by simp [cK,fM],(by decide:(0:Int)<=1),(by omega:(1:Int)<=(cK l:Int)+1),fun _ _ h=>h⟩
  clear H;rintro ⟨i,wt,dp,g⟩ a w hI H;dsimp only at hI H;obtain ⟨hi,hw0,hw1,hd0,hd1,hgm⟩:=hI;have htk:=X6 l i hi;dsimp only [lca,bW] at H;refine kP H (SQ fun _ K5=>SR fun _ K6=>Rm O (Rm O (Rl iB O (Rc O (Rm O (Sp 18 O ?_ ?_)))))) <;> clear H
  ·intro h18 a H
   try have nY:=dT h18
   have hi1:i < l.length:=by omega
   obtain ⟨b,o,pA,pn,pc,dA,dn,dc,yA,yn,yc,fA,fn,fc,rA,rn,rc,rfl,hrow,hhd,hfl,hrw⟩:=zL hi1 hg;have r3:aS g b (o+i*11+3)=some (.string l[i].text):=aK hgm (hrow 3 _ O);have r4:aS g b (o+i*11+4+0)=some (.slice pA pn pc):=aK hgm (hrow 4 _ O);have r7:aS g b (o+i*11+4+1+2)=some (.slice dA dn dc):=aK hgm (hrow 7 _ O);have r8:aS g b (o+i*11+4+1+3)=some (.slice yA yn yc):=aK hgm (hrow 8 _ O);have r9:aS g b (o+i*11+9)=some (.slice fA fn fc):=aK hgm (hrow 9 _ O);have V8:aS g b (o+i*11+10)=some (.slice rA rn rc):=aK hgm (hrow 10 _ O);have q1:=ahU l[i].text.size;have hzi:=oO l[i];have hwh:=wH hhd;have hzs:=aiN hi1;have Vh:=X6 l (i+1) V;have hzm:=BH (dV hi1);have hrl:=E9 l[i].rows
   obtain rfl:rn=l[i].rows.length:=by
    obtain ⟨_,_,e,-⟩:=hrw.slice;obtain ⟨-,e2,-⟩:=Value.slice.inj e;rw [e2,bJ]
   refine kH H (YM h18 O (YC h18 O (Pt h18 O (Kz K6 (Cd O ?_ ?_))))) <;> clear H K6
   ·intro h21 a H
    try have mH:=dT h21
    refine kP H (Kc K5 (SQ fun _ K7=>SB (SQ fun _ K8=>?_)));clear H K5;intro a H;refine dI hmx [[],[],[],[1,2],[1,2,3],ra 1 4,ra 1 5,ra 1 6,ra 0 8,[],[],[9,10],[9,10,11],ra 9 4,ra 9 5,ra 9 6,ra 9 7,ra 0 17,[],[],[18,19],[18,19,20],ra 18 4,ra 18 5,ra 18 6,ra 18 7,ra 0 26,[],[],[27,28],[27,28,29],ra 27 4,ra 27 5,ra 27 6,ra 0 34,ra 0 35] [35] Z [_,_,_,_,_,_,_,_,_,_,_,_,_,_,_,_,_,_,_,_,_,_,_,_,_,_,_,_,_,_,_,_,_,vi ((l[i].text.size:Int).tdiv 20),_] H (aH (Z0 O (Rm O)) (Z0 O (Rm O)) (Z0 O (Rm O)) (Z2 1 25 2 26 O (Ri iB fB O O)) (aH (Z1 3 27 O (Rf zK O)) (Z1 4 28 O (Rf Ci O)) (X1 5 29 O fun hG=>Rg Dh O (aK hG r4)) (Z1 6 30 O (Rl wK O)) (aH (Z2 0 24 7 31 O (Rd O)) (Z0 O (Rm O)) (Z0 O (Rm O)) (Z2 9 33 10 34 O (Ri iB fB O O)) (aH (Z1 11 35 O (Rf zK O)) (Z1 12 36 O (Rf pW O)) (Z1 13 37 O (Rf Cg O)) (X1 14 38 O fun hG=>Rg Di O (aK hG r7)) (aH (Z1 15 39 O (Rl wL O)) (Z2 8 32 16 40 O (Rd O)) (Z0 O (Rm O)) (Z0 O (Rm O)) (aH (Z2 18 42 19 43 O (Ri iB fB O O)) (Z1 20 44 O (Rf zK O)) (Z1 21 45 O (Rf pW O)) (Z1 22 46 O (Rf Ch O)) (aH (X1 23 47 O fun hG=>Rg Dj O (aK hG r8)) (Z1 24 48 O (Rl wM O)) (Z2 17 41 25 49 O (Rd O)) (Z0 O (Rm O)) (aH (Z0 O (Rm O)) (Z2 27 51 28 52 O (Ri iB fB O O)) (Z1 29 53 O (Rf A9 O)) (X1 30 54 O fun hG=>Rg iW O (aK hG r3)) (aH (Z1 31 55 O (Rv kL O)) ?_ (Z2 26 50 33 57 O (Rd O)) (fT O) fD))))))))) ?_
    ·refine pK 32 56 O O fun _ a w G1 hG HT H fin=>?_;refine WS _ H wn O O V O V V O ?_;clear H;intro a H;exact fin H iJ O
    clear H;intro a w G Gf H hv;have H:=H.au (hv 34 58 O O) O;clear hv;refine kH H (Ra O ?_);clear H;intro a H;refine aj ⟨O,?_⟩;refine K8 _ _ ?_;clear K8;refine kP H (SR fun _ K9=>Rm O (Rm O (Ri iB fB O O (Rf D6 O (Rg lG O (aK Gf r9) ?_)))));clear H;intro a H;refine s_call MU H wn O (ih _ _ H.ro l[i].flow _ (hfl.mono fun b o h=>Gf _ _ (hgm b o h)) V) O ?_;clear H;rintro v65 G65 a w ⟨w65,d65,rfl,k1,k2,k3,k4⟩ aeg H;refine kH H (Rm O ?_);clear H;intro a H;(iterate 2 refine eZ H wn O O O ?_;clear H;intro a H);refine kH H (Ra O (av K9 O (SR fun _ aP=>Rm O (Rm O (Rd O (Rm O (Rm O (Rd O ?_))))))));clear H K9;intro a H;refine KF H wn O O O ?_;clear H;intro a H;refine kH H (Ra O (av aP O (SR fun _ aT=>av aT O (SB ?_))));clear H aP aT;intro a H;skip;refine dY (ι:=Nat × Int × Int × GH) (Tc:=[(0,_),(4,_)]) (Lc:=[]) (fun gh=>[(2,vi gh.2.1),(3,vi gh.2.2.1),(7,vi gh.1)]) (fun gh=>[]) (fun gh=>gh.2.2.2) (fun gh=>gh.1<=l[i].rows.length∧0<=gh.2.1∧gh.2.1<=wt+pn+dn+yn+(l[i].text.size:Int).tdiv 20+w65+kY (l[i].rows.take gh.1)∧0<=gh.2.2.1∧gh.2.2.1<=cK l+1∧(∀ b o,g b=some o->gh.2.2.2 b=some o)) (fun gh=>l[i].rows.length - gh.1) ((0,_,_,_)) (by exact H.sub ⟨O,O,O,O,O,aI⟩) ?_ ?_
    ·exact ⟨V,by dsimp only;omega,by dsimp only;simp [kY,fM],by dsimp only;omega,by dsimp only;omega,fun b o h=>aeg _ _ (Gf _ _ h)⟩
    clear H;rintro ⟨j,wj,dj,g2⟩ a w hI H;dsimp only at hI H;obtain ⟨hj,hx0,hx1,hx2,hx3,hgg⟩:=hI;have gH:=fun b o h=>hgg _ _ (hgm b o h);have hrt:=X8 l[i].rows j;dsimp only [lca,bW] at H;refine kP H (SQ fun _ bH=>SR fun _ bG=>Rm O (Rm O (Rm O (Ri iB fB O O (Rf uW O (Rg vH O (aK hgg V8) (Rl mK O (Rc O (Rm O (Sp 83 O ?_ ?_)))))))))) <;> clear H
    ·intro Bd a H
     try have p83:=dT Bd
     have hj1:j < l[i].rows.length:=by omega
     obtain ⟨V9,rc',e',-,-,hrg⟩:=hrw.slice;obtain ⟨FV,-,-⟩:=Value.slice.inj e';subst FV;obtain ⟨b1,o1,cs1,rfl,-,xM,Ot⟩:=hrg j l[i].rows[j].dat (by simp [hj1]);obtain ⟨qA,qn,qc,uA,un,uc,zA,zn,zc,xA,xn,xc,rfl,hh1,hfc⟩:=Ot.row;replace xM:=fun j u hj=>aK gH (xM j u hj);have hwr:=wH hh1;have hr2:=aiO hj1;have akc:=X8 l[i].rows (j+1);have hre:=wP l[i].rows[j];have hrm:=Dn (dV hj1)
     obtain rfl:xn=l[i].rows[j].cells.length:=by
      obtain ⟨_,_,e,-⟩:=hfc.slice;obtain ⟨-,e2,-⟩:=Value.slice.inj e;rw [e2,bJ]
     have hcl:=La l[i].rows[j].cells;refine kH H (YM Bd O (YC Bd O (Pt Bd O (Kz bG (Cd O ?_ ?_))))) <;> clear H bG
     ·intro Nz a H
      try have p86:=dT Nz
      refine kP H (Kc bH (SQ fun _ bX=>SB (SR fun _ dG=>Rm O (Rm O (Ri iB fB O O (Rf uW O (Rg vH O (aK hgg V8) (Rm O (Ri mK jo O O ?_)))))))));clear H bH;intro a H;refine bV jo (cs:=[_,_,_,_,_,_]) H wn O O (fun j v hj=>H.hp.aS (xM j v hj)) O ?_;clear H;intro a H;refine gX jo H wn O ?_;clear H;intro b8 a w Gm H;refine bg jo 0 (vs:=[_,_,_,_,_,_]) H wn O ?_;clear H;intro w H;refine dG _ _ ?_;clear dG;refine kP H (SR fun _ dR=>Rm O (Rd O (Rf Jh O (fG Ci Dh 0 O O (Rl wK O (Rd O (Rf Jh O (Rf pW O (fG Cg Di 0 O O (Rl wL O (Rd O (Rf Jh O (Rf pW O (fG Ch Dj 0 O O (Rl wM O (Rd O (av dR O (SR fun _ fu=>av fu O (SB ?_)))))))))))))))))));clear H dR fu;intro a H;skip;refine dY (ι:=Nat × Int × Int × GH) (Tc:=[(0,_),(4,_),(7,_),(8,_)]) (Lc:=[(_,_)]) (fun gh=>[(2,vi gh.2.1),(3,vi gh.2.2.1),(9,vi gh.1)]) (fun gh=>[]) (fun gh=>gh.2.2.2) (fun gh=>gh.1<=l[i].rows[j].cells.length∧0<=gh.2.1∧gh.2.1<=wj+1+qn+un+zn+lZ (l[i].rows[j].cells.take gh.1)∧0<=gh.2.2.1∧gh.2.2.1<=cK l+1∧(∀ b o,g2 b=some o->gh.2.2.2 b=some o)) (fun gh=>l[i].rows[j].cells.length - gh.1) ((0,_,_,_)) (by exact H.sub ⟨O,O,O,O,O,O,O,aI⟩) ?_ ?_
      ·exact ⟨V,by dsimp only;omega,by dsimp only;simp [lZ,fM],by dsimp only;omega,by dsimp only;omega,fun _ _ h=>h⟩
      clear H;rintro ⟨q,wq,dq,g3⟩ a w hI H;dsimp only at hI H;obtain ⟨hq,hy0,hy1,hy2,hy3,JG⟩:=hI;have nO:=fun b o h=>JG _ _ (gH b o h);have hct:=XZ l[i].rows[j].cells q;dsimp only [lca,bW] at H;refine kP H (SQ fun _ gF=>SR fun _ fU=>Rm O (fG uX vI 0 O O (Rl qx O (Rc O (Rm O (Sp 121 O ?_ ?_)))))) <;> clear H
      ·intro Bc a H
       try have afU:=dT Bc
       have hq1:q < l[i].rows[j].cells.length:=by omega
       obtain ⟨xA',xc',e3',-,-,hcg⟩:=hfc.slice;obtain ⟨e4',-,-⟩:=Value.slice.inj e3';subst e4';obtain ⟨b2,o2,cs2,rfl,-,hrow2,yN⟩:=hcg q l[i].rows[j].cells[q].dat (by simp [hq1]);obtain ⟨aA,an,ac,eA,en,ec,iA,Hf,ic,fA',fn',fc',rfl,Cq,hf2⟩:=yN.cell;replace hrow2:=fun j u hj=>aK nO (hrow2 j u hj);have c1:aS g3 b2 (o2+q*7+1+0)=some (.slice aA an ac):=hrow2 1 _ O;have c4:aS g3 b2 (o2+q*7+1+1+2)=some (.slice eA en ec):=hrow2 4 _ O;have c5:aS g3 b2 (o2+q*7+1+1+3)=some (.slice iA Hf ic):=hrow2 5 _ O;have hwc:=wH Cq;have hc2':=aiM hq1;have ajP:=XZ l[i].rows[j].cells (q+1);have hce:=zk l[i].rows[j].cells[q];have hcm:=E8 (dV hq1);refine kH H (YM Bc O (YC Bc O (Pt Bc O (Kz fU (Cd O ?_ ?_))))) <;> clear H fU
       ·intro Ns a H
        try have afV:=dT Ns
        refine kP H (Kc gF (SQ fun _ jd=>SB (SR fun _ jf=>fG uX vI 0 O O (Rm O (Ri qx mY O O (Rf D7 O (Rg lG O (hrow2 6 _ O) ?_)))))));clear H gF;intro a H;refine s_call MU H wn O (ih _ _ H.ro l[i].rows[j].cells[q].flow _ (hf2.mono nO) V) O ?_;clear H;rintro akn aji a w ⟨E5,I4,rfl,k1,k2,k3,k4⟩ JK H;refine kH H (Rm O ?_);clear H;intro a H;(iterate 2 refine eZ H wn O O O ?_;clear H;intro a H);refine kH H (Ra O (av jf O ?_));clear H jf;intro a H;have OA:=H.get 2 (vi wq) O;have OB:=H.get 3 (vi dq) O;have H:=H.sub (T':=[(0,_),(4,_),(7,_),(8,_),(9,_),(10,_),(11,_)]) ⟨O,O,O,O,O,O,O,aI⟩;refine R9 (hmx) [[],[0],[],[0,1,2],[],[4],[],[4,5,6],ra 4 4,ra 4 5,ra 4 6,ra 4 7,ra 0 12,[],[13],[],[13,14,15],ra 13 4,ra 13 5,ra 13 6,ra 13 7,ra 13 8,ra 0 22,[],[23],[],[23,24,25],ra 23 4,ra 23 5,ra 23 6,ra 23 7,ra 23 8,ra 0 32,[],[],[34],[33,34,35],ra 0 33,ra 0 38] Z ([(2,vi wq,37,false),(3,vi dq,38,false),(137,vi wq,0,true),(138,vi (wq+1),1,true),(139,vi E5,2,true),(140,vi (wq+1+E5),3,true),(141,(aJ b8 (0+5)),4,true),(142,.slice (some ⟨b2,o2,none⟩) l[i].rows[j].cells.length xc,5,true),(143,vi q,6,true),(144,(aJ b2 (o2+q*7)),7,true),(145,(aJ b2 (o2+q*7+1)),8,true),(146,(aJ b2 (o2+q*7+1+0)),9,true),(147,.slice aA an ac,10,true),(148,vi an,11,true),(149,vi (wq+1+E5+an),12,true),(150,(aJ b8 (0+5)),13,true),(151,.slice (some ⟨b2,o2,none⟩) l[i].rows[j].cells.length xc,14,true),(152,vi q,15,true),(153,(aJ b2 (o2+q*7)),16,true),(154,(aJ b2 (o2+q*7+1)),17,true),(155,(aJ b2 (o2+q*7+1+1)),18,true),(156,(aJ b2 (o2+q*7+1+1+2)),19,true),(157,.slice eA en ec,20,true),(158,vi en,21,true),(159,vi (wq+1+E5+an+en),22,true),(160,(aJ b8 (0+5)),23,true),(161,.slice (some ⟨b2,o2,none⟩) l[i].rows[j].cells.length xc,24,true),(162,vi q,25,true),(163,(aJ b2 (o2+q*7)),26,true),(164,(aJ b2 (o2+q*7+1)),27,true),(165,(aJ b2 (o2+q*7+1+1)),28,true),(166,(aJ b2 (o2+q*7+1+1+3)),29,true),(167,.slice iA Hf ic,30,true),(168,vi Hf,31,true),(169,vi (wq+1+E5+an+en+Hf),32,true),(170,vi dq,33,true),(171,vi I4,34,true),(172,vi (I4+1),35,true),(173,vi (max dq (I4+1)),36,true),(2,vi (wq+1+E5+an+en+Hf),37,true),(3,vi (max dq (I4+1)),38,true)]) H ?_ ?_ ?_
        ·exact .cf OA (.cf OB (.ct Z))
        ·clear H;refine aH ?_ ?_ ?_ ?_ (aH ?_ ?_ ?_ ?_ (aH ?_ ?_ ?_ ?_ (aH ?_ ?_ ?_ ?_ (aH ?_ ?_ ?_ ?_ (aH ?_ ?_ ?_ ?_ (aH ?_ ?_ ?_ ?_ (aH ?_ ?_ ?_ ?_ (aH ?_ ?_ ?_ ?_ (eB ?_ (eB ?_ (eB ?_ fD)))))))))))
         ·intro ay a w ah hc hd HT hE;have H:=HT;have H:=H.eP (hE.at 0 O (hd 37 Y Y));have Hb:=H.full;have H:=Hb;clear hc;refine kH H (Rm O ?_);clear H;intro a H;refine aj ⟨O,?_⟩;exact iP 2 O Z (rfl) HT Hb hE H
         ·intro ay a w ah hc hd HT hE;have H:=HT;have H:=H.eP (hE.at 2 O (hc 0 Y));have Hb:=H.full;have H:=Hb;clear hc;refine kH H (Rd O ?_);clear H;intro a H;refine aj ⟨O,?_⟩;exact iP 3 O Z (rfl) HT Hb hE H
         ·intro ay a w ah hc hd HT hE;have H:=HT;have Hb:=H.full;have H:=Hb;clear hc;refine kH H (Rm O ?_);clear H;intro a H;refine aj ⟨O,?_⟩;exact iP 4 O Z (rfl) HT Hb hE H
         ·intro ay a w ah hc hd HT hE;have H:=HT;have H:=H.eP (hE.at 3 O (hc 1 Y));have H:=H.eP (hE.at 4 O (hc 2 Y));have Hb:=H.full;have H:=Hb;clear hc;refine kH H (Rd O ?_);clear H;intro a H;refine aj ⟨O,?_⟩;exact iP 5 O Z (rfl) HT Hb hE H
         ·intro ay a w ah hc hd HT hE;have H:=HT;have Hb:=H.full;have H:=Hb;clear hc;refine kH H (Rf uX O ?_);clear H;intro a H;refine aj ⟨O,?_⟩;exact iP 6 O Z (rfl) HT Hb hE H
         ·intro ay a w ah hc hd HT hE;have H:=HT;have H:=H.eP (hE.at 6 O (hc 4 Y));have Hb:=H.full;have H:=Hb;clear hc;refine kH H (Ro vI 0 O ?_);clear H;intro a H;refine aj ⟨O,?_⟩;exact iP 7 O Z (rfl) HT Hb hE H
         ·intro ay a w ah hc hd HT hE;have H:=HT;have Hb:=H.full;have H:=Hb;clear hc;refine kH H (Rm O ?_);clear H;intro a H;refine aj ⟨O,?_⟩;exact iP 8 O Z (rfl) HT Hb hE H
         ·intro ay a w ah hc hd HT hE;have H:=HT;have H:=H.eP (hE.at 7 O (hc 5 Y));have H:=H.eP (hE.at 8 O (hc 6 Y));have Hb:=H.full;have H:=Hb;clear hc;refine kH H (Ri qx mY O O ?_);clear H;intro a H;refine aj ⟨O,?_⟩;exact iP 9 O Z (rfl) HT Hb hE H
         ·intro ay a w ah hc hd HT hE;have H:=HT;have H:=H.eP (hE.at 9 O (hc 7 Y));have Hb:=H.full;have H:=Hb;clear hc;refine kH H (Rf Ji O ?_);clear H;intro a H;refine aj ⟨O,?_⟩;exact iP 10 O Z (rfl) HT Hb hE H
         ·intro ay a w ah hc hd HT hE;have H:=HT;have H:=H.eP (hE.at 10 O (hc 8 Y));have Hb:=H.full;have H:=Hb;clear hc;refine kH H (Rf Ci O ?_);clear H;intro a H;refine aj ⟨O,?_⟩;exact iP 11 O Z (rfl) HT Hb hE H
         ·intro ay a w ah hc hd HT hE;have H:=HT;have H:=H.eP (hE.at 11 O (hc 9 Y));have Hb:=H.full;have H:=Hb;clear hc;refine kH H (Rg Dh O (aK JK c1) ?_);clear H;intro a H;refine aj ⟨O,?_⟩;exact iP 12 O Z (rfl) HT Hb hE H
         ·intro ay a w ah hc hd HT hE;have H:=HT;have H:=H.eP (hE.at 12 O (hc 10 Y));have Hb:=H.full;have H:=Hb;clear hc;refine kH H (Rl wK O ?_);clear H;intro a H;refine aj ⟨O,?_⟩;exact iP 13 O Z (rfl) HT Hb hE H
         ·intro ay a w ah hc hd HT hE;have H:=HT;have H:=H.eP (hE.at 5 O (hc 3 Y));have H:=H.eP (hE.at 13 O (hc 11 Y));have Hb:=H.full;have H:=Hb;clear hc;refine kH H (Rd O ?_);clear H;intro a H;refine aj ⟨O,?_⟩;exact iP 14 O Z (rfl) HT Hb hE H
         ·intro ay a w ah hc hd HT hE;have H:=HT;have Hb:=H.full;have H:=Hb;clear hc;refine kH H (Rf uX O ?_);clear H;intro a H;refine aj ⟨O,?_⟩;exact iP 15 O Z (rfl) HT Hb hE H
         ·intro ay a w ah hc hd HT hE;have H:=HT;have H:=H.eP (hE.at 15 O (hc 13 Y));have Hb:=H.full;have H:=Hb;clear hc;refine kH H (Ro vI 0 O ?_);clear H;intro a H;refine aj ⟨O,?_⟩;exact iP 16 O Z (rfl) HT Hb hE H
         ·intro ay a w ah hc hd HT hE;have H:=HT;have Hb:=H.full;have H:=Hb;clear hc;refine kH H (Rm O ?_);clear H;intro a H;refine aj ⟨O,?_⟩;exact iP 17 O Z (rfl) HT Hb hE H
         ·intro ay a w ah hc hd HT hE;have H:=HT;have H:=H.eP (hE.at 16 O (hc 14 Y));have H:=H.eP (hE.at 17 O (hc 15 Y));have Hb:=H.full;have H:=Hb;clear hc;refine kH H (Ri qx mY O O ?_);clear H;intro a H;refine aj ⟨O,?_⟩;exact iP 18 O Z (rfl) HT Hb hE H
         ·intro ay a w ah hc hd HT hE;have H:=HT;have H:=H.eP (hE.at 18 O (hc 16 Y));have Hb:=H.full;have H:=Hb;clear hc;refine kH H (Rf Ji O ?_);clear H;intro a H;refine aj ⟨O,?_⟩;exact iP 19 O Z (rfl) HT Hb hE H
         ·intro ay a w ah hc hd HT hE;have H:=HT;have H:=H.eP (hE.at 19 O (hc 17 Y));have Hb:=H.full;have H:=Hb;clear hc;refine kH H (Rf pW O ?_);clear H;intro a H;refine aj ⟨O,?_⟩;exact iP 20 O Z (rfl) HT Hb hE H
         ·intro ay a w ah hc hd HT hE;have H:=HT;have H:=H.eP (hE.at 20 O (hc 18 Y));have Hb:=H.full;have H:=Hb;clear hc;refine kH H (Rf Cg O ?_);clear H;intro a H;refine aj ⟨O,?_⟩;exact iP 21 O Z (rfl) HT Hb hE H
         ·intro ay a w ah hc hd HT hE;have H:=HT;have H:=H.eP (hE.at 21 O (hc 19 Y));have Hb:=H.full;have H:=Hb;clear hc;refine kH H (Rg Di O (aK JK c4) ?_);clear H;intro a H;refine aj ⟨O,?_⟩;exact iP 22 O Z (rfl) HT Hb hE H
         ·intro ay a w ah hc hd HT hE;have H:=HT;have H:=H.eP (hE.at 22 O (hc 20 Y));have Hb:=H.full;have H:=Hb;clear hc;refine kH H (Rl wL O ?_);clear H;intro a H;refine aj ⟨O,?_⟩;exact iP 23 O Z (rfl) HT Hb hE H
         ·intro ay a w ah hc hd HT hE;have H:=HT;have H:=H.eP (hE.at 14 O (hc 12 Y));have H:=H.eP (hE.at 23 O (hc 21 Y));have Hb:=H.full;have H:=Hb;clear hc;refine kH H (Rd O ?_);clear H;intro a H;refine aj ⟨O,?_⟩;exact iP 24 O Z (rfl) HT Hb hE H
         ·intro ay a w ah hc hd HT hE;have H:=HT;have Hb:=H.full;have H:=Hb;clear hc;refine kH H (Rf uX O ?_);clear H;intro a H;refine aj ⟨O,?_⟩;exact iP 25 O Z (rfl) HT Hb hE H
         ·intro ay a w ah hc hd HT hE;have H:=HT;have H:=H.eP (hE.at 25 O (hc 23 Y));have Hb:=H.full;have H:=Hb;clear hc;refine kH H (Ro vI 0 O ?_);clear H;intro a H;refine aj ⟨O,?_⟩;exact iP 26 O Z (rfl) HT Hb hE H
         ·intro ay a w ah hc hd HT hE;have H:=HT;have Hb:=H.full;have H:=Hb;clear hc;refine kH H (Rm O ?_);clear H;intro a H;refine aj ⟨O,?_⟩;exact iP 27 O Z (rfl) HT Hb hE H
         ·intro ay a w ah hc hd HT hE;have H:=HT;have H:=H.eP (hE.at 26 O (hc 24 Y));have H:=H.eP (hE.at 27 O (hc 25 Y));have Hb:=H.full;have H:=Hb;clear hc;refine kH H (Ri qx mY O O ?_);clear H;intro a H;refine aj ⟨O,?_⟩;exact iP 28 O Z (rfl) HT Hb hE H
         ·intro ay a w ah hc hd HT hE;have H:=HT;have H:=H.eP (hE.at 28 O (hc 26 Y));have Hb:=H.full;have H:=Hb;clear hc;refine kH H (Rf Ji O ?_);clear H;intro a H;refine aj ⟨O,?_⟩;exact iP 29 O Z (rfl) HT Hb hE H
         ·intro ay a w ah hc hd HT hE;have H:=HT;have H:=H.eP (hE.at 29 O (hc 27 Y));have Hb:=H.full;have H:=Hb;clear hc;refine kH H (Rf pW O ?_);clear H;intro a H;refine aj ⟨O,?_⟩;exact iP 30 O Z (rfl) HT Hb hE H
         ·intro ay a w ah hc hd HT hE;have H:=HT;have H:=H.eP (hE.at 30 O (hc 28 Y));have Hb:=H.full;have H:=Hb;clear hc;refine kH H (Rf Ch O ?_);clear H;intro a H;refine aj ⟨O,?_⟩;exact iP 31 O Z (rfl) HT Hb hE H
         ·intro ay a w ah hc hd HT hE;have H:=HT;have H:=H.eP (hE.at 31 O (hc 29 Y));have Hb:=H.full;have H:=Hb;clear hc;refine kH H (Rg Dj O (aK JK c5) ?_);clear H;intro a H;refine aj ⟨O,?_⟩;exact iP 32 O Z (rfl) HT Hb hE H
         ·intro ay a w ah hc hd HT hE;have H:=HT;have H:=H.eP (hE.at 32 O (hc 30 Y));have Hb:=H.full;have H:=Hb;clear hc;refine kH H (Rl wM O ?_);clear H;intro a H;refine aj ⟨O,?_⟩;exact iP 33 O Z (rfl) HT Hb hE H
         ·intro ay a w ah hc hd HT hE;have H:=HT;have H:=H.eP (hE.at 24 O (hc 22 Y));have H:=H.eP (hE.at 33 O (hc 31 Y));have Hb:=H.full;have H:=Hb;clear hc;refine kH H (Rd O ?_);clear H;intro a H;refine aj ⟨O,?_⟩;exact iP 34 O Z (rfl) HT Hb hE H
         ·intro ay a w ah hc hd HT hE;have H:=HT;have H:=H.eP (hE.at 1 O (hd 38 Y Y));have Hb:=H.full;have H:=Hb;clear hc;refine kH H (Rm O ?_);clear H;intro a H;refine aj ⟨O,?_⟩;exact iP 35 O Z (rfl) HT Hb hE H
         ·intro ay a w ah hc hd HT hE;have H:=HT;have Hb:=H.full;have H:=Hb;clear hc;refine kH H (Rm O ?_);clear H;intro a H;refine aj ⟨O,?_⟩;exact iP 36 O Z (rfl) HT Hb hE H
         ·intro ay a w ah hc hd HT hE;have H:=HT;have H:=H.eP (hE.at 36 O (hc 34 Y));have Hb:=H.full;have H:=Hb;clear hc;refine kH H (Rd O ?_);clear H;intro a H;refine aj ⟨O,?_⟩;exact iP 37 O Z (rfl) HT Hb hE H
         ·intro ay a w ah hc hd HT hE;have H:=HT;have H:=H.eP (hE.at 35 O (hc 33 Y));have H:=H.eP (hE.at 37 O (hc 35 Y));have Hb:=H.full;have H:=Hb;clear hc;refine KF H wn O O O ?_;clear H;intro a H;refine aj ⟨O,?_⟩;exact iP 38 O Z (rfl) HT Hb hE H
         ·intro ay a w ah hc hd HT hE;have H:=HT;have H:=H.eP (hE.at 34 O (hc 32 Y));have Hb:=H.full;have H:=Hb;clear hc;refine kH H (Ra O ?_);clear H;intro a H;refine aj ⟨O,?_⟩;exact iP 39 O Z (rfl) HT Hb hE H
         intro ay a w ah hc hd HT hE;have H:=HT;have H:=H.eP (hE.at 38 O (hc 36 Y));have Hb:=H.full;have H:=Hb;clear hc;refine kH H (Ra O ?_);clear H;intro a H;refine aj ⟨O,?_⟩;exact iP 40 O Z (rfl) HT Hb hE H
        clear H;intro ay a w hall H hE;have H:=H.eP (hE.at 39 O (hall 37 Y));have H:=H.eP (hE.at 40 O (hall 38 Y));clear hE hall;skip;refine jd _ _ ?_;clear jd;refine kP H (SC (Rm O (Rd O (Ra O ?_))));clear H;intro a H;refine aj ?_;refine bE ((q+1,_,_,_)) (by exact H.sub ⟨O,O,O,O,O,O,O,aI⟩) ?_
        (try dsimp only);exact ⟨V,V,V,V,V,fun b o h=>JK _ _ (JG b o h)⟩
       intro Ns a H
       try have afV:=dF Ns
       refine dJ ?_;refine bX _ _ ?_;clear bX;refine kP H (SC (Rm O (Rd O (Ra O ?_))));clear H;intro a H;refine aj ?_;refine bE ((j+1,wq,dq,g3)) (by exact (H.dz (Pl:=[_]) (bZ:=[]) [] Y O).sub ⟨O,O,O,O,O,aI⟩) ?_
       (try dsimp only);exact ⟨V,hy0,V,hy2,hy3,fun b o h=>JG _ _ (hgg b o h)⟩
      intro Bc a H
      try have afU:=dF Bc
      refine kH H (aO Bc O (Pf Bc O (Kz fU (Cf O O ?_))));clear H fU;intro a H;refine dJ ?_;refine bX _ _ ?_;clear bX;refine kP H (SC (Rm O (Rd O (Ra O ?_))));clear H;intro a H;refine aj ?_;refine bE ((j+1,wq,dq,g3)) (by exact (H.dz (Pl:=[_]) (bZ:=[]) [] Y O).sub ⟨O,O,O,O,O,aI⟩) ?_
      (try dsimp only);exact ⟨V,hy0,V,hy2,hy3,fun b o h=>JG _ _ (hgg b o h)⟩
     intro Nz a H
     try have p86:=dF Nz
     refine dJ ?_;refine K7 _ _ ?_;clear K7;refine kP H (SC (Rm O (Rd O (Ra O ?_))));clear H;intro a H;refine aj ?_;refine bE ((i+1,wj,dj,g2)) (by exact H.sub ⟨O,O,O,O,aI⟩) ?_
     (try dsimp only);exact ⟨V,hx0,V,hx2,hx3,gH⟩
    intro Bd a H
    try have p83:=dF Bd
    refine kH H (aO Bd O (Pf Bd O (Kz bG (Cf O O ?_))));clear H bG;intro a H;refine dJ ?_;refine K7 _ _ ?_;clear K7;refine kP H (SC (Rm O (Rd O (Ra O ?_))));clear H;intro a H;refine aj ?_;refine bE ((i+1,wj,dj,g2)) (by exact H.sub ⟨O,O,O,O,aI⟩) ?_
    (try dsimp only);exact ⟨V,hx0,V,hx2,hx3,gH⟩
   intro h21 a H
   try have mH:=dF h21
   refine dJ ?_;refine K3 _ _ ?_;clear K3;refine kP H (SR fun _ iF=>Rm O (Rm O (Ra O (av iF O ?_))));clear H iF;intro a H;refine aU ?_;refine (bK H results13 (.cons (aG H O) (.cons (aG H O) .nil)) ?_).1;exact H.rt ⟨_,_,O,hw0,V,hd0,hd1⟩
  intro h18 a H
  try have nY:=dF h18
  refine kH H (aO h18 O (Pf h18 O (Kz K6 (Cf O O ?_))));clear H K6;intro a H;refine dJ ?_;refine K3 _ _ ?_;clear K3;refine kP H (SR fun _ jM=>Rm O (Rm O (Ra O (av jM O ?_))));clear H jM;intro a H;refine aU ?_;refine (bK H results13 (.cons (aG H O) (.cons (aG H O) .nil)) ?_).1;exact H.rt ⟨_,_,O,hw0,V,hd0,hd1⟩
theorem Tp:bL 35:=bN func35 O
theorem Qh {G:GH} {S:List (List Int)} {m i k:Nat} {A:Option Addr} {n c:Nat} (hv:aF G (.sl 1 ((qw S m).map nD)) (.slice A n c)) (hi:i<=S.length) (hk:k<=m) :
  ∃ b o nb no bc,A=some ⟨b,o,none⟩∧aS G b (o+i*1)=some (.slice (some ⟨nb,no,none⟩) (m+1) bc)∧aS G nb (no+k*1)=some (vi (tot (bI S) S.length m i k)):=by
 obtain ⟨b,o,bA,bc,rfl,g1,g2⟩:=Ac hv (show i < (qw S m).length by simp [qw];omega)
 have hr:(qw S m)[i]'(by simp [qw];omega)=qp S m i:=by simp [qw]
 obtain ⟨nb,no,rfl,g3⟩:=rU g2 (show k < ((qw S m)[i]'(by simp [qw];omega)).length by rw [hr];simp [qp];omega);refine ⟨b,o,nb,no,bc,O,?_,?_⟩
 ·rw [g1,show ((qw S m)[i]'(by simp [qw];omega)).length=m+1 by rw [hr];simp [qp]]
 rw [g3];simp [qw,qp]
theorem VA {G:GH}:∀ (B A:List jJ) (vs:List ak),cO G 3 (A.map jJ.dat) vs->cO G 3 ((A++B).map jJ.dat) (vs++(B.map fun x=>[vi x.a,vi x.b,vi x.score]).flatten)
 | [],A,vs,h=>by simpa using h
 | x :: B,A,vs,h=>by
  have h2:=h.snoc (VB G x) O;have h3:=VA B (A++[x]) (vs++[vi x.a,vi x.b,vi x.score]) (by simpa using h2)
  simpa using h3
def Et (l:List jJ):List ak:=(l.map fun x=>[vi x.a,vi x.b,vi x.score]).flatten
theorem VH (G:GH) (l:List jJ):cO G 3 (l.map jJ.dat) (Et l):=by simpa [Et] using VA (G:=G) l [] [] cO.nil
theorem afx (l:List jJ) (x:jJ):Et (l++[x])=Et l++[vi x.a,vi x.b,vi x.score]:=by simp [Et]
set_option maxHeartbeats 2000000 in
theorem afr (G:GH) (w0:World) (hG:Hold G w0) {S:List (List Int)} {m:Nat} (hs0:0 < S.length) (hS:Dw S m) (hm:(S.headD []).length=m) (v:ak) (hv:aF G (.sl 1 (S.map nD)) v) :
  Calls prog 22 #[v] w0 (bQ w0 G fun r G'=>aF G' (.sl 3 ((lg (bI S) S.length m 0 0).map jJ.dat)) r):=by
 obtain ⟨A,c,rfl,hc1,hc2,-⟩:=hv.slice;have hml:maxLen=9223372036854775807:=rfl;have hln:=hS.len;have htb:∀ i k,0<=tot (bI S) S.length m i k∧tot (bI S) S.length m i k<=1000*((S.length - i:Nat):Int):=fun i k=>EP (fun i k hi hk=>(hS.ok i k hi hk).2) _ i k (bS _);have adR:=FE (bI S) S.length m (S.length+m) 0 0 V;rw [bJ] at *;refine eN [(0,_)] func22 O ntmps22 O O hG ?_;intro a H;refine kP H (SR fun _ K1=>av K1 O (SR fun _ K2=>Rm O (Rl iE O (Ra O (av K2 O (SQ fun _ K3=>SR fun _ K4=>Rm O (Rc O (Kz K4 (Cd O ?_ ?_))))))))) <;> clear H K1 K2 K4
 ·intro h12 a H
  try have oJ:=dT h12
  obtain ⟨b0,o0,bA,bc0,rfl,g10,-⟩:=Ac hv hs0;rw [<- adZ hs0,hm] at g10;refine kP H (SC (Rm O ?_));clear H;intro a H;refine bD iE bP 0 H wn O O O hs0 O ?_;clear H;intro a H;refine kH H (Rg bP O g10 (Rl cB O (bO K3 O (SR fun _ K5=>Rm O (Rm O (Rm O ?_))))));clear H K3;intro a H;refine s_call Tp H wn O (XE _ _ H.ro hS _ hv) O ?_;clear H;rintro v20 zm a w Em Cv H;obtain ⟨tA,tn,tc,rfl⟩:=Em.form
  have htn:tn=S.length+1:=by
   obtain ⟨_,_,e,-⟩:=Em.slice;obtain ⟨-,e2,-⟩:=Value.slice.inj e
   simpa [qw] using e2
  subst htn;refine kH H (av K5 O (SR fun _ K6=>av K6 O (SR fun _ K7=>Ra O (av K7 O (SQ fun _ K8=>SB ?_)))));clear H K5 K6 K7;intro a H;skip;refine dY (ι:=Nat × Nat × List jJ × ak × OL × GH) (Tc:=[(0,_),(3,_),(4,_),(5,_)]) (Lc:=[]) (fun gh=>[(6,gh.2.2.2.1),(7,vi gh.1),(8,vi gh.2.1)]) (fun gh=>[]++gh.2.2.2.2.1) (fun gh=>gh.2.2.2.2.2) (fun gh=>gh.1<=S.length∧gh.2.1<=m∧aW 45 3 gh.2.2.2.1 gh.2.2.1.length (Et gh.2.2.1) gh.2.2.2.2.1∧gh.2.2.1++lg (bI S) S.length m gh.1 gh.2.1=lg (bI S) S.length m 0 0∧(∀ b o,zm b=some o->gh.2.2.2.2.2 b=some o)) (fun gh=>(S.length - gh.1)+(m - gh.2.1)) ((0,0,[],.slice none 0 0,[],zm)) (by exact H.sub ⟨O,O,O,O,O,O,O,aI⟩) ?_ ?_
  ·exact ⟨fC _,fC _,aW.nil,O,fun _ _ h=>h⟩
  clear H;rintro ⟨i,k,B,v,Lo,g⟩ a w hI H;dsimp only at hI H;obtain ⟨hi,hk,hrw,heq,hgm⟩:=hI
  have hBl:B.length<=1024:=by have:=gZ List.length heq;rw [fQ] at this;omega
  dsimp only [lca,bW] at H;refine kP H (SQ fun _ K9=>SR fun _ aP=>Rm O (Rm O (Rc O (Rm O (Sp 24 O ?_ ?_))))) <;> clear H
  ·intro aQ a H
   try have gP:=dT aQ
   refine kH H (YM aQ O (YM aQ O (YC aQ O (Pt aQ O (Kz aP (Cd O ?_ ?_)))))) <;> clear H aP
   ·intro fI a H
    try have p28:=dT fI
    have hi1:i < S.length:=by omega
    have hk1:k < m:=by omega
    obtain ⟨b,o,nb,no,bc,e0,g1,gn⟩:=hS.row ((hv.mono Cv).mono hgm) hi1 hk1
    injection e0 with e0;injection e0 with e1 e2;subst e1;subst e2
    obtain ⟨tb,tO,EL,EM,Qa,rfl,gt0,Np⟩:=Qh (Em.mono hgm) (Nat.le_of_lt hi1) (Nat.le_of_lt hk1);obtain ⟨_,_,CZ,C8,KP,e0,Jq,Ui⟩:=Qh (Em.mono hgm) (show i+1<=S.length by omega) (Nat.le_of_lt hk1)
    injection e0 with e0;injection e0 with e1 e2;subst e1;subst e2
    obtain ⟨_,_,t2b,t2o,t2c,e0,Uh,gv2⟩:=Qh (Em.mono hgm) (show i+1<=S.length by omega) (show k+1<=m by omega)
    injection e0 with e0;injection e0 with e1 e2;subst e1;subst e2
    have ett:CZ=t2b∧C8=t2o∧KP=t2c:=by rw [Jq] at Uh;simpa [and_assoc] using Uh
    obtain ⟨rfl,rfl,rfl⟩:=ett;have hb0:=htb i k;have hb1:=htb (i+1) k;have hb2:=htb (i+1) (k+1);have hok:=hS.ok i k hi1 hk1;obtain ⟨vA,vc,rfl,GY,GZ⟩:=hrw.shape;rw [lg,dif_pos ⟨hi1,hk1⟩] at heq;refine lV ?_;refine K9 _ _ ?_;clear K9;(iterate 2 refine xk ?_);refine gy (fun _ aT=>?_)
    by_cases hge:400<=bI S i k
    ·skip;refine dI hmx [[],[],[0,1],[0,1,2],[],ra 0 5,ra 0 6,ra 0 7,ra 0 8,ra 0 9,ra 0 9,ra 0 11,ra 0 12,ra 0 9,ra 0 14,ra 0 15,ra 0 9,ra 0 9,(ra 0 9++[17]),(ra 0 9++[16,17,18]),(ra 0 9++ra 16 4),ra 0 9,(ra 0 9++[21]),(ra 0 9++ra 16 7),(ra 0 9++ra 16 8),ra 0 25,ra 0 9,ra 0 9,(ra 0 9++[26,27]),(ra 0 9++[26,27,28]),ra 0 9,(ra 0 9++ra 26 5),(ra 0 9++ra 26 6),ra 0 33,ra 0 34,ra 0 35] [35] Z [.slice (some ⟨b0,o0,none⟩) S.length c,vi i,(aJ b0 (o0+i*1)),.slice (some ⟨nb,no,none⟩) m bc,vi k,(aJ nb (no+k*1)),vi (bI S i k),.bool (decide (400<=bI S i k)),.bool (decide (400<=bI S i k)),.slice (some ⟨b0,o0,none⟩) S.length c,vi i,(aJ b0 (o0+i*1)),.slice (some ⟨nb,no,none⟩) m bc,vi k,(aJ nb (no+k*1)),vi (bI S i k),.slice (some ⟨tb,tO,none⟩) (S.length+1) tc,vi i,vi ((i:Int)+1),(aJ tb (tO+(i+1)*1)),.slice (some ⟨CZ,C8,none⟩) (m+1) KP,vi k,vi ((k:Int)+1),(aJ CZ (C8+(k+1)*1)),vi (tot (bI S) S.length m (i+1) (k+1)),vi (bI S i k+tot (bI S) S.length m (i+1) (k+1)),.slice (some ⟨tb,tO,none⟩) (S.length+1) tc,vi i,(aJ tb (tO+i*1)),.slice (some ⟨EL,EM,none⟩) (m+1) Qa,vi k,(aJ EL (EM+k*1)),vi (tot (bI S) S.length m i k),.bool (decide (bI S i k+tot (bI S) S.length m (i+1) (k+1)=tot (bI S) S.length m i k)),.bool (decide (bI S i k+tot (bI S) S.length m (i+1) (k+1)=tot (bI S) S.length m i k))] H (aH ?_ ?_ ?_ ?_ (aH ?_ ?_ ?_ ?_ (aH ?_ ?_ ?_ ?_ (aH ?_ ?_ ?_ ?_ (aH ?_ ?_ ?_ ?_ (aH ?_ ?_ ?_ ?_ (aH ?_ ?_ ?_ ?_ (aH ?_ ?_ ?_ ?_ (aH ?_ ?_ ?_ (fT O) fD))))))))) ?_
     ·intro ay a w G1 _ ah hc hG HT hv;have H:=HT;clear ah;have Hb:=H.full;have H:=Hb;clear hc;refine kH H (Rm O ?_);clear H;intro a H;refine aj ⟨O,?_⟩;exact aB HT Hb hG hv (fun _ _ _ _ _ h=>h) H O
     ·intro ay a w G1 _ ah hc hG HT hv;have H:=HT;clear ah;have Hb:=H.full;have H:=Hb;clear hc;refine kH H (Rm O ?_);clear H;intro a H;refine aj ⟨O,?_⟩;exact aB HT Hb hG hv (fun _ _ _ _ _ h=>h) H O
     ·intro ay a w G1 _ ah hc hG HT hv;have H:=HT;clear ah;have H:=H.au (hv 0 32 (hc 0 Y) O) O;have H:=H.au (hv 1 33 (hc 1 Y) O) O;have Hb:=H.full;have H:=Hb;clear hc;refine bD iE bP i H wn O O O hi1 O ?_;clear H;intro a H;refine aj ⟨O,?_⟩;exact aB HT Hb hG hv (fun _ _ _ _ _ h=>h) H O
     ·intro ay a w G1 _ ah hc hG HT hv;have H:=HT;clear ah;have H:=H.au (hv 2 34 (hc 2 Y) O) O;have Hb:=H.full;have H:=Hb;clear hc;refine kH H (Rg bP O (aK hG g1) ?_);clear H;intro a H;refine aj ⟨O,?_⟩;exact aB HT Hb hG hv (fun _ _ _ _ _ h=>h) H O
     ·intro ay a w G1 _ ah hc hG HT hv;have H:=HT;clear ah;have Hb:=H.full;have H:=Hb;clear hc;refine kH H (Rm O ?_);clear H;intro a H;refine aj ⟨O,?_⟩;exact aB HT Hb hG hv (fun _ _ _ _ _ h=>h) H O
     ·intro ay a w G1 _ ah hc hG HT hv;have H:=HT;clear ah;have H:=H.au (hv 3 35 (hc 3 Y) O) O;have H:=H.au (hv 4 36 (hc 4 Y) O) O;have Hb:=H.full;have H:=Hb;clear hc;refine bD cB aC k H wn O O O hk1 O ?_;clear H;intro a H;refine aj ⟨O,?_⟩;exact aB HT Hb hG hv (fun _ _ _ _ _ h=>h) H O
     ·intro ay a w G1 _ ah hc hG HT hv;have H:=HT;clear ah;have H:=H.au (hv 5 37 (hc 5 Y) O) O;have Hb:=H.full;have H:=Hb;clear hc;refine kH H (Rg aC O (aK hG gn) ?_);clear H;intro a H;refine aj ⟨O,?_⟩;exact aB HT Hb hG hv (fun _ _ _ _ _ h=>h) H O
     ·intro ay a w G1 _ ah hc hG HT hv;have H:=HT;clear ah;have H:=H.au (hv 6 38 (hc 6 Y) O) O;have Hb:=H.full;have H:=Hb;clear hc;refine kH H (Rc O ?_);clear H;intro a H;refine aj ⟨O,?_⟩;exact aB HT Hb hG hv (fun _ _ _ _ _ h=>h) H O
     ·intro ay a w G1 _ ah hc hG HT hv;have H:=HT;clear ah;have H:=H.au (hv 7 39 (hc 7 Y) O) O;have Hb:=H.full;have H:=Hb;clear hc;refine kH H (Rm O ?_);clear H;intro a H;refine aj ⟨O,?_⟩;exact aB HT Hb hG hv (fun _ _ _ _ _ h=>h) H O
     ·intro ay a w G1 _ ah hc hG HT hv;have H:=HT;clear ah;have H:=H.au (hv 8 40 (hc 8 Y) O) O;have Hb:=H.full;have H:=Hb;clear hc;refine kH H (YM (aX hge) O ?_);clear H;intro a H;refine aj ⟨O,?_⟩;exact aB HT Hb hG hv (fun _ _ _ _ _ h=>h) H O
     ·intro ay a w G1 _ ah hc hG HT hv;have H:=HT;clear ah;have H:=H.au (hv 8 40 (hc 8 Y) O) O;have Hb:=H.full;have H:=Hb;clear hc;refine kH H (YM (aX hge) O ?_);clear H;intro a H;refine aj ⟨O,?_⟩;exact aB HT Hb hG hv (fun _ _ _ _ _ h=>h) H O
     ·intro ay a w G1 _ ah hc hG HT hv;have H:=HT;clear ah;have H:=H.au (hv 9 41 (hc 9 Y) O) O;have H:=H.au (hv 10 42 (hc 10 Y) O) O;have H:=H.au (hv 8 40 (hc 8 Y) O) O;have Hb:=H.full;have H:=Hb;clear hc;refine bD iE bP i H (wg H O O (aX hge)) O O O hi1 O ?_;clear H;intro a H;refine aj ⟨O,?_⟩;exact aB HT Hb hG hv (fun _ _ _ _ _ h=>h) H O
     ·intro ay a w G1 _ ah hc hG HT hv;have H:=HT;clear ah;have H:=H.au (hv 11 43 (hc 11 Y) O) O;have H:=H.au (hv 8 40 (hc 8 Y) O) O;have Hb:=H.full;have H:=Hb;clear hc;refine kH H (YR bP (aX hge) O (aK hG g1) ?_);clear H;intro a H;refine aj ⟨O,?_⟩;exact aB HT Hb hG hv (fun _ _ _ _ _ h=>h) H O
     ·intro ay a w G1 _ ah hc hG HT hv;have H:=HT;clear ah;have H:=H.au (hv 8 40 (hc 8 Y) O) O;have Hb:=H.full;have H:=Hb;clear hc;refine kH H (YM (aX hge) O ?_);clear H;intro a H;refine aj ⟨O,?_⟩;exact aB HT Hb hG hv (fun _ _ _ _ _ h=>h) H O
     ·intro ay a w G1 _ ah hc hG HT hv;have H:=HT;clear ah;have H:=H.au (hv 12 44 (hc 12 Y) O) O;have H:=H.au (hv 13 45 (hc 13 Y) O) O;have H:=H.au (hv 8 40 (hc 8 Y) O) O;have Hb:=H.full;have H:=Hb;clear hc;refine bD cB aC k H (wg H O O (aX hge)) O O O hk1 O ?_;clear H;intro a H;refine aj ⟨O,?_⟩;exact aB HT Hb hG hv (fun _ _ _ _ _ h=>h) H O
     ·intro ay a w G1 _ ah hc hG HT hv;have H:=HT;clear ah;have H:=H.au (hv 14 46 (hc 14 Y) O) O;have H:=H.au (hv 8 40 (hc 8 Y) O) O;have Hb:=H.full;have H:=Hb;clear hc;refine kH H (YR aC (aX hge) O (aK hG gn) ?_);clear H;intro a H;refine aj ⟨O,?_⟩;exact aB HT Hb hG hv (fun _ _ _ _ _ h=>h) H O
     ·intro ay a w G1 _ ah hc hG HT hv;have H:=HT;clear ah;have H:=H.au (hv 8 40 (hc 8 Y) O) O;have Hb:=H.full;have H:=Hb;clear hc;refine kH H (YM (aX hge) O ?_);clear H;intro a H;refine aj ⟨O,?_⟩;exact aB HT Hb hG hv (fun _ _ _ _ _ h=>h) H O
     ·intro ay a w G1 _ ah hc hG HT hv;have H:=HT;clear ah;have H:=H.au (hv 8 40 (hc 8 Y) O) O;have Hb:=H.full;have H:=Hb;clear hc;refine kH H (YM (aX hge) O ?_);clear H;intro a H;refine aj ⟨O,?_⟩;exact aB HT Hb hG hv (fun _ _ _ _ _ h=>h) H O
     ·intro ay a w G1 _ ah hc hG HT hv;have H:=HT;clear ah;have H:=H.au (hv 17 49 (hc 17 Y) O) O;have H:=H.au (hv 8 40 (hc 8 Y) O) O;have Hb:=H.full;have H:=Hb;clear hc;refine nQ _ H (wg H O O (aX hge)) O O O V V O ?_;clear H;intro a H;refine aj ⟨O,?_⟩;exact aB HT Hb hG hv (fun _ _ _ _ _ h=>h) H O
     ·intro ay a w G1 _ ah hc hG HT hv;have H:=HT;clear ah;have H:=H.au (hv 16 48 (hc 16 Y) O) O;have H:=H.au (hv 18 50 (hc 18 Y) O) O;have H:=H.au (hv 8 40 (hc 8 Y) O) O;have Hb:=H.full;have H:=Hb;clear hc;refine bD iE bP (i+1) H (wg H O O (aX hge)) O O O V O ?_;clear H;intro a H;refine aj ⟨O,?_⟩;exact aB HT Hb hG hv (fun _ _ _ _ _ h=>h) H O
     ·intro ay a w G1 _ ah hc hG HT hv;have H:=HT;clear ah;have H:=H.au (hv 19 51 (hc 19 Y) O) O;have H:=H.au (hv 8 40 (hc 8 Y) O) O;have Hb:=H.full;have H:=Hb;clear hc;refine kH H (YR bP (aX hge) O (aK hG Jq) ?_);clear H;intro a H;refine aj ⟨O,?_⟩;exact aB HT Hb hG hv (fun _ _ _ _ _ h=>h) H O
     ·intro ay a w G1 _ ah hc hG HT hv;have H:=HT;clear ah;have H:=H.au (hv 8 40 (hc 8 Y) O) O;have Hb:=H.full;have H:=Hb;clear hc;refine kH H (YM (aX hge) O ?_);clear H;intro a H;refine aj ⟨O,?_⟩;exact aB HT Hb hG hv (fun _ _ _ _ _ h=>h) H O
     ·intro ay a w G1 _ ah hc hG HT hv;have H:=HT;clear ah;have H:=H.au (hv 21 53 (hc 21 Y) O) O;have H:=H.au (hv 8 40 (hc 8 Y) O) O;have Hb:=H.full;have H:=Hb;clear hc;refine nQ _ H (wg H O O (aX hge)) O O O V V O ?_;clear H;intro a H;refine aj ⟨O,?_⟩;exact aB HT Hb hG hv (fun _ _ _ _ _ h=>h) H O
     ·intro ay a w G1 _ ah hc hG HT hv;have H:=HT;clear ah;have H:=H.au (hv 20 52 (hc 20 Y) O) O;have H:=H.au (hv 22 54 (hc 22 Y) O) O;have H:=H.au (hv 8 40 (hc 8 Y) O) O;have Hb:=H.full;have H:=Hb;clear hc;refine bD cB aC (k+1) H (wg H O O (aX hge)) O O O V O ?_;clear H;intro a H;refine aj ⟨O,?_⟩;exact aB HT Hb hG hv (fun _ _ _ _ _ h=>h) H O
     ·intro ay a w G1 _ ah hc hG HT hv;have H:=HT;clear ah;have H:=H.au (hv 23 55 (hc 23 Y) O) O;have H:=H.au (hv 8 40 (hc 8 Y) O) O;have Hb:=H.full;have H:=Hb;clear hc;refine kH H (YR aC (aX hge) O (aK hG gv2) ?_);clear H;intro a H;refine aj ⟨O,?_⟩;exact aB HT Hb hG hv (fun _ _ _ _ _ h=>h) H O
     ·intro ay a w G1 _ ah hc hG HT hv;have H:=HT;clear ah;have H:=H.au (hv 15 47 (hc 15 Y) O) O;have H:=H.au (hv 24 56 (hc 24 Y) O) O;have H:=H.au (hv 8 40 (hc 8 Y) O) O;have Hb:=H.full;have H:=Hb;clear hc;refine nQ _ H (wg H O O (aX hge)) O O O V V O ?_;clear H;intro a H;refine aj ⟨O,?_⟩;exact aB HT Hb hG hv (fun _ _ _ _ _ h=>h) H O
     ·intro ay a w G1 _ ah hc hG HT hv;have H:=HT;clear ah;have H:=H.au (hv 8 40 (hc 8 Y) O) O;have Hb:=H.full;have H:=Hb;clear hc;refine kH H (YM (aX hge) O ?_);clear H;intro a H;refine aj ⟨O,?_⟩;exact aB HT Hb hG hv (fun _ _ _ _ _ h=>h) H O
     ·intro ay a w G1 _ ah hc hG HT hv;have H:=HT;clear ah;have H:=H.au (hv 8 40 (hc 8 Y) O) O;have Hb:=H.full;have H:=Hb;clear hc;refine kH H (YM (aX hge) O ?_);clear H;intro a H;refine aj ⟨O,?_⟩;exact aB HT Hb hG hv (fun _ _ _ _ _ h=>h) H O
     ·intro ay a w G1 _ ah hc hG HT hv;have H:=HT;clear ah;have H:=H.au (hv 26 58 (hc 26 Y) O) O;have H:=H.au (hv 27 59 (hc 27 Y) O) O;have H:=H.au (hv 8 40 (hc 8 Y) O) O;have Hb:=H.full;have H:=Hb;clear hc;refine bD iE bP i H (wg H O O (aX hge)) O O O V O ?_;clear H;intro a H;refine aj ⟨O,?_⟩;exact aB HT Hb hG hv (fun _ _ _ _ _ h=>h) H O
     ·intro ay a w G1 _ ah hc hG HT hv;have H:=HT;clear ah;have H:=H.au (hv 28 60 (hc 28 Y) O) O;have H:=H.au (hv 8 40 (hc 8 Y) O) O;have Hb:=H.full;have H:=Hb;clear hc;refine kH H (YR bP (aX hge) O (aK hG gt0) ?_);clear H;intro a H;refine aj ⟨O,?_⟩;exact aB HT Hb hG hv (fun _ _ _ _ _ h=>h) H O
     ·intro ay a w G1 _ ah hc hG HT hv;have H:=HT;clear ah;have H:=H.au (hv 8 40 (hc 8 Y) O) O;have Hb:=H.full;have H:=Hb;clear hc;refine kH H (YM (aX hge) O ?_);clear H;intro a H;refine aj ⟨O,?_⟩;exact aB HT Hb hG hv (fun _ _ _ _ _ h=>h) H O
     ·intro ay a w G1 _ ah hc hG HT hv;have H:=HT;clear ah;have H:=H.au (hv 29 61 (hc 29 Y) O) O;have H:=H.au (hv 30 62 (hc 30 Y) O) O;have H:=H.au (hv 8 40 (hc 8 Y) O) O;have Hb:=H.full;have H:=Hb;clear hc;refine bD cB aC k H (wg H O O (aX hge)) O O O V O ?_;clear H;intro a H;refine aj ⟨O,?_⟩;exact aB HT Hb hG hv (fun _ _ _ _ _ h=>h) H O
     ·intro ay a w G1 _ ah hc hG HT hv;have H:=HT;clear ah;have H:=H.au (hv 31 63 (hc 31 Y) O) O;have H:=H.au (hv 8 40 (hc 8 Y) O) O;have Hb:=H.full;have H:=Hb;clear hc;refine kH H (YR aC (aX hge) O (aK hG Np) ?_);clear H;intro a H;refine aj ⟨O,?_⟩;exact aB HT Hb hG hv (fun _ _ _ _ _ h=>h) H O
     ·intro ay a w G1 _ ah hc hG HT hv;have H:=HT;clear ah;have H:=H.au (hv 25 57 (hc 25 Y) O) O;have H:=H.au (hv 32 64 (hc 32 Y) O) O;have H:=H.au (hv 8 40 (hc 8 Y) O) O;have Hb:=H.full;have H:=Hb;clear hc;refine kH H (YC (aX hge) O ?_);clear H;intro a H;refine aj ⟨O,?_⟩;exact aB HT Hb hG hv (fun _ _ _ _ _ h=>h) H O
     ·intro ay a w G1 _ ah hc hG HT hv;have H:=HT;clear ah;have H:=H.au (hv 8 40 (hc 8 Y) O) O;have H:=H.au (hv 33 65 (hc 33 Y) O) O;have Hb:=H.full;have H:=Hb;clear hc;refine kH H (Pt (aX hge) O ?_);clear H;intro a H;refine aj ⟨O,?_⟩;exact aB HT Hb hG hv (fun _ _ _ _ _ h=>h) H O
     clear H;intro a w G kr H hv;have H:=H.au (hv 34 66 O O) O;clear hv;refine kH H (Ra O ?_);clear H;intro a H;refine aj ⟨O,?_⟩;refine aT _ _ ?_;clear aT;refine ou H O ?_ ?_
     ·intro h31
      try have p31:=dT h31
      refine kP H (SR fun _ bH=>Rm O (Rm O (Rm O (Rm O (Rm O ?_)))));clear H;intro a H;have g1:=aK kr g1;have gn:=aK kr gn;refine bD iE bP i H wn O O O hi1 O ?_;clear H;intro a H;refine kH H (Rg bP O g1 (Rm O ?_));clear H;intro a H;refine bD cB aC k H wn O O O hk1 O ?_;clear H;intro a H;refine kH H (Rg aC O gn ?_);clear H;intro a H;refine ku PV [_,_,_] H wn O O O O ?_;clear H;intro a H;refine eU vJ zi [_,_,_] [_,_,_] H wn O O O O O (by intro i q h;match i,h with|0,h=>exact h|n+1,h=>simp at h) O O ?_;clear H;intro b78 a w ajN H;refine dX (Li:=[_]) (Lo:=Lo) (news:=[vi i,vi k,vi (bI S i k)]) vJ zi O O H wn O O hrw O (H.hp.bR 0 O O) O V V O ?_;clear H;intro v79 YZ a w aeK H
      have heq2:(B++[⟨(i:Int),(k:Int),bI S i k⟩])++lg (bI S) S.length m (i+1) (k+1)=lg (bI S) S.length m 0 0:=by
       rw [aN (by rw [yg,aZ];have:=rG h31;omega)] at heq
       simpa using heq
      refine kH H (av bH O (SC (Rm O (Rd O (Rm O (Rd O (Ra O (Ra O ?_))))))));clear H bH;intro a H;refine aj ?_;refine bE ((i+1,k+1,B++[⟨(i:Int),(k:Int),bI S i k⟩],v79,YZ,G)) (by exact (H.dz (Pl:=[_]) (bZ:=[]) [] Y O).sub ⟨O,O,O,O,O,O,O,aI⟩) ?_
      (try dsimp only);exact ⟨V,V,by rw [fQ,afx];exact aeK,heq2,fun b o h=>kr b o (hgm b o h)⟩
     intro h31
     try have p31:=dF h31
     have hnw:¬ tot (bI S) S.length m i k=yg (bI S) S.length m i k:=by
      rw [yg]
      split
      ·omega
      first|(have:=of_decide_eq_false h31;omega)|omega
     rw [aL hnw] at heq;refine gy (fun _ bG=>?_);refine dI hmx [[],[],[1],[0,1,2],ra 0 4,[],ra 0 6,ra 0 7,[],[],[8,9],[8,9,10],[],ra 8 5,ra 8 6,ra 0 15,ra 0 16] [] Z [.slice (some ⟨tb,tO,none⟩) (S.length+1) tc,vi i,vi ((i:Int)+1),(aJ tb (tO+(i+1)*1)),.slice (some ⟨CZ,C8,none⟩) (m+1) KP,vi k,(aJ CZ (C8+k*1)),vi (tot (bI S) S.length m (i+1) k),.slice (some ⟨tb,tO,none⟩) (S.length+1) tc,vi i,(aJ tb (tO+i*1)),.slice (some ⟨EL,EM,none⟩) (m+1) Qa,vi k,(aJ EL (EM+k*1)),vi (tot (bI S) S.length m i k),.bool (decide (tot (bI S) S.length m (i+1) k=tot (bI S) S.length m i k)),.bool (decide (tot (bI S) S.length m (i+1) k=tot (bI S) S.length m i k))] H (aH ?_ ?_ ?_ ?_ (aH ?_ ?_ ?_ ?_ (aH ?_ ?_ ?_ ?_ (aH ?_ ?_ ?_ ?_ (eB ?_ fD))))) ?_
     ·intro ay a w G1 _ ah hc hG HT hv;have H:=HT;clear ah;have Hb:=H.full;have H:=Hb;clear hc;refine kH H (Rm O ?_);clear H;intro a H;refine aj ⟨O,?_⟩;exact aB HT Hb hG hv (fun _ _ _ _ _ h=>h) H O
     ·intro ay a w G1 _ ah hc hG HT hv;have H:=HT;clear ah;have Hb:=H.full;have H:=Hb;clear hc;refine kH H (Rm O ?_);clear H;intro a H;refine aj ⟨O,?_⟩;exact aB HT Hb hG hv (fun _ _ _ _ _ h=>h) H O
     ·intro ay a w G1 _ ah hc hG HT hv;have H:=HT;clear ah;have H:=H.au (hv 1 86 (hc 1 Y) O) O;have Hb:=H.full;have H:=Hb;clear hc;refine kH H (Rd O ?_);clear H;intro a H;refine aj ⟨O,?_⟩;exact aB HT Hb hG hv (fun _ _ _ _ _ h=>h) H O
     ·intro ay a w G1 _ ah hc hG HT hv;have H:=HT;clear ah;have H:=H.au (hv 0 85 (hc 0 Y) O) O;have H:=H.au (hv 2 87 (hc 2 Y) O) O;have Hb:=H.full;have H:=Hb;clear hc;refine bD iE bP (i+1) H wn O O O V O ?_;clear H;intro a H;refine aj ⟨O,?_⟩;exact aB HT Hb hG hv (fun _ _ _ _ _ h=>h) H O
     ·intro ay a w G1 _ ah hc hG HT hv;have H:=HT;clear ah;have H:=H.au (hv 3 88 (hc 3 Y) O) O;have Hb:=H.full;have H:=Hb;clear hc;refine kH H (Rg bP O (aK hG (aK kr Jq)) ?_);clear H;intro a H;refine aj ⟨O,?_⟩;exact aB HT Hb hG hv (fun _ _ _ _ _ h=>h) H O
     ·intro ay a w G1 _ ah hc hG HT hv;have H:=HT;clear ah;have Hb:=H.full;have H:=Hb;clear hc;refine kH H (Rm O ?_);clear H;intro a H;refine aj ⟨O,?_⟩;exact aB HT Hb hG hv (fun _ _ _ _ _ h=>h) H O
     ·intro ay a w G1 _ ah hc hG HT hv;have H:=HT;clear ah;have H:=H.au (hv 4 89 (hc 4 Y) O) O;have H:=H.au (hv 5 90 (hc 5 Y) O) O;have Hb:=H.full;have H:=Hb;clear hc;refine bD cB aC k H wn O O O V O ?_;clear H;intro a H;refine aj ⟨O,?_⟩;exact aB HT Hb hG hv (fun _ _ _ _ _ h=>h) H O
     ·intro ay a w G1 _ ah hc hG HT hv;have H:=HT;clear ah;have H:=H.au (hv 6 91 (hc 6 Y) O) O;have Hb:=H.full;have H:=Hb;clear hc;refine kH H (Rg aC O (aK hG (aK kr Ui)) ?_);clear H;intro a H;refine aj ⟨O,?_⟩;exact aB HT Hb hG hv (fun _ _ _ _ _ h=>h) H O
     ·intro ay a w G1 _ ah hc hG HT hv;have H:=HT;clear ah;have Hb:=H.full;have H:=Hb;clear hc;refine kH H (Rm O ?_);clear H;intro a H;refine aj ⟨O,?_⟩;exact aB HT Hb hG hv (fun _ _ _ _ _ h=>h) H O
     ·intro ay a w G1 _ ah hc hG HT hv;have H:=HT;clear ah;have Hb:=H.full;have H:=Hb;clear hc;refine kH H (Rm O ?_);clear H;intro a H;refine aj ⟨O,?_⟩;exact aB HT Hb hG hv (fun _ _ _ _ _ h=>h) H O
     ·intro ay a w G1 _ ah hc hG HT hv;have H:=HT;clear ah;have H:=H.au (hv 8 93 (hc 8 Y) O) O;have H:=H.au (hv 9 94 (hc 9 Y) O) O;have Hb:=H.full;have H:=Hb;clear hc;refine bD iE bP i H wn O O O V O ?_;clear H;intro a H;refine aj ⟨O,?_⟩;exact aB HT Hb hG hv (fun _ _ _ _ _ h=>h) H O
     ·intro ay a w G1 _ ah hc hG HT hv;have H:=HT;clear ah;have H:=H.au (hv 10 95 (hc 10 Y) O) O;have Hb:=H.full;have H:=Hb;clear hc;refine kH H (Rg bP O (aK hG (aK kr gt0)) ?_);clear H;intro a H;refine aj ⟨O,?_⟩;exact aB HT Hb hG hv (fun _ _ _ _ _ h=>h) H O
     ·intro ay a w G1 _ ah hc hG HT hv;have H:=HT;clear ah;have Hb:=H.full;have H:=Hb;clear hc;refine kH H (Rm O ?_);clear H;intro a H;refine aj ⟨O,?_⟩;exact aB HT Hb hG hv (fun _ _ _ _ _ h=>h) H O
     ·intro ay a w G1 _ ah hc hG HT hv;have H:=HT;clear ah;have H:=H.au (hv 11 96 (hc 11 Y) O) O;have H:=H.au (hv 12 97 (hc 12 Y) O) O;have Hb:=H.full;have H:=Hb;clear hc;refine bD cB aC k H wn O O O V O ?_;clear H;intro a H;refine aj ⟨O,?_⟩;exact aB HT Hb hG hv (fun _ _ _ _ _ h=>h) H O
     ·intro ay a w G1 _ ah hc hG HT hv;have H:=HT;clear ah;have H:=H.au (hv 13 98 (hc 13 Y) O) O;have Hb:=H.full;have H:=Hb;clear hc;refine kH H (Rg aC O (aK hG (aK kr Np)) ?_);clear H;intro a H;refine aj ⟨O,?_⟩;exact aB HT Hb hG hv (fun _ _ _ _ _ h=>h) H O
     ·intro ay a w G1 _ ah hc hG HT hv;have H:=HT;clear ah;have H:=H.au (hv 7 92 (hc 7 Y) O) O;have H:=H.au (hv 14 99 (hc 14 Y) O) O;have Hb:=H.full;have H:=Hb;clear hc;refine kH H (Rc O ?_);clear H;intro a H;refine aj ⟨O,?_⟩;exact aB HT Hb hG hv (fun _ _ _ _ _ h=>h) H O
     ·intro ay a w G1 _ ah hc hG HT hv;have H:=HT;clear ah;have H:=H.au (hv 15 100 (hc 15 Y) O) O;have Hb:=H.full;have H:=Hb;clear hc;refine kH H (Ra O ?_);clear H;intro a H;refine aj ⟨O,?_⟩;exact aB HT Hb hG hv (fun _ _ _ _ _ h=>h) H O
     clear H;intro a w G uw H hv;have H:=H.au (hv 16 84 O O) O;clear hv;refine aj ⟨O,?_⟩;refine bG _ _ ?_;clear bG;refine ou H O ?_ ?_
     ·intro h84
      try have O7:=dT h84
      refine kP H (SC (Rm O (Rd O (Ra O ?_))));clear H;intro a H;refine aj ?_;refine bE ((i+1,k,B,.slice vA B.length vc,Lo,G)) (by exact H.sub ⟨O,O,O,O,O,O,O,aI⟩) ?_
      (try dsimp only);exact ⟨V,hk,hrw,by rw [aN (by have:=rG h84;omega)] at heq;exact heq,fun b o h=>uw b o (kr b o (hgm b o h))⟩
     intro h84
     try have O7:=dF h84
     refine kP H (SC (Rm O (Rd O (Ra O ?_))));clear H;intro a H;refine aj ?_;refine bE ((i,k+1,B,.slice vA B.length vc,Lo,G)) (by exact H.sub ⟨O,O,O,O,O,O,O,aI⟩) ?_
     (try dsimp only);exact ⟨hi,V,hrw,by rw [aL (by have:=of_decide_eq_false h84;omega)] at heq;exact heq,fun b o h=>uw b o (kr b o (hgm b o h))⟩
    skip;refine dI hmx [[],[],[0,1],[0,1,2],[],ra 0 5,ra 0 6,ra 0 7,ra 0 8,ra 0 9,ra 0 9,ra 0 11,ra 0 12,ra 0 9,ra 0 14,ra 0 15,ra 0 9,ra 0 9,(ra 0 9++[17]),(ra 0 9++[16,17,18]),(ra 0 9++ra 16 4),ra 0 9,(ra 0 9++[21]),(ra 0 9++ra 16 7),(ra 0 9++ra 16 8),ra 0 25,ra 0 9,ra 0 9,(ra 0 9++[26,27]),(ra 0 9++[26,27,28]),ra 0 9,(ra 0 9++ra 26 5),(ra 0 9++ra 26 6),ra 0 33,ra 0 34,ra 0 35] [35] Z [.slice (some ⟨b0,o0,none⟩) S.length c,vi i,(aJ b0 (o0+i*1)),.slice (some ⟨nb,no,none⟩) m bc,vi k,(aJ nb (no+k*1)),vi (bI S i k),.bool (decide (400<=bI S i k)),.bool (decide (400<=bI S i k)),undef,undef,undef,undef,undef,undef,undef,undef,undef,undef,undef,undef,undef,undef,undef,undef,undef,undef,undef,undef,undef,undef,undef,undef,undef,.bool false] H (aH ?_ ?_ ?_ ?_ (aH ?_ ?_ ?_ ?_ (aH ?_ (dK 8 (dW hge) O O) (dK 8 (dW hge) O O) (dK 8 (dW hge) O O) (aH (dK 8 (dW hge) O O) (dK 8 (dW hge) O O) (dK 8 (dW hge) O O) (dK 8 (dW hge) O O) (aH (dK 8 (dW hge) O O) (dK 8 (dW hge) O O) (dK 8 (dW hge) O O) (dK 8 (dW hge) O O) (aH (dK 8 (dW hge) O O) (dK 8 (dW hge) O O) (dK 8 (dW hge) O O) (dK 8 (dW hge) O O) (aH (dK 8 (dW hge) O O) (dK 8 (dW hge) O O) (dK 8 (dW hge) O O) (dK 8 (dW hge) O O) (aH (dK 8 (dW hge) O O) (dK 8 (dW hge) O O) (dK 8 (dW hge) O O) (dK 8 (dW hge) O O) (aH (dK 8 (dW hge) O O) (dK 8 (dW hge) O O) ?_ (fT O) fD))))))))) ?_
    ·intro ay a w G1 _ ah hc hG HT hv;have H:=HT;clear ah;have Hb:=H.full;have H:=Hb;clear hc;refine kH H (Rm O ?_);clear H;intro a H;refine aj ⟨O,?_⟩;exact aB HT Hb hG hv (fun _ _ _ _ _ h=>h) H O
    ·intro ay a w G1 _ ah hc hG HT hv;have H:=HT;clear ah;have Hb:=H.full;have H:=Hb;clear hc;refine kH H (Rm O ?_);clear H;intro a H;refine aj ⟨O,?_⟩;exact aB HT Hb hG hv (fun _ _ _ _ _ h=>h) H O
    ·intro ay a w G1 _ ah hc hG HT hv;have H:=HT;clear ah;have H:=H.au (hv 0 32 (hc 0 Y) O) O;have H:=H.au (hv 1 33 (hc 1 Y) O) O;have Hb:=H.full;have H:=Hb;clear hc;refine bD iE bP i H wn O O O hi1 O ?_;clear H;intro a H;refine aj ⟨O,?_⟩;exact aB HT Hb hG hv (fun _ _ _ _ _ h=>h) H O
    ·intro ay a w G1 _ ah hc hG HT hv;have H:=HT;clear ah;have H:=H.au (hv 2 34 (hc 2 Y) O) O;have Hb:=H.full;have H:=Hb;clear hc;refine kH H (Rg bP O (aK hG g1) ?_);clear H;intro a H;refine aj ⟨O,?_⟩;exact aB HT Hb hG hv (fun _ _ _ _ _ h=>h) H O
    ·intro ay a w G1 _ ah hc hG HT hv;have H:=HT;clear ah;have Hb:=H.full;have H:=Hb;clear hc;refine kH H (Rm O ?_);clear H;intro a H;refine aj ⟨O,?_⟩;exact aB HT Hb hG hv (fun _ _ _ _ _ h=>h) H O
    ·intro ay a w G1 _ ah hc hG HT hv;have H:=HT;clear ah;have H:=H.au (hv 3 35 (hc 3 Y) O) O;have H:=H.au (hv 4 36 (hc 4 Y) O) O;have Hb:=H.full;have H:=Hb;clear hc;refine bD cB aC k H wn O O O hk1 O ?_;clear H;intro a H;refine aj ⟨O,?_⟩;exact aB HT Hb hG hv (fun _ _ _ _ _ h=>h) H O
    ·intro ay a w G1 _ ah hc hG HT hv;have H:=HT;clear ah;have H:=H.au (hv 5 37 (hc 5 Y) O) O;have Hb:=H.full;have H:=Hb;clear hc;refine kH H (Rg aC O (aK hG gn) ?_);clear H;intro a H;refine aj ⟨O,?_⟩;exact aB HT Hb hG hv (fun _ _ _ _ _ h=>h) H O
    ·intro ay a w G1 _ ah hc hG HT hv;have H:=HT;clear ah;have H:=H.au (hv 6 38 (hc 6 Y) O) O;have Hb:=H.full;have H:=Hb;clear hc;refine kH H (Rc O ?_);clear H;intro a H;refine aj ⟨O,?_⟩;exact aB HT Hb hG hv (fun _ _ _ _ _ h=>h) H O
    ·intro ay a w G1 _ ah hc hG HT hv;have H:=HT;clear ah;have H:=H.au (hv 7 39 (hc 7 Y) O) O;have Hb:=H.full;have H:=Hb;clear hc;refine kH H (Rm O ?_);clear H;intro a H;refine aj ⟨O,?_⟩;exact aB HT Hb hG hv (fun _ _ _ _ _ h=>h) H O
    ·intro ay a w G1 _ ah hc hG HT hv;have H:=HT;clear ah;have H:=H.au (hv 8 40 (hc 8 Y) O) O;have H:=H.au (hv 33 65 (hc 33 Y) O) O;have Hb:=H.full;have H:=Hb;clear hc;refine kH H (Pf (dW hge) O ?_);clear H;intro a H;refine aj ⟨O,?_⟩;exact aB HT Hb hG hv (fun _ _ _ _ _ h=>h) H O
    clear H;intro a w G kr H hv;have H:=H.au (hv 34 66 O O) O;clear hv;refine kH H (Ra O ?_);clear H;intro a H;refine aj ⟨O,?_⟩;refine aT _ _ ?_;clear aT;refine vV H O O ?_;refine gy (fun _ bX=>?_);refine dI hmx [[],[],[1],[0,1,2],ra 0 4,[],ra 0 6,ra 0 7,[],[],[8,9],[8,9,10],[],ra 8 5,ra 8 6,ra 0 15,ra 0 16] [] Z [.slice (some ⟨tb,tO,none⟩) (S.length+1) tc,vi i,vi ((i:Int)+1),(aJ tb (tO+(i+1)*1)),.slice (some ⟨CZ,C8,none⟩) (m+1) KP,vi k,(aJ CZ (C8+k*1)),vi (tot (bI S) S.length m (i+1) k),.slice (some ⟨tb,tO,none⟩) (S.length+1) tc,vi i,(aJ tb (tO+i*1)),.slice (some ⟨EL,EM,none⟩) (m+1) Qa,vi k,(aJ EL (EM+k*1)),vi (tot (bI S) S.length m i k),.bool (decide (tot (bI S) S.length m (i+1) k=tot (bI S) S.length m i k)),.bool (decide (tot (bI S) S.length m (i+1) k=tot (bI S) S.length m i k))] H (aH ?_ ?_ ?_ ?_ (aH ?_ ?_ ?_ ?_ (aH ?_ ?_ ?_ ?_ (aH ?_ ?_ ?_ ?_ (eB ?_ fD))))) ?_
    ·intro ay a w G1 _ ah hc hG HT hv;have H:=HT;clear ah;have Hb:=H.full;have H:=Hb;clear hc;refine kH H (Rm O ?_);clear H;intro a H;refine aj ⟨O,?_⟩;exact aB HT Hb hG hv (fun _ _ _ _ _ h=>h) H O
    ·intro ay a w G1 _ ah hc hG HT hv;have H:=HT;clear ah;have Hb:=H.full;have H:=Hb;clear hc;refine kH H (Rm O ?_);clear H;intro a H;refine aj ⟨O,?_⟩;exact aB HT Hb hG hv (fun _ _ _ _ _ h=>h) H O
    ·intro ay a w G1 _ ah hc hG HT hv;have H:=HT;clear ah;have H:=H.au (hv 1 86 (hc 1 Y) O) O;have Hb:=H.full;have H:=Hb;clear hc;refine kH H (Rd O ?_);clear H;intro a H;refine aj ⟨O,?_⟩;exact aB HT Hb hG hv (fun _ _ _ _ _ h=>h) H O
    ·intro ay a w G1 _ ah hc hG HT hv;have H:=HT;clear ah;have H:=H.au (hv 0 85 (hc 0 Y) O) O;have H:=H.au (hv 2 87 (hc 2 Y) O) O;have Hb:=H.full;have H:=Hb;clear hc;refine bD iE bP (i+1) H wn O O O V O ?_;clear H;intro a H;refine aj ⟨O,?_⟩;exact aB HT Hb hG hv (fun _ _ _ _ _ h=>h) H O
    ·intro ay a w G1 _ ah hc hG HT hv;have H:=HT;clear ah;have H:=H.au (hv 3 88 (hc 3 Y) O) O;have Hb:=H.full;have H:=Hb;clear hc;refine kH H (Rg bP O (aK hG (aK kr Jq)) ?_);clear H;intro a H;refine aj ⟨O,?_⟩;exact aB HT Hb hG hv (fun _ _ _ _ _ h=>h) H O
    ·intro ay a w G1 _ ah hc hG HT hv;have H:=HT;clear ah;have Hb:=H.full;have H:=Hb;clear hc;refine kH H (Rm O ?_);clear H;intro a H;refine aj ⟨O,?_⟩;exact aB HT Hb hG hv (fun _ _ _ _ _ h=>h) H O
    ·intro ay a w G1 _ ah hc hG HT hv;have H:=HT;clear ah;have H:=H.au (hv 4 89 (hc 4 Y) O) O;have H:=H.au (hv 5 90 (hc 5 Y) O) O;have Hb:=H.full;have H:=Hb;clear hc;refine bD cB aC k H wn O O O V O ?_;clear H;intro a H;refine aj ⟨O,?_⟩;exact aB HT Hb hG hv (fun _ _ _ _ _ h=>h) H O
    ·intro ay a w G1 _ ah hc hG HT hv;have H:=HT;clear ah;have H:=H.au (hv 6 91 (hc 6 Y) O) O;have Hb:=H.full;have H:=Hb;clear hc;refine kH H (Rg aC O (aK hG (aK kr Ui)) ?_);clear H;intro a H;refine aj ⟨O,?_⟩;exact aB HT Hb hG hv (fun _ _ _ _ _ h=>h) H O
    ·intro ay a w G1 _ ah hc hG HT hv;have H:=HT;clear ah;have Hb:=H.full;have H:=Hb;clear hc;refine kH H (Rm O ?_);clear H;intro a H;refine aj ⟨O,?_⟩;exact aB HT Hb hG hv (fun _ _ _ _ _ h=>h) H O
    ·intro ay a w G1 _ ah hc hG HT hv;have H:=HT;clear ah;have Hb:=H.full;have H:=Hb;clear hc;refine kH H (Rm O ?_);clear H;intro a H;refine aj ⟨O,?_⟩;exact aB HT Hb hG hv (fun _ _ _ _ _ h=>h) H O
    ·intro ay a w G1 _ ah hc hG HT hv;have H:=HT;clear ah;have H:=H.au (hv 8 93 (hc 8 Y) O) O;have H:=H.au (hv 9 94 (hc 9 Y) O) O;have Hb:=H.full;have H:=Hb;clear hc;refine bD iE bP i H wn O O O V O ?_;clear H;intro a H;refine aj ⟨O,?_⟩;exact aB HT Hb hG hv (fun _ _ _ _ _ h=>h) H O
    ·intro ay a w G1 _ ah hc hG HT hv;have H:=HT;clear ah;have H:=H.au (hv 10 95 (hc 10 Y) O) O;have Hb:=H.full;have H:=Hb;clear hc;refine kH H (Rg bP O (aK hG (aK kr gt0)) ?_);clear H;intro a H;refine aj ⟨O,?_⟩;exact aB HT Hb hG hv (fun _ _ _ _ _ h=>h) H O
    ·intro ay a w G1 _ ah hc hG HT hv;have H:=HT;clear ah;have Hb:=H.full;have H:=Hb;clear hc;refine kH H (Rm O ?_);clear H;intro a H;refine aj ⟨O,?_⟩;exact aB HT Hb hG hv (fun _ _ _ _ _ h=>h) H O
    ·intro ay a w G1 _ ah hc hG HT hv;have H:=HT;clear ah;have H:=H.au (hv 11 96 (hc 11 Y) O) O;have H:=H.au (hv 12 97 (hc 12 Y) O) O;have Hb:=H.full;have H:=Hb;clear hc;refine bD cB aC k H wn O O O V O ?_;clear H;intro a H;refine aj ⟨O,?_⟩;exact aB HT Hb hG hv (fun _ _ _ _ _ h=>h) H O
    ·intro ay a w G1 _ ah hc hG HT hv;have H:=HT;clear ah;have H:=H.au (hv 13 98 (hc 13 Y) O) O;have Hb:=H.full;have H:=Hb;clear hc;refine kH H (Rg aC O (aK hG (aK kr Np)) ?_);clear H;intro a H;refine aj ⟨O,?_⟩;exact aB HT Hb hG hv (fun _ _ _ _ _ h=>h) H O
    ·intro ay a w G1 _ ah hc hG HT hv;have H:=HT;clear ah;have H:=H.au (hv 7 92 (hc 7 Y) O) O;have H:=H.au (hv 14 99 (hc 14 Y) O) O;have Hb:=H.full;have H:=Hb;clear hc;refine kH H (Rc O ?_);clear H;intro a H;refine aj ⟨O,?_⟩;exact aB HT Hb hG hv (fun _ _ _ _ _ h=>h) H O
    ·intro ay a w G1 _ ah hc hG HT hv;have H:=HT;clear ah;have H:=H.au (hv 15 100 (hc 15 Y) O) O;have Hb:=H.full;have H:=Hb;clear hc;refine kH H (Ra O ?_);clear H;intro a H;refine aj ⟨O,?_⟩;exact aB HT Hb hG hv (fun _ _ _ _ _ h=>h) H O
    clear H;intro a w G uw H hv;have H:=H.au (hv 16 84 O O) O;clear hv;refine aj ⟨O,?_⟩;refine bX _ _ ?_;clear bX;refine ou H O ?_ ?_
    ·intro h84
     try have O7:=dT h84
     refine kP H (SC (Rm O (Rd O (Ra O ?_))));clear H;intro a H;refine aj ?_;refine bE ((i+1,k,B,.slice vA B.length vc,Lo,G)) (by exact H.sub ⟨O,O,O,O,O,O,O,aI⟩) ?_
     (try dsimp only);exact ⟨V,hk,hrw,by rw [aL (show ¬ tot (bI S) S.length m i k=yg (bI S) S.length m i k by rw [yg,dS];omega)] at heq;rw [aN (by have:=rG h84;omega)] at heq;exact heq,fun b o h=>uw b o (kr b o (hgm b o h))⟩
    intro h84
    try have O7:=dF h84
    refine kP H (SC (Rm O (Rd O (Ra O ?_))));clear H;intro a H;refine aj ?_;refine bE ((i,k+1,B,.slice vA B.length vc,Lo,G)) (by exact H.sub ⟨O,O,O,O,O,O,O,aI⟩) ?_
    (try dsimp only);exact ⟨hi,V,hrw,by rw [aL (show ¬ tot (bI S) S.length m i k=yg (bI S) S.length m i k by rw [yg,dS];omega)] at heq;rw [aL (by have:=of_decide_eq_false h84;omega)] at heq;exact heq,fun b o h=>uw b o (kr b o (hgm b o h))⟩
   intro fI a H
   try have p28:=dF fI
   refine dJ ?_;refine K8 _ _ ?_;clear K8;refine kP H (SR fun _ dG=>Rm O (av dG O ?_));clear H dG;intro a H;refine aU ?_
   have hend:lg (bI S) S.length m i k=[]:=by rw [lg,dif_neg V]
   rw [hend,lU] at heq;obtain ⟨Gr,hmr,hrep,H⟩:=St.kF (Li:=[]) (Lo:=Lo) H hrw (rows:=B.map jJ.dat) (by simp) (VH _ _);rw [heq] at hrep;refine lv H results22 O ?_;exact H.rt hrep
  intro aQ a H
  try have gP:=dF aQ
  refine kH H (aV aQ O (Pf aQ O (Kz aP (Cf O O ?_))));clear H aP;intro a H;refine dJ ?_;refine K8 _ _ ?_;clear K8;refine kP H (SR fun _ dR=>Rm O (av dR O ?_));clear H dR;intro a H;refine aU ?_
  have hend:lg (bI S) S.length m i k=[]:=by rw [lg,dif_neg V]
  rw [hend,lU] at heq;obtain ⟨Gr,hmr,hrep,H⟩:=St.kF (Li:=[]) (Lo:=Lo) H hrw (rows:=B.map jJ.dat) (by simp) (VH _ _);rw [heq] at hrep;refine lv H results22 O ?_;exact H.rt hrep
 intro h12 a H
 try have oJ:=dF h12
 exact absurd oJ V
theorem afq (G:GH) (w0:World) (hG:Hold G w0) (v:ak) (hv:aF G (.sl 1 (([]:List (List Int)).map nD)) v) :
  Calls prog 22 #[v] w0 (bQ w0 G fun r G'=>aF G' (.sl 3 ((lg (bI []) 0 0 0 0).map jJ.dat)) r):=by
 obtain ⟨A,c,rfl,hc1,hc2,-⟩:=hv.slice;refine eN [(0,_)] func22 O ntmps22 O O hG ?_;intro a H;refine kP H (SR fun _ K1=>av K1 O (SR fun _ K2=>Rm O (Rl iE O (Ra O (av K2 O (SQ fun _ K3=>SR fun _ K4=>Rm O (Rc O (Kz K4 (Cd O ?_ ?_))))))))) <;> clear H K1 K2 K4
 ·intro h12 a H
  try have oJ:=dT h12
  exact absurd oJ Y
 intro h12 a H
 try have oJ:=dF h12
 refine kP H (Kc K3 (SR fun _ K5=>Rm O (Rm O (Rm O ?_))));clear H K3;intro a H;refine s_call Tp H wn O (XE _ _ H.ro (S:=[]) (m:=0) ⟨(fun _ h=>by cases h),Y,(fun i k hi=>absurd hi (Nat.not_lt_zero _))⟩ _ hv) O ?_;clear H;rintro v20 zm a w Em Cv H;refine kH H (av K5 O (SR fun _ K6=>av K6 O (SR fun _ K7=>Ra O (av K7 O (SQ fun _ K8=>SB ?_)))));clear H K5 K6 K7;intro a H;skip;refine dY (ι:=GH) (Tc:=[(0,_),(3,_),(4,_),(5,_)]) (Lc:=[]) (fun gh=>[(6,.slice none 0 0),(7,vi 0),(8,vi 0)]) (fun gh=>[]) (fun gh=>zm) (fun gh=>True) (fun gh=>0) (zm) (by exact H.sub ⟨O,O,O,O,O,O,O,aI⟩) ?_ ?_
 ·trivial
 clear H;intro g a w hI H;skip;dsimp only [lca,bW] at H;refine kP H (SQ fun _ K9=>SR fun _ aP=>Rm O (Rm O (Rc O (Rm O (Sp 24 O ?_ ?_))))) <;> clear H
 ·intro aQ a H
  try have gP:=dT aQ
  exact absurd gP Y
 intro aQ a H
 try have gP:=dF aQ
 refine kH H (aV aQ O (Pf aQ O (Kz aP (Cf O O ?_))));clear H aP;intro a H;refine dJ ?_;refine K8 _ _ ?_;clear K8;exact kP H (SR fun _ aT=>Rm O (av aT O (LR results22 O fun H=>H.rt (by rw [lg,dif_neg V];exact aF.lD O Y))))
theorem afs (G:GH) (w0:World) (hG:Hold G w0) {S:List (List Int)} {m:Nat} (hS:Dw S m) (hm:(S.headD []).length=m) (v:ak) (hv:aF G (.sl 1 (S.map nD)) v) :
  Calls prog 22 #[v] w0 (bQ w0 G fun r G'=>aF G' (.sl 3 ((lg (bI S) S.length m 0 0).map jJ.dat)) r):=by
 cases S with
 | nil=>subst hm;exact afq G w0 hG v hv
 | cons r S=>exact afr G w0 hG (by simp) hS hm v hv

theorem Qv:prog.underlying 46=some (.slice 22):=by kernel_rfl
def D9 (l:List aD):List Dat:=[.sl 11 (l.map aD.dat)]
theorem acX {G:GH} {l:List aD} {cs:List ak} (h:aY G (D9 l) cs):∃ v,cs=[v]∧aF G (.sl 11 (l.map aD.dat)) v:=by
 simp only [D9,aY] at h
 obtain ⟨v1,_,rfl,h1,rfl⟩:=h;exact ⟨v1,O,h1⟩
theorem TR {G:GH} {l:List aD} {v:ak} (h:aF G (.sl 11 (l.map aD.dat)) v):aY G (D9 l) [v]:=by
 simp only [D9,aY];exact ⟨_,_,O,h,O⟩
set_option maxHeartbeats 1000000 in
theorem ahw (G:GH) (w0:World) (hG:Hold G w0) (fs:List (List aD)) (v:ak) (hv:aF G (.sl 1 (fs.map D9)) v) (hz:∀ l∈fs,cK l<=1073741823) (hl:fs.length<=1000) :
  Calls prog 5 #[v] w0 (bQ w0 G fun u G'=>∃ b,u=.bool b):=by
 obtain ⟨A,c,rfl,hc1,hc2,hg⟩:=hv.slice;rw [bJ] at *;refine eN [(0,_)] func5 O ntmps5 O O hG ?_;intro a H;refine kP H (SR fun _ K1=>av K1 O (SQ fun _ K2=>SR fun _ K3=>av K3 O (SB ?_)));clear H K1 K3;intro a H;skip;refine dY (ι:=Nat × GH) (Tc:=[(0,_)]) (Lc:=[]) (fun gh=>[(3,vi gh.1)]) (fun gh=>[]) (fun gh=>gh.2) (fun gh=>gh.1<=fs.length∧(∀ b o,G b=some o->gh.2 b=some o)) (fun gh=>fs.length - gh.1) ((0,G)) (by exact H.sub ⟨O,O,aI⟩) ?_ ?_
 ·exact ⟨fC _,fun _ _ h=>h⟩
 clear H;rintro ⟨k,g⟩ a w hI H;dsimp only at hI H;obtain ⟨hk,hgm⟩:=hI;dsimp only [lca,bW] at H;refine kP H (SQ fun _ K4=>SR fun _ K5=>Rm O (Rm O (Rl Qv O (Rc O (Kz K5 (Cd O ?_ ?_)))))) <;> clear H K5
 ·intro h9 a H
  try have p9:=dT h9
  have hk2:k < fs.length:=by omega
  obtain ⟨b,o,cs,rfl,-,hrow,hrep⟩:=hg k (D9 fs[k]) (by simp [hk2]);obtain ⟨v,rfl,hrv⟩:=acX hrep;replace hrow:=fun j u hj=>aK hgm (hrow j u hj);refine kP H (Kc K4 (SQ fun _ K6=>SB (SR fun _ K7=>Rm O (Rm O (Ri Qv lG O O (Rg lG O (by have h:=hrow 0 _ O;exact h) ?_))))));clear H K4;intro a H;refine s_call MU H wn O (Ya 1073741824 (bS _) _ _ H.ro fs[k] _ (hrv.mono hgm) (by have:=hz _ (dV hk2);omega)) rfl ?_;clear H;rintro v17 vM a w ⟨w17,d17,rfl,k1,k2,k3,k4⟩ mE H;refine kH H (Rm O ?_);clear H;intro a H;(iterate 2 refine eZ H wn O O O ?_;clear H;intro a H);refine kH H (Ra O (av K7 O (SR fun _ K8=>Rm O (Rc O (Rm O (Sp 22 O ?_ ?_)))))) <;> clear H K7
  ·intro h22 a H
   exact kH H (aO h22 O (Pt h22 O (Kz K8 (Ct O O (SR fun _ K9=>av K9 O (LR results5 O fun H=>H.rt ⟨_,O⟩))))))
  intro h22 a H
  try have mX:=dF h22
  refine kH H (YM h22 O (YC h22 O (Pf h22 O (Kz K8 (Cd O ?_ ?_))))) <;> clear H K8
  ·intro kN a H
   exact kP H (SR fun _ aP=>av aP O (LR results5 O fun H=>H.rt ⟨_,O⟩))
  intro kN a H
  try have p25:=dF kN
  refine kP H (Kc K6 (SC (Rm O (Rd O (Ra O ?_)))));clear H K6;intro a H;refine aj ?_;refine bE ((k+1,_)) (by exact H.sub ⟨O,O,aI⟩) ?_
  (try dsimp only);exact ⟨V,fun b o h=>mE b o (hgm b o h)⟩
 intro h9 a H
 refine dJ ?_;refine K2 _ _ ?_;clear K2;exact kP H (SR fun _ aT=>av aT O (LR results5 O fun H=>H.rt ⟨_,O⟩))
theorem ahm {α:Type} (κ:α->Int) (φ:α->ByteArray) (la lb:List α):kV Prod.fst Prod.snd (la.map fun x=>(κ x,φ x)) (lb.map fun x=>(κ x,φ x))=kV κ φ la lb:=by
 simp [kV,nG,xu,Function.comp_def]
theorem Zj {S:List (List Int)} (h:pV S=0):lg (bI S) S.length (S.headD []).length 0 0=pR S:=by rw [pR,aN h]
theorem abh:bL 23:=bN func23 O
theorem abg:bL 22:=bN func22 O
theorem abf:bL 21:=bN func21 O
theorem Nb:bL 7:=bN func7 O
theorem Nf:bL 8:=bN func8 O
theorem Ti:bL 20:=bN func20 O
theorem abF:bL 5:=bN func5 O
theorem Ja:bL 4:=bN func4 O
theorem XQ:prog.underlying 4=some .bool:=by kernel_rfl
theorem acn:bL 9:=bN func9 O
theorem RN (l:List iX):(l.map fun x=>(x.kind,x.text)).map Prod.snd=l.map iX.text:=by simp [Function.comp_def]
theorem RL (l:List iX):(l.map fun x=>(x.kind,x.text)).map Prod.fst=l.map iX.kind:=by simp [Function.comp_def]
theorem RO {Gt:GH} {l:List iX} (h:∀ x∈l,mO Gt x.text):∀ x∈l.map (fun x=>(x.kind,x.text)),mO Gt x.2:=fun x hx=>by
 obtain ⟨y,hy,rfl⟩:=List.mem_map.1 hx;exact h y hy
set_option maxHeartbeats 2000000 in
theorem Zt {Gt:GH} (G:GH) (w0:World) (hG:Hold G w0) (h0:∀ b o,Gt b=some o->G b=some o) (hT:yC Gt) (la lb:List aD) (va vb:ak) (hva:aF G (.sl 11 (la.map aD.dat)) va) (hvb:aF G (.sl 11 (lb.map aD.dat)) vb) (hza:cK la<=67108864) (hzb:cK lb<=67108864) (hla:la.length<=24) (hlb:lb.length<=24) (hda:ig la=true) (hdb:ig lb=true) :
  Calls prog 9 #[va,vb] w0 (bQ w0 G fun u G'=>u=.bool true):=by
 obtain ⟨A,n,c,rfl⟩:=hva.form;obtain ⟨B,m,d,rfl⟩:=hvb.form;have ha2:=BU la;have hb2:=BU lb;have ha3:=zF la;have hb3:=zF lb;have okA:=IL hT hza hda;have okB:=IL hT hzb hdb;have hml:maxLen=9223372036854775807:=rfl;refine eN [(0,_),(1,_)] func9 O ntmps9 O O hG ?_;intro a H;refine kP H (SR fun _ K1=>av K1 O (SR fun _ K2=>Rm O (Rm O ?_)));clear H K1;intro a H;refine s_call Nb H wn O (Mr _ _ H.ro h0 hT la lb _ _ hva hvb hza hzb hla hlb) O ?_;clear H;rintro v17 vM a w ⟨x17,rfl,OC⟩ mE H;rw [aN ⟨hda,hdb⟩] at H OC;obtain ⟨xA,xn,xc,rfl⟩:=OC.form;refine kH H (Rm O ?_);clear H;intro a H;(iterate 2 refine eZ H wn O O O ?_;clear H;intro a H);refine kH H (Ra O (av K2 O (SR fun _ K3=>Rm O ?_)));clear H K2;intro a H;refine s_call Nf H wn O (Ms _ _ H.ro la _ (hva.mono mE) hza) O ?_;clear H;rintro v22 Dq a w ⟨x22,rfl,Eo⟩ wu H;rw [aN hda] at H Eo;obtain ⟨sA,sn,sc,rfl⟩:=Eo.form
 obtain rfl:sn=(iM la).length:=by have:=Eo.len;simpa using this
 refine kH H (Rm O ?_);clear H;intro a H;(iterate 2 refine eZ H wn O O O ?_;clear H;intro a H);refine kH H (Ra O (av K3 O (SR fun _ K4=>Rm O ?_)));clear H K3;intro a H;refine s_call Ti H wn O (VD _ _ H.ro la _ ((hva.mono mE).mono wu) hza (DV hda)) O ?_;clear H;rintro v27 Yy a w ⟨x27,y27,rfl,hx27,hy27⟩ Ei H;obtain ⟨pA,pn,pc,rfl⟩:=hx27.form
 obtain rfl:pn=(iM la).length:=by have:=hx27.len;simpa using this
 obtain ⟨kA,kn,kc,rfl⟩:=hy27.form;refine kH H (Rm O ?_);clear H;intro a H;(iterate 2 refine eZ H wn O O O ?_;clear H;intro a H);refine kH H (Ra O (av K4 O (SR fun _ K5=>Rm O ?_)));clear H K4;intro a H;refine s_call Ti H wn O (VD _ _ H.ro lb _ (((hvb.mono mE).mono wu).mono Ei) hzb (DV hdb)) O ?_;clear H;rintro v32 BK a w ⟨x32,y32,rfl,hx32,hy32⟩ sQ H;obtain ⟨qA,qn,qc,rfl⟩:=hx32.form;obtain ⟨jA,jn,jc,rfl⟩:=hy32.form;replace Eo:=(Eo.mono Ei).mono sQ;replace hx27:=hx27.mono sQ;replace hy27:=hy27.mono sQ;have JZ:=((OC.mono wu).mono Ei).mono sQ;have aeb:∀ b o,Gt b=some o->BK b=some o:=fun b o h=>sQ _ _ (Ei _ _ (wu _ _ (mE _ _ (h0 b o h))));obtain ⟨M,hM⟩:∃ M,M=kV iX.kind iX.text (iM la) (iM lb):=⟨_,O⟩
 have Uw:pV M=0:=by rw [hM];exact Xb _ _ V V
 rw [<- hM] at JZ;refine kH H (Rm O ?_);clear H;intro a H;(iterate 2 refine eZ H wn O O O ?_;clear H;intro a H);refine kH H (Ra O (av K5 O (SQ fun _ K6=>SR fun _ K7=>Rm O (Rc O (Rm O (Sp 37 O ?_ ?_)))))) <;> clear H K5
 ·intro h37 a H
  exact absurd h37 Y
 intro h37 a H
 try have p37:=dF h37
 refine kH H (YM h37 O (YC h37 O (Pf h37 O (Rm O (Sp 41 O ?_ ?_))))) <;> clear H
 ·intro sM a H
  exact absurd sM Y
 intro sM a H
 try have p41:=dF sM
 refine kH H (YM sM O (YL kX sM O (YM sM O (YL kX sM O (YC sM O (Pf sM O (Kz K7 (Cd O ?_ ?_)))))))) <;> clear H K7
 ·intro h47 a H
  try have p47:=dT h47
  exact absurd O p47
 intro h47 a H
 try have p47:=dF h47
 refine kP H (Kc K6 (SQ fun _ K8=>SR fun _ K9=>av K9 O (SB ?_)));clear H K6 K9;intro a H;skip;refine dY (ι:=Nat × GH) (Tc:=[(5,_),(7,_),(9,_),(10,_),(11,_),(12,_)]) (Lc:=[]) (fun gh=>[(13,vi gh.1)]) (fun gh=>[]) (fun gh=>gh.2) (fun gh=>gh.1<=(iM la).length∧(∀ b o,BK b=some o->gh.2 b=some o)) (fun gh=>(iM la).length - gh.1) ((0,BK)) (by exact H.sub ⟨O,O,O,O,O,O,O,aI⟩) ?_ ?_
 ·exact ⟨fC _,fun _ _ h=>h⟩
 clear H;rintro ⟨k,g⟩ a w hI H;dsimp only at hI H;obtain ⟨hk,hgm⟩:=hI;dsimp only [lca,bW] at H;refine kP H (SQ fun _ aP=>SR fun _ aT=>Rm O (Rm O (Rl kX O (Rc O (Kz aT (Cd O ?_ ?_)))))) <;> clear H aT
 ·intro kI a H
  try have p51:=dT kI
  have hk2:k < (iM la).length:=by omega
  obtain ⟨b1,o1,rfl,g1⟩:=HY Eo (k:=k) (by simpa using hk2);obtain ⟨b2,o2,rfl,g2⟩:=HY hx27 (k:=k) (by simpa using hk2);obtain ⟨S,hS⟩:∃ S,S=((iM la).map iX.text)[k]'(by simpa using hk2):=⟨_,O⟩;rw [<- hS] at g1 g2;refine kP H (Kc aP (SQ fun _ bH=>SB (SQ fun _ bG=>?_)));clear H aP;intro a H;refine dI hmx [[],[],[0,1],[0,1,2],[],[],[4,5],[4,5,6],ra 0 8] [] Z [.slice (some ⟨b1,o1,none⟩) (iM la).length sc,vi k,(aJ b1 (o1+k*1)),.string S,.slice (some ⟨b2,o2,none⟩) (iM la).length pc,vi k,(aJ b2 (o2+k*1)),.string S,.bool false] H (aH ?_ ?_ ?_ ?_ (aH ?_ ?_ ?_ ?_ (eB ?_ fD))) ?_
  ·intro ay a w G1 _ ah hc hG HT hv;have H:=HT;clear ah;have Hb:=H.full;have H:=Hb;clear hc;refine kH H (Rm O ?_);clear H;intro a H;refine aj ⟨O,?_⟩;exact aB HT Hb hG hv (fun _ _ _ _ _ h=>h) H O
  ·intro ay a w G1 _ ah hc hG HT hv;have H:=HT;clear ah;have Hb:=H.full;have H:=Hb;clear hc;refine kH H (Rm O ?_);clear H;intro a H;refine aj ⟨O,?_⟩;exact aB HT Hb hG hv (fun _ _ _ _ _ h=>h) H O
  ·intro ay a w G1 _ ah hc hG HT hv;have H:=HT;clear ah;have H:=H.au (hv 0 54 (hc 0 Y) O) O;have H:=H.au (hv 1 55 (hc 1 Y) O) O;have Hb:=H.full;have H:=Hb;clear hc;refine bD kX iW k H wn O O O hk2 O ?_;clear H;intro a H;refine aj ⟨O,?_⟩;exact aB HT Hb hG hv (fun _ _ _ _ _ h=>h) H O
  ·intro ay a w G1 _ ah hc hG HT hv;have H:=HT;clear ah;have H:=H.au (hv 2 56 (hc 2 Y) O) O;have Hb:=H.full;have H:=Hb;clear hc;refine kH H (Rg iW O (aK hG (aK hgm g1)) ?_);clear H;intro a H;refine aj ⟨O,?_⟩;exact aB HT Hb hG hv (fun _ _ _ _ _ h=>h) H O
  ·intro ay a w G1 _ ah hc hG HT hv;have H:=HT;clear ah;have Hb:=H.full;have H:=Hb;clear hc;refine kH H (Rm O ?_);clear H;intro a H;refine aj ⟨O,?_⟩;exact aB HT Hb hG hv (fun _ _ _ _ _ h=>h) H O
  ·intro ay a w G1 _ ah hc hG HT hv;have H:=HT;clear ah;have Hb:=H.full;have H:=Hb;clear hc;refine kH H (Rm O ?_);clear H;intro a H;refine aj ⟨O,?_⟩;exact aB HT Hb hG hv (fun _ _ _ _ _ h=>h) H O
  ·intro ay a w G1 _ ah hc hG HT hv;have H:=HT;clear ah;have H:=H.au (hv 4 58 (hc 4 Y) O) O;have H:=H.au (hv 5 59 (hc 5 Y) O) O;have Hb:=H.full;have H:=Hb;clear hc;refine bD kX iW k H wn O O O hk2 O ?_;clear H;intro a H;refine aj ⟨O,?_⟩;exact aB HT Hb hG hv (fun _ _ _ _ _ h=>h) H O
  ·intro ay a w G1 _ ah hc hG HT hv;have H:=HT;clear ah;have H:=H.au (hv 6 60 (hc 6 Y) O) O;have Hb:=H.full;have H:=Hb;clear hc;refine kH H (Rg iW O (aK hG (aK hgm g2)) ?_);clear H;intro a H;refine aj ⟨O,?_⟩;exact aB HT Hb hG hv (fun _ _ _ _ _ h=>h) H O
  ·intro ay a w G1 _ ah hc hG HT hv;have H:=HT;clear ah;have H:=H.au (hv 3 57 (hc 3 Y) O) O;have H:=H.au (hv 7 61 (hc 7 Y) O) O;have Hb:=H.full;have H:=Hb;clear hc;refine WR H wn O O O ?_;clear H;intro a H;refine aj ⟨O,?_⟩
   exact oD Z (fun _ _ _ _ _ h=>h) O O HT Hb hG hv (fun _ _ h=>h) (by simp [jy] <;> rfl) H
  clear H;intro a w G yM H hv;have H:=H.au (hv 8 62 O O) O;clear hv;refine aj ⟨O,?_⟩;refine bG _ _ ?_;clear bG;refine vV H O O ?_;refine kP H (Kc bH (SC (Rm O (Rd O (Ra O ?_)))));clear H bH;intro a H;refine aj ?_;refine bE ((k+1,_)) (by exact H.sub ⟨O,O,O,O,O,O,O,aI⟩) ?_
  (try dsimp only);exact ⟨V,fun b o h=>yM _ _ (hgm b o h)⟩
 intro kI a H
 try have p51:=dF kI
 refine dJ ?_;refine K8 _ _ ?_;clear K8;refine kP H (SR fun _ bX=>Rm O (Rm O (Rm O (Rm O (Rm O ?_)))));clear H;intro a H;refine s_call abh H wn O (afp _ _ H.ro (fun b o h=>hgm _ _ (aeb b o h)) ((iM la).map fun x=>(x.kind,x.text)) ((iM lb).map fun x=>(x.kind,x.text)) _ _ _ _ (by rw [RN];exact hx27.mono hgm) (by rw [RN];exact hx32.mono hgm) (by rw [RL];exact hy27.mono hgm) (by rw [RL];exact hy32.mono hgm) (RO okA) (RO okB) (by rw [bJ];omega) (by rw [bJ];omega)) rfl ?_;clear H;rintro v68 G68 a w Og aeh H;rw [ahm iX.kind,<- hM] at Og;obtain ⟨mA,mn,mc,rfl⟩:=Og.form;refine s_call abg H wn O (afs _ _ H.ro (ZX Uw) O _ Og) O ?_;clear H;rintro v69 YH a w Oh UE H;rw [Zj Uw] at Oh;obtain ⟨eA,en,ec,rfl⟩:=Oh.form;refine s_call abf H wn O (ahb _ _ H.ro (pR M) _ _ (((JZ.mono hgm).mono aeh).mono UE) Oh) O ?_;clear H;rintro v70 G70 a w rfl ajW H;exact kH H (av bX O (LR results9 O fun H=>H.rt O))
set_option maxHeartbeats 2000000 in
theorem Zk (G:GH) (w0:World) (hG:Hold G w0) (hT:yC G) (la lb:List aD) (va vb:ak) (hva:aF G (.sl 11 (la.map aD.dat)) va) (hvb:aF G (.sl 11 (lb.map aD.dat)) vb) (hza:cK la<=67108864) (hzb:cK lb<=67108864) :
  Calls prog 3 #[va,vb] w0 (bQ w0 G fun u G'=>u=.bool true):=by
 obtain ⟨A,c,rfl,hc1,hc2,-⟩:=hva.slice;obtain ⟨B,d,rfl,hd1,hd2,-⟩:=hvb.slice;have hml:maxLen=9223372036854775807:=rfl;(iterate 2 rw [bJ] at *);refine eN [(0,_),(1,_)] func3 O ntmps3 O O hG ?_;intro a H;refine kP H (SR fun _ K1=>av K1 O (SQ fun _ K2=>SR fun _ K3=>?_));clear H K1;intro a H;refine s_call Ja H wn O (J6 _ _ H.ro) O ?_;clear H;rintro v9 G9 a w rfl zW H;refine kH H (Rn O (Rm O (Sp 11 O ?_ ?_))) <;> clear H
 ·intro h11 a H
  exact absurd h11 Y
 intro h11 a H
 try have oI:=dF h11
 refine kH H (YM h11 O (YM h11 O ?_));clear H;intro a H;refine KE Qv lG [[.slice A la.length c],[.slice B lb.length d]] H (wg H O O h11) O O O O O O O ?_;clear H;intro b14 a w adF H;obtain ⟨Ga,hma,aec,H⟩:=H.kE
 refine s_call abF H (wg H O O h11) O (ahw _ _ H.ro [la,lb] _ (aF.rV (xs:=[_,_]) aec O (bS _) Y O (by simpa using ((cO.nil (sz:=1)).snoc (TR ((hva.mono zW).mono hma)) O).snoc (TR ((hvb.mono zW).mono hma)) O)) (fun l hl=>by
  rcases nT.1 hl with rfl|hl
  ·omega
  rw [uP.1 hl];omega) (by simp)) O ?_;clear H
 rintro v15 Ar a w ⟨b15,rfl⟩ sP H;have mD:∀ b o,G b=some o->Ar b=some o:=fun b o h=>sP _ _ (hma _ _ (zW _ _ h));refine kH H (YN h11 O (Pf h11 O (Rm O (Sp 18 O ?_ ?_)))) <;> clear H
 ·intro h18 a H
  try have nY:=dT h18
  refine kH H (aV h18 O (Pt h18 O (Rm O (aV O O (Pt O O (Kz K3 (Ct O O (SR fun _ K4=>?_))))))));clear H K3;intro a H;refine s_call Ja H wn O (J6 _ _ H.ro) O ?_;clear H;rintro v28 Aw a w rfl Cy H;refine kH H (av K4 O ?_);clear H K4;intro a H;refine lr H results3 O ?_
  first
  | exact H.rt O
  | exact H.rt (by simp;omega)
 intro h18 a H
 try have nY:=dF h18
 refine kH H (YM h18 O (YL iB h18 O (YC h18 O (Pf h18 O (Rm O (Sp 23 O ?_ ?_)))))) <;> clear H
 ·intro h23 a H
  try have CS:=dT h23
  refine kH H (aV h23 O (Pt h23 O (Kz K3 (Ct O O (SR fun _ K5=>?_)))));clear H K3;intro a H;refine s_call Ja H wn O (J6 _ _ H.ro) O ?_;clear H;rintro v28 Aw a w rfl Cy H;refine kH H (av K5 O ?_);clear H K5;intro a H;refine lr H results3 O ?_
  first
  | exact H.rt O
  | exact H.rt (by simp;omega)
 intro h23 a H
 try have CS:=dF h23
 refine kH H (YM h23 O (YL iB h23 O (YC h23 O (Pf h23 O (Kz K3 (Cd O ?_ ?_)))))) <;> clear H K3
 ·intro h27 a H
  try have p27:=dT h27
  refine gU (fun _ K6=>?_);refine s_call Ja H wn O (J6 _ _ H.ro) O ?_;clear H;rintro v28 Aw a w rfl Cy H;refine kH H (av K6 O ?_);clear H K6;intro a H;refine lr H results3 O ?_
  first
  | exact H.rt O
  | exact H.rt (by simp;omega)
 intro h27 a H
 try have p27:=dF h27
 refine kP H (Kc K2 (SQ fun _ K7=>SR fun _ K8=>Rm O ?_));clear H K2;intro a H;refine s_call Ce H wn O (J9 _ _ H.ro la _ (hva.mono mD) V) O ?_;clear H;rintro v30 Dr a w rfl jr H;refine kH H (Rn O (Rm O (Sp 32 O ?_ ?_))) <;> clear H
 ·intro h32 a H
  try have p32:=dT h32
  refine kH H (aV h32 O (Pt h32 O (Kz K8 (Ct O O (SQ fun _ K9=>?_)))));clear H K8;intro a H
  have hnd:¬ (ig la=true∧ig lb=true):=fun hh=>by simp_all
  refine kP H (SC (Rm O (Rm O ?_)));clear H;intro a H;refine s_call Nb H wn O (Mr _ _ H.ro (fun b o h=>by first|exact jr _ _ (mD b o h)|exact uz _ _ (jr _ _ (mD b o h))) hT la lb _ _ (by first|exact (hva.mono mD).mono jr|exact ((hva.mono mD).mono jr).mono uz) (by first|exact (hvb.mono mD).mono jr|exact ((hvb.mono mD).mono jr).mono uz) hza hzb V V) O ?_;clear H;rintro v40 LD a w ⟨x40,rfl,xO⟩ sS H;rw [aL hnd] at H xO;obtain ⟨xA,xn,xc,rfl⟩:=xO.form
  obtain rfl:xn=0:=by have:=xO.len;simpa using this
  refine kH H (Rm O ?_);clear H;intro a H;(iterate 2 refine eZ H wn O O O ?_;clear H;intro a H);refine kH H (Ra O (bO K9 O (SR fun _ aP=>Rm O ?_)));clear H K9;intro a H;refine s_call Nf H wn O (Ms _ _ H.ro la _ (by first|exact ((hva.mono mD).mono jr).mono sS|exact (((hva.mono mD).mono jr).mono uz).mono sS) hza) O ?_;clear H;rintro v45 YE a w ⟨x45,rfl,OD⟩ Gy H;obtain ⟨yA,yn,yc,rfl⟩:=OD.form;obtain ⟨fe,hfe⟩:∃ fe:Int,fe=if ig la=true then 0 else 12:=⟨_,O⟩;rw [<- hfe] at H
  have NY:decide (fe=0)=ig la:=by rw [hfe];cases ig la <;> rfl
  have hf2:fe=0∨fe=12:=by rw [hfe];cases ig la <;> simp
  refine kH H (Rm O ?_);clear H;intro a H;(iterate 2 refine eZ H wn O O O ?_;clear H;intro a H);refine kH H (Ra O (av aP O (SR fun _ aT=>Rm O (Rc O (Rm O (Sp 50 O ?_ ?_)))))) <;> clear H aP
  ·intro h50 a H
   try have p50:=dT h50
   refine kH H (YM h50 O (YL vJ h50 O (YC h50 O (Pt h50 O (Rm O (Sp 55 O ?_ ?_)))))) <;> clear H
   ·intro kJ a H
    try have p55:=dT kJ
    refine kH H (YM kJ O (YC kJ O (YM kJ O ?_)));clear H;intro a H;refine s_call Ce H (wg H O O kJ) O (J9 _ _ H.ro la _ (by first|exact (((hva.mono mD).mono jr).mono sS).mono Gy|exact ((((hva.mono mD).mono jr).mono uz).mono sS).mono Gy) V) O ?_;clear H;rintro v59 zq a w rfl zV H;rw [<- NY] at H;refine WO XQ H (wg H O O kJ) O O O ?_;clear H;intro a H;refine kH H (Pt kJ O (Rm O (Sp 62 O ?_ ?_))) <;> clear H
    ·intro kK a H
     try have p62:=dT kK
     refine kH H (YM kK O (YC kK O (YM kK O (Sp 65 O ?_ ?_)))) <;> clear H
     ·intro nV a H
      try have p65:=dT nV
      refine kH H (aO nV O (PT kK nV O (Pt kK O (av aT O ?_))));clear H aT;intro a H;refine lr H results3 O ?_
      first
      | exact H.rt O
      | exact H.rt (by simp;omega)
     intro nV a H
     try have p65:=dF nV
     refine kH H (YM nV O (YC nV O (PF kK nV O (Pt kK O (av aT O ?_)))));clear H aT;intro a H;refine lr H results3 O ?_
     first
     | exact H.rt O
     | exact H.rt (by simp;omega)
    intro kK a H
    exact absurd kK (by simp)
   intro kJ a H
   exact absurd kJ Y
  intro h50 a H
  exact absurd h50 Y
 intro h32 a H
 try have p32:=dF h32
 refine kH H (YM h32 O ?_);clear H;intro a H;refine s_call Ce H (wg H O O h32) O (J9 _ _ H.ro lb _ ((hvb.mono mD).mono jr) V) O ?_;clear H;rintro v34 Yz a w rfl uz H;refine kH H (YN h32 O (Pf h32 O (Kz K8 (Cd O ?_ ?_)))) <;> clear H K8
 ·intro jS a H
  try have p36:=dT jS
  refine gy (fun _ bH=>?_)
  have hnd:¬ (ig la=true∧ig lb=true):=fun hh=>by simp_all
  refine kP H (SC (Rm O (Rm O ?_)));clear H;intro a H;refine s_call Nb H wn O (Mr _ _ H.ro (fun b o h=>by first|exact jr _ _ (mD b o h)|exact uz _ _ (jr _ _ (mD b o h))) hT la lb _ _ (by first|exact (hva.mono mD).mono jr|exact ((hva.mono mD).mono jr).mono uz) (by first|exact (hvb.mono mD).mono jr|exact ((hvb.mono mD).mono jr).mono uz) hza hzb V V) O ?_;clear H;rintro v40 LD a w ⟨x40,rfl,xO⟩ sS H;rw [aL hnd] at H xO;obtain ⟨xA,xn,xc,rfl⟩:=xO.form
  obtain rfl:xn=0:=by have:=xO.len;simpa using this
  refine kH H (Rm O ?_);clear H;intro a H;(iterate 2 refine eZ H wn O O O ?_;clear H;intro a H);refine kH H (Ra O (bO bH O (SR fun _ bG=>Rm O ?_)));clear H bH;intro a H;refine s_call Nf H wn O (Ms _ _ H.ro la _ (by first|exact ((hva.mono mD).mono jr).mono sS|exact (((hva.mono mD).mono jr).mono uz).mono sS) hza) O ?_;clear H;rintro v45 YE a w ⟨x45,rfl,OD⟩ Gy H;obtain ⟨yA,yn,yc,rfl⟩:=OD.form;obtain ⟨fe,hfe⟩:∃ fe:Int,fe=if ig la=true then 0 else 12:=⟨_,O⟩;rw [<- hfe] at H
  have NY:decide (fe=0)=ig la:=by rw [hfe];cases ig la <;> rfl
  have hf2:fe=0∨fe=12:=by rw [hfe];cases ig la <;> simp
  refine kH H (Rm O ?_);clear H;intro a H;(iterate 2 refine eZ H wn O O O ?_;clear H;intro a H);refine kH H (Ra O (av bG O (SR fun _ bX=>Rm O (Rc O (Rm O (Sp 50 O ?_ ?_)))))) <;> clear H bG
  ·intro h50 a H
   try have p50:=dT h50
   refine kH H (YM h50 O (YL vJ h50 O (YC h50 O (Pt h50 O (Rm O (Sp 55 O ?_ ?_)))))) <;> clear H
   ·intro kJ a H
    try have p55:=dT kJ
    refine kH H (YM kJ O (YC kJ O (YM kJ O ?_)));clear H;intro a H;refine s_call Ce H (wg H O O kJ) O (J9 _ _ H.ro la _ (by first|exact (((hva.mono mD).mono jr).mono sS).mono Gy|exact ((((hva.mono mD).mono jr).mono uz).mono sS).mono Gy) V) O ?_;clear H;rintro v59 zq a w rfl zV H;rw [<- NY] at H;refine WO XQ H (wg H O O kJ) O O O ?_;clear H;intro a H;refine kH H (Pt kJ O (Rm O (Sp 62 O ?_ ?_))) <;> clear H
    ·intro kK a H
     try have p62:=dT kK
     refine kH H (YM kK O (YC kK O (YM kK O (Sp 65 O ?_ ?_)))) <;> clear H
     ·intro nV a H
      try have p65:=dT nV
      refine kH H (aO nV O (PT kK nV O (Pt kK O (av bX O ?_))));clear H bX;intro a H;refine lr H results3 O ?_
      first
      | exact H.rt O
      | exact H.rt (by simp;omega)
     intro nV a H
     try have p65:=dF nV
     refine kH H (YM nV O (YC nV O (PF kK nV O (Pt kK O (av bX O ?_)))));clear H bX;intro a H;refine lr H results3 O ?_
     first
     | exact H.rt O
     | exact H.rt (by simp;omega)
    intro kK a H
    exact absurd kK (by simp)
   intro kJ a H
   exact absurd kJ Y
  intro h50 a H
  exact absurd h50 Y
 intro jS a H
 try have p36:=dF jS
 have hda:ig la=true:=by simpa using h32
 have hdb:ig lb=true:=by simpa using jS
 refine kP H (Kc K7 (SR fun _ dG=>Rm O (Rm O ?_)));clear H K7;intro a H;refine s_call acn H wn O (Zt _ _ H.ro (fun b o h=>uz _ _ (jr _ _ (mD b o h))) hT la lb _ _ (((hva.mono mD).mono jr).mono uz) (((hvb.mono mD).mono jr).mono uz) hza hzb V V hda hdb) O ?_;clear H;rintro v72 G72 a w rfl ajX H;refine kH H (av dG O ?_);clear H dG;intro a H;refine lr H results3 O ?_
 first
 | exact H.rt rfl
 | exact H.rt (by simp;omega)
section
open Go.ChangeShapes Go.RowKit Go.Deep
abbrev vo (W:World):GH:=fun k=>W.heap[k]?
theorem Jl {W:World} {b o:Nat} {v:ak} (h:W.cell? ⟨b,o,none⟩=some v):aS (vo W) b o=some v:=by
 unfold World.cell? at h
 unfold aS vo
 split at h
 ·rename_i c e f hh
  simp only at hh
  rw [hh];simpa using h
 cases h
theorem Vv {α:Type} {p:Nat->α->Prop}:∀ n:Nat,(∀ i,i < n->∃ x,p i x)->∃ l:List α,l.length=n∧∀ i x,l[i]?=some x->p i x
 | 0,_=>⟨[],O,fun i x h=>by simp at h⟩
 | n+1,h=>by
  obtain ⟨l,hl,hp⟩:=Vv n (fun i hi=>h i V);obtain ⟨x,hx⟩:=h n V;refine ⟨l++[x],by simp [hl],fun i y hy=>?_⟩
  by_cases hi:i < l.length
  ·exact hp i y (by rwa [rH hi] at hy)
  rw [sG V] at hy
  have hin:i - l.length=0:=by
   have:=(gN.1 hy).1
   simp at this;omega
  rw [hin] at hy
  simp only [zx,kZ] at hy
  subst hy;rw [show i=n by omega];exact hx
theorem Zz {H:Type} (d:DataW H):1<=Rows.uptoBulk d:=by
 cases d <;> (try simp only [Rows.uptoBulk]) <;> (try omega)
 rename_i x;cases x <;> simp only [Rows.uptoBulk] <;> omega
theorem R5 {H ρ:Type} {dat:ρ->List Dat}:∀ (rs:List ρ) (D:Nat->DataW H),(∀ i r,rs[i]?=some r->iy (dat r)+1<=8*Rows.uptoBulk (D i))->fM (rs.map dat)<=8*Rows.uptoBulkAll ((List.range rs.length).map D)
 | [],D,_=>fC _
 | r :: rs,D,h=>by
  have h0:=h 0 r O;have hp:=Zz (D 0);have ih:=R5 rs (fun i=>D (i+1)) (fun i r hr=>h (i+1) r (by simpa using hr));rw [ko,List.range_succ_eq_map]
  simp only [gV,List.map_map,fM,Rows.uptoBulkAll]
  have e:(List.map (D ∘ Nat.succ) (List.range rs.length))=(List.map (fun i=>D (i+1)) (List.range rs.length)):=rfl;rw [e];omega
theorem RZ {H:Type} {D:Nat->DataW H}:∀ {n i:Nat},i < n->Rows.uptoBulk (D i)<=Rows.uptoBulkAll ((List.range n).map D)
 | 0,i,h=>absurd h V
 | n+1,i,h=>by
  have key:∀ (l m:List (DataW H)),Rows.uptoBulkAll (l++m)=Rows.uptoBulkAll l+Rows.uptoBulkAll m:=by
   intro l m
   induction l with
   | nil=>simp [Rows.uptoBulkAll]
   | cons x l ih=>simp only [nU,Rows.uptoBulkAll,ih];omega
  rw [List.range_succ,jw,key]
  by_cases hi:i < n
  ·have:=RZ (D:=D) hi;omega
  have:i=n:=by omega
  subst this
  simp only [gV,tY,Rows.uptoBulkAll];omega
section
variable {H:Type} {enc:TypeId × ak->H} {P:Program} {W:World} {base:Nat} {spare:Nat->Bool} {held:Bool}
theorem Bp {ρ:Type} {dat:ρ->List Dat} {t e:TypeId} {sz:Nat} (hsz:0 < sz) {fuel:Nat} {cs:List ak} {x:DataW H × List MemPlace} (ht:P.underlying t=some (.slice e)) (hc:P.cellsOf e=sz) (h:DataW.trod enc P W base spare held fuel t cs=some x)
  (row:∀ n cs' D Pl,DataW.trod enc P W base spare held n e cs'=some (D,Pl)->Rows.uptoBulk D < Rows.uptoBulk x.1->∃ r:ρ,aY (vo W) (dat r) cs'∧iy (dat r)+1<=8*Rows.uptoBulk D) :
  ∃ (rs:List ρ) (v:ak),cs=[v]∧aF (vo W) (.sl sz (rs.map dat)) v∧fM (rs.map dat)+8<=8*Rows.uptoBulk x.1:=by
 rcases open_slice ht h with ⟨rfl,rfl⟩|⟨a,len,cap,m,n,D,Pl,rfl,hb,hl,hm,hmm,rfl,hx⟩
 ·exact ⟨[],_,O,aF.lD O Y,by simp [fM,Rows.uptoBulk]⟩
 obtain ⟨rs,hrl,hrs⟩:=Vv (p:=fun i (r:ρ)=>∃ cs',W.cells? base (a.add (i*sz)) sz=some cs'∧aY (vo W) (dat r) cs'∧iy (dat r)+1<=8*Rows.uptoBulk (D i)) len (fun i hi=>by
  have him:i < m:=by rw [hmm];split <;> omega
  obtain ⟨cs',h1,h2⟩:=hx i him;rw [hc] at h1;have hb1:=RZ (D:=D) hi;obtain ⟨r,hr1,hr2⟩:=row n cs' (D i) (Pl i) h2 (by simp only [Rows.uptoBulk];omega)
  exact ⟨r,cs',h1,hr1,hr2⟩)
 refine ⟨rs,_,O,?_,?_⟩
 ·simp only [aF,bJ]
  refine ⟨some a,cap,by rw [hrl],V,hm,fun hne=>?_⟩;obtain ⟨b,off,spot⟩:=a
  have hlen:0 < rs.length:=by cases rs with|nil=>simp at hne|cons _ _=>simp
  obtain ⟨cs0,h1,-,-⟩:=hrs 0 rs[0] (iR hlen);obtain ⟨-,hl0,hg0⟩:=World.cells?_some h1
  have hspot:spot=none:=by
   have h3:=hg0 0 hsz;rw [iR V] at h3
   simpa [Addr.add] using World.cell?_spot h3
  subst hspot;refine ⟨b,off,O,lS.mk fun k r hk=>?_⟩;rw [nM] at hk;obtain ⟨y,hy,rfl⟩:=mZ.1 hk;obtain ⟨cs',h2,h3,-⟩:=hrs k y hy;obtain ⟨-,hl1,hg1⟩:=World.cells?_some h2;refine ⟨cs',hl1,fun j u hj=>Jl ?_,h3⟩
  have hj2:j < sz:=by rw [<- hl1];exact (gN.1 hj).1
  have:=hg1 j hj2;rw [add_add,Go.WideShapes.add_plain] at this;rw [show off+k*sz+j=off+(k*sz+j) by omega,this];exact hj
 have:=R5 rs D (fun i r hr=>(hrs i r hr).choose_spec.2.2);rw [hrl] at this
 simp only [Rows.uptoBulk];omega
end
structure zw (P:Program) (t:TypeId) (sz:Nat) (fs:List (TypeId × Nat × Nat)):Prop where
 und:P.underlying t=some (.struct (P.fieldsOf t))
 cells:P.cellsOf t=sz
 Ba:(P.fieldsOf t).toList.map (fun f=>(f.type,f.offset,P.cellsOf f.type))=fs
theorem Bq {P:Program} {H:Type} {enc:TypeId × ak->H} {W:World} {base:Nat} {spare:Nat->Bool} {held:Bool} {t:TypeId} {sz fuel:Nat} {fs:List (TypeId × Nat × Nat)} {cs:List ak} {x:DataW H × List MemPlace} (hs:zw P t sz fs) (h:DataW.trod enc P W base spare held fuel t cs=some x) :
  ∃ (xs:List (DataW H × List MemPlace)) (n:Nat),x.1=.agg (xs.map (·.1))∧cs.length=sz∧xs.length=fs.length∧∀ (i:Nat) (ti:TypeId) (off k:Nat),fs[i]?=some (ti,off,k)->DataW.trod enc P W base spare held n ti ((cs.drop off).take k)=xs[i]?:=by
 obtain ⟨xs,n,-,rfl,hl,hxl,hf⟩:=DataW.trod_struct hs.und h;refine ⟨xs,n,O,by rw [hl,hs.cells],by rw [hxl,<- hs.Ba];simp,fun i ti off k hi=>?_⟩;rw [<- hs.Ba,nM] at hi;obtain ⟨f,hf1,hf2⟩:=mZ.1 hi
 simp only [gY] at hf2
 obtain ⟨rfl,rfl,rfl⟩:=hf2;exact hf i f (by simpa using hf1)
section
variable {H:Type} {enc:TypeId × ak->H} {W:World} {base:Nat} {spare:Nat->Bool} {held:Bool}
theorem ahj:zw prog 215 2 [(3,0,1),(3,1,1)]:=⟨Z,Z,Z⟩
theorem agf {n:Nat} {cs:List ak} {D:DataW H} {Pl:List MemPlace} (h:DataW.trod enc prog W base spare held n 215 cs=some (D,Pl)):∃ r:mg,aY (vo W) r.dat cs∧iy r.dat+1<=8*Rows.uptoBulk D:=by
 obtain ⟨xs,m,hx,hl,hxl,hf⟩:=Bq ahj h
 match cs,hl,xs,hxl with
 | [c0,c1],_,[y0,y1],_ =>
  have h0:=hf 0 _ _ _ O;have h1:=hf 1 _ _ _ O;obtain ⟨k0,e0,d0,-⟩:=DataW.trod_int underlying3 h0;obtain ⟨k1,e1,d1,-⟩:=DataW.trod_int underlying3 h1
  simp at e0 e1
  subst e0 e1
  simp only at hx
  refine ⟨⟨k0,k1⟩,?_,?_⟩
  ·simp [aY,mg.dat,aF,Value.oneCell']
  rw [hx];simp [d0,d1,mg.dat,iy,Bz,Rows.uptoBulk,Rows.uptoBulkAll]
theorem ahe:zw prog 218 2 [(3,0,1),(3,1,1)]:=⟨Z,Z,Z⟩
theorem agc {n:Nat} {cs:List ak} {D:DataW H} {Pl:List MemPlace} (h:DataW.trod enc prog W base spare held n 218 cs=some (D,Pl)):∃ r:lI,aY (vo W) r.dat cs∧iy r.dat+1<=8*Rows.uptoBulk D:=by
 obtain ⟨xs,m,hx,hl,hxl,hf⟩:=Bq ahe h
 match cs,hl,xs,hxl with
 | [c0,c1],_,[y0,y1],_ =>
  have h0:=hf 0 _ _ _ O;have h1:=hf 1 _ _ _ O;obtain ⟨k0,e0,d0,-⟩:=DataW.trod_int underlying3 h0;obtain ⟨k1,e1,d1,-⟩:=DataW.trod_int underlying3 h1
  simp at e0 e1
  subst e0 e1
  simp only at hx
  refine ⟨⟨k0,k1⟩,?_,?_⟩
  ·simp [aY,lI.dat,aF,Value.oneCell']
  rw [hx];simp [d0,d1,lI.dat,iy,Bz,Rows.uptoBulk,Rows.uptoBulkAll]
theorem ahh:zw prog 221 4 [(3,0,1),(3,1,1),(3,2,1),(4,3,1)]:=⟨Z,Z,Z⟩
theorem agd {n:Nat} {cs:List ak} {D:DataW H} {Pl:List MemPlace} (h:DataW.trod enc prog W base spare held n 221 cs=some (D,Pl)):∃ r:lQ,aY (vo W) r.dat cs∧iy r.dat+1<=8*Rows.uptoBulk D:=by
 obtain ⟨xs,m,hx,hl,hxl,hf⟩:=Bq ahh h
 match cs,hl,xs,hxl with
 | [c0,c1,c2,c3],_,[y0,y1,y2,y3],_ =>
  have h0:=hf 0 _ _ _ O;have h1:=hf 1 _ _ _ O;have h2:=hf 2 _ _ _ O;have h3:=hf 3 _ _ _ O;obtain ⟨k0,e0,d0,-⟩:=DataW.trod_int underlying3 h0;obtain ⟨k1,e1,d1,-⟩:=DataW.trod_int underlying3 h1;obtain ⟨k2,e2,d2,-⟩:=DataW.trod_int underlying3 h2;obtain ⟨k3,e3,d3⟩:=DataW.trod_bool underlying4 h3
  simp at e0 e1 e2 e3
  subst e0 e1 e2 e3
  simp only at hx
  refine ⟨⟨k0,k1,k2,k3⟩,?_,?_⟩
  ·simp [aY,lQ.dat,aF,Value.oneCell']
  rw [hx];simp [d0,d1,d2,d3,lQ.dat,iy,Bz,Rows.uptoBulk,Rows.uptoBulkAll]
theorem ahi:zw prog 53 4 [(3,0,1),(3,1,1),(50,2,1),(51,3,1)]:=⟨Z,Z,Z⟩
theorem ahf:zw prog 55 5 [(49,0,1),(53,1,4)]:=⟨Z,Z,Z⟩
theorem ZP:prog.cellsOf 215=2:=by kernel_rfl
theorem ZN:prog.cellsOf 218=2:=by kernel_rfl
theorem ZO:prog.cellsOf 221=4:=by kernel_rfl
theorem Ph {n:Nat} {cs:List ak} {x:DataW H × List MemPlace} (h:DataW.trod enc prog W base spare held n 55 cs=some x):∃ (r:jZ) (p d l:ak),cs=[p,vi r.marks.ins,vi r.marks.move,d,l]∧og (vo W) r p d l∧wO r+15<=8*Rows.uptoBulk x.1:=by
 obtain ⟨xs,m,hx,hl,hxl,hf⟩:=Bq ahf h
 match cs,hl,xs,hxl with
 | [c0,c1,c2,c3,c4],_,[y0,y1],_ =>
  have h0:=hf 0 _ _ _ O;have h1:=hf 1 _ _ _ O;obtain ⟨ps,pv,e0,rp,sp⟩:=Bp (dat:=mg.dat) (sz:=2) V underlying49 ZP h0 (fun n cs' D Pl hh _=>agf hh);obtain ⟨zs,m2,hz,hzl,hzx,J3⟩:=Bq ahi h1
  match zs,hzx with
  | [z0,z1,z2,z3],_ =>
   have g0:=J3 0 _ _ _ O;have g1:=J3 1 _ _ _ O;have g2:=J3 2 _ _ _ O;have g3:=J3 3 _ _ _ O;obtain ⟨k0,e1,d0,-⟩:=DataW.trod_int underlying3 g0;obtain ⟨k1,e2,d1,-⟩:=DataW.trod_int underlying3 g1;obtain ⟨ds,dv,e3,rd,sd⟩:=Bp (dat:=lI.dat) (sz:=2) V underlying50 ZN g2 (fun n cs' D Pl hh _=>agc hh);obtain ⟨ls,lv,e4,rl,sl⟩:=Bp (dat:=lQ.dat) (sz:=4) V underlying51 ZO g3 (fun n cs' D Pl hh _=>agd hh)
   simp at e0 e1 e2 e3 e4
   subst e0 e1 e2 e3 e4;refine ⟨⟨ps,⟨k0,k1,ds,ls⟩⟩,_,_,_,O,⟨rp,rd,rl⟩,?_⟩;have Vf:=QC ⟨ps,⟨k0,k1,ds,ls⟩⟩
   simp only at Vf
   rw [hx]
   simp only [gV,tY,Rows.uptoBulk,Rows.uptoBulkAll,hz,d0,d1]
   omega
theorem ahg:zw prog 58 11 [(3,0,1),(3,1,1),(3,2,1),(9,3,1),(55,4,5),(22,9,1),(56,10,1)]:=⟨Z,Z,Z⟩
theorem ahk:zw prog 63 6 [(55,0,5),(61,5,1)]:=⟨Z,Z,Z⟩
theorem ahd:zw prog 80 7 [(3,0,1),(55,1,5),(22,6,1)]:=⟨Z,Z,Z⟩
theorem MH:prog.cellsOf 58=11:=by kernel_rfl
theorem ZQ:prog.cellsOf 63=6:=by kernel_rfl
theorem ZM:prog.cellsOf 80=7:=by kernel_rfl
theorem Wi:∀ (N:Nat) (n:Nat) (cs:List ak) (D:DataW H) (Pl:List MemPlace),DataW.trod enc prog W base spare held n 58 cs=some (D,Pl)->Rows.uptoBulk D < N->∃ r:aD,aY (vo W) r.dat cs∧iy r.dat+1<=8*Rows.uptoBulk D
 | 0,_,_,_,_,_,hN=>absurd hN V
 | N+1,n,cs,D,Pl,h,hN=>by
  have ih:=Wi N;obtain ⟨xs,m,hx,hl,hxl,hf⟩:=Bq ahg h
  match cs,hl,xs,hxl with
  | [c0,c1,c2,c3,c4,c5,c6,c7,c8,c9,c10],_,[y0,y1,y2,y3,y4,y5,y6],_ =>
   have h0:=hf 0 _ _ _ O;have h1:=hf 1 _ _ _ O;have h2:=hf 2 _ _ _ O;have h3:=hf 3 _ _ _ O;have h4:=hf 4 _ _ _ O;have h5:=hf 5 _ _ _ O;have h6:=hf 6 _ _ _ O
   simp only at hx
   have hD:Rows.uptoBulk D=Rows.uptoBulk y0.1+(Rows.uptoBulk y1.1+(Rows.uptoBulk y2.1+(Rows.uptoBulk y3.1+(Rows.uptoBulk y4.1+(Rows.uptoBulk y5.1+(Rows.uptoBulk y6.1+0))))))+1:=by
    rw [hx];simp only [gV,tY,Rows.uptoBulk,Rows.uptoBulkAll]
   obtain ⟨k0,e0,d0,-⟩:=DataW.trod_int underlying3 h0;obtain ⟨k1,e1,d1,-⟩:=DataW.trod_int underlying3 h1;obtain ⟨k2,e2,d2,-⟩:=DataW.trod_int underlying3 h2;obtain ⟨s,e3,d3,-⟩:=DataW.trod_string underlying9 h3;obtain ⟨hd,p,d,l,e4,rh,sh⟩:=Ph h4;obtain ⟨fl,fv,e5,rf,sf⟩:=Bp (dat:=aD.dat) (sz:=11) V underlying22 MH h5 (fun n cs' D' bZ hh hlt=>ih n cs' D' bZ hh V)
   obtain ⟨rs,rv,e6,rr,sr⟩:=Bp (dat:=dQ.dat) (sz:=6) V underlying56 ZQ h6 (fun n cs' D' bZ hh hlt=>by
    obtain ⟨xs,m,hx,hl,hxl,hf⟩:=Bq ahk hh
    match cs',hl,xs,hxl with
    | [a0,a1,a2,a3,a4,a5],_,[w0,w1],_ =>
     have g0:=hf 0 _ _ _ O;have g1:=hf 1 _ _ _ O
     simp only at hx
     have hD':Rows.uptoBulk D'=Rows.uptoBulk w0.1+(Rows.uptoBulk w1.1+0)+1:=by
      rw [hx];simp only [gV,tY,Rows.uptoBulk,Rows.uptoBulkAll]
     obtain ⟨hd2,p2,d2',l2,q0,rh2,sh2⟩:=Ph g0
     obtain ⟨cl,cv,q1,rc,sc⟩:=Bp (dat:=dO.dat) (sz:=7) V underlying61 ZM g1 (fun n cs'' Yt ajn Cq hlt2=>by
      obtain ⟨xs,m,hx2,hl2,aeS,hf2⟩:=Bq ahd Cq
      match cs'',hl2,xs,aeS with
      | [b0,b1,b2,b3,b4,b5,b6],_,[v0,v1,v2],_ =>
       have u0:=hf2 0 _ _ _ O;have u1:=hf2 1 _ _ _ O;have u2:=hf2 2 _ _ _ O
       simp only at hx2
       have ajw:Rows.uptoBulk Yt=Rows.uptoBulk v0.1+(Rows.uptoBulk v1.1+(Rows.uptoBulk v2.1+0))+1:=by
        rw [hx2];simp only [gV,tY,Rows.uptoBulk,Rows.uptoBulkAll]
       obtain ⟨j0,t0,z0,-⟩:=DataW.trod_int underlying3 u0;obtain ⟨hd3,p3,d3',l3,t1,rh3,sh3⟩:=Ph u1;obtain ⟨Ni,fv3,t2,rf3,sf3⟩:=Bp (dat:=aD.dat) (sz:=11) V underlying22 MH u2 (fun n cs3 D3 Y0 hh3 hlt3=>ih n cs3 D3 Y0 hh3 V)
       simp at t0 t1 t2
       obtain ⟨rfl,rfl,rfl,rfl,rfl⟩:=t1;subst t0 t2;have hz:=zk (dO.mk j0 hd3 Ni)
       simp only [dO.head,dO.flow] at hz
       have bz:Rows.uptoBulk v0.1=1:=by rw [z0];rfl
       exact ⟨dO.mk j0 hd3 Ni,aY.VF (x:=dO.mk j0 hd3 Ni) rh3 rf3,by simp only [cK] at hz;omega⟩)
     simp at q0 q1
     obtain ⟨rfl,rfl,rfl,rfl,rfl⟩:=q0;subst q1;have hz:=wP (dQ.mk hd2 cl)
     simp only [dQ.head,dQ.cells] at hz
     exact ⟨dQ.mk hd2 cl,aY.VG (x:=dQ.mk hd2 cl) rh2 rc,by simp only [lZ] at hz;omega⟩)
   simp at e0 e1 e2 e3 e4 e5 e6
   obtain ⟨rfl,rfl,rfl,rfl,rfl⟩:=e4;subst e0 e1 e2 e3 e5 e6;have hz:=oO (aD.mk k0 k1 k2 s hd fl rs)
   simp only [aD.text,aD.head,aD.flow,aD.rows] at hz
   have b0:Rows.uptoBulk y0.1=1:=by rw [d0];rfl
   have b1:Rows.uptoBulk y1.1=1:=by rw [d1];rfl
   have b2:Rows.uptoBulk y2.1=1:=by rw [d2];rfl
   have b3:Rows.uptoBulk y3.1=s.size+1:=by rw [d3];show s.data.toList.length+1=s.data.size+1;rw [BP]
   exact ⟨aD.mk k0 k1 k2 s hd fl rs,aY.mkItem (x:=aD.mk k0 k1 k2 s hd fl rs) rh rf rr,by simp only [cK,kY] at hz;omega⟩
theorem Wj {n:Nat} {cs:List ak} {x:DataW H × List MemPlace} (h:DataW.trod enc prog W base spare held n 22 cs=some x):∃ (l:List aD) (v:ak),cs=[v]∧aF (vo W) (.sl 11 (l.map aD.dat)) v∧cK l+8<=8*Rows.uptoBulk x.1 :=
 Bp (dat:=aD.dat) (sz:=11) V underlying22 MH h (fun n cs' D' bZ hh _=>Wi _ n cs' D' bZ hh (Nat.lt_succ_self _))
end
end
end Go.Proofs.YtomebajfpcjoeaaGreatDoor
