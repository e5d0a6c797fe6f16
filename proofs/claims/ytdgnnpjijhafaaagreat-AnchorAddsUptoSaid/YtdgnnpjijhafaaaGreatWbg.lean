/-
  What the claim stands on, part 7: Cy Slw Sls Off13 Dpk Dvg Ccr Rpg Dp Sb13 Rb13 Sf13 Dpi Rbg Sfg Put16 Mtx Mtg16 Cu Bln Atx Kt K16 Sm16 Adl16 Brd Brs.
-/
import Derived.Test.YtdgnnpjijhafaaaGreatWbf
import Derived.Lib.BufferWrite
import Derived.ProofKit
import Derived.Deep.Slices
import Derived.Laws.StructEq
namespace Go.Proofs.YtdgnnpjijhafaaaGreat
set_option linter.all false
open Go.Proofs.Tryz
open Go.RowKit
section
section
variable{N:Nat}{D:List Deferred}{w0:World}{F:Nat->Prop}{G0 G:GH}{L:OL}{T:List (Nat×aj)}
variable{r:Option Nat}{P:Program}{ops:Array Oper}{Q:Exit->Act->World->Prop}{rest:List Oper}{a:Act}{w:World}
variable{d:Nat}{ty:TypeId}{pos:String}{aT:Array Edge}{g:Option (Nat×Bool)}
theorem aIG{w:World}{b:Nat}{c c':Array aj}{e:TypeId}(h:w.heap[b]?=some (.cells c e (0,0))):xE b (.cells c' e (0,0)) w (w.setRow b c'):=by
 have hlt:b<w.heap.size:=(Array.getElem?_eq_some_iff.1 h).1
 refine⟨M,M,M,by simp[World.setRow],?_,fun k hk=>?_⟩
 ·simp only[World.setRow,Array.getElem?_modify,ay,h,D5]
 ·simp only[World.setRow,Array.getElem?_modify,au<|Ne.symm hk]
theorem aGZ{t u e:TypeId}(hs:P.underlying t=some (.slice e))(hz:(P.info? e).map (·.size)=some 1){x y:Operand}{b i n:Nat}{s:ByteArray}{c:List aj}(H:St N D w0 F G0 G L T a w)
  (hw:Region.wanted ⟨some d,.call { callee:=.builtin .copy,args:=#[x,y],argTypes:=#[t,u] },ty,pos,aT,g⟩ (yielded ops a.tmps)=true)(hx:ev T x=some (.slice (some ⟨b,0,none⟩) n n))(hy:ev T y=some (.string s))(hi:L[i]?=some (b,.cells c.toArray e (0,0)))
  (hn:s.size=n)(hc:c.length=n)(hd:Nat.blt d N=true)
  (k:∀a' w',St N D w0 F G0 G (L.set i (b,.cells (Lib.byteCells s.data.toList).toArray e (0,0))) ((d,.int .i64 n)::T) a' w'->WL r P ops Q rest a' w') :
  WL r P ops Q (⟨some d,.call { callee:=.builtin .copy,args:=#[x,y],argTypes:=#[t,u] },ty,pos,aT,g⟩::rest) a w:=by
 have hb:=H.hp.own _<|lZ hi
 have hr:=Lib.run_copy_row_string (P:=P) w t u ty e b 0 n n s c.toArray e hs hz hb O (by simp;omega)
 have e1:(c.toArray.toList.take 0++Lib.byteCells s.data.toList++c.toArray.toList.drop (0+s.size))=Lib.byteCells s.data.toList:=by
  simp;omega
 rw[e1]at hr
 refine fH (v:=.int .i64 n) (w':=w.setRow b (Lib.byteCells s.data.toList).toArray) hw M ?_<|k _ _<|H.put hd _<|H.hp.upd hi<|aIG hb
 simp[execOp,resolve,invoke,builtin,H.ev hx,H.ev hy,dP,hr,goInt,hn]
end
end
theorem ayf:aW 208:=aX func208 M
theorem ajQ:aW 153:=aX func153 M
theorem axw:aW 154:=aX func154 M
theorem aHI:(prog.info? 5).map (·.size)=some 1:=by kernel_rfl
theorem aH7(G:GH)(w0:World)(hG:Hold G w0)(s:ByteArray)(hs:s.size<=1073741824):Calls prog 208 #[.string s] w0 (bD w0 G fun u G'=>u=.string s):=by
 refine eN [(0,_)] func208 M ntmps208 M M hG ?_;intro a H;refine kP H (SR fun _ K1=>ak K1 M<|SQ fun _ K2=>SR fun _ K3=>Rm M<|Rv gZ M<|Rc M<|Kz K3<|Cd M ?_ ?_)<;>clear H K1 K3
 ·intro h6 a H
  try have p6:=dT h6
  have he:s=⟨#[]⟩:=by
   have h0:s.size=0:=by omega
   have h1:s.data.size=0:=h0;exact ByteArray.ext<|Array.eq_empty_of_size_eq_zero h1
  exact kP H (SR fun _ K1=>ak K1 M<|LR results208 M fun H=>H.rt (by rw[he]))
 intro h6 a H
 try have p6:=dF h6
 refine kP H<|Kc K2<|SR fun _ K1=>Rm M<|Rv gZ M ?_;clear H K2;intro a H;refine aG5 s.size zy OB H wn M M M O O M ?_;clear H;intro b9 a w yY H;refine kH H<|ak K1 M<|SR fun _ K2=>Rm M<|Rm M ?_;clear H K1;intro a H;refine aGZ (i:=0) zy aHI H wn M M M M (by simp) M ?_;clear H;intro a w H;dsimp only[List.set]at H;refine K2 _ _ ?_;clear K2;refine kP H<|SR fun _ K1=>Rm M ?_;clear H;intro a H;refine Dp zy OB 0 H wn M M M O M ?_;clear H;intro a H;refine kH H<|Rm M<|Rl zy M ?_;clear H;intro a H;have hl:s.data.toList.length=s.size:=(Go.Lib.size_eq s).symm;refine adS (i:=0) s.data.toList aem V (by intro e;rw[e]at hl;simp at hl;omega) O H wn rfl (by rw[hl];rfl) rfl (by rw[List.toList_toArray];exact jX (by rw[Go.Lib.byteCells_length];exact eP _)) M ?_;clear H;intro fz a w H;exact kH H (ak K1 M<|LR results208 M fun H=>H.rt (by simp))
theorem aHj(G:GH)(w0:World)(hG:Hold G w0)(s:ByteArray)(hs:s.size<=1073741824):Calls prog 154 #[.string s] w0 (bD w0 G fun u G'=>u=.string s):=by
 refine eN [(0,_)] func154 M ntmps154 M M hG<|SR fun _ K1=>ak K1 M<|SR fun _ K2=>Rm M fun a H=>s_call ayf H wn M (aH7 _ _ H.ro s hs) M ?_;rintro v4 G4 a w rfl Kj H;exact kH H<|ak K2 M<|LR results154 M fun H=>H.rt M
def Ho(s:ByteArray)(i:Nat):Bool:=decide (¬rP .and .u8 (eO s i) 192=128)
def Cj(s:ByteArray)(k:Nat):List Nat:=(List.range k).filter (Ho s)
theorem YH(s:ByteArray)(k:Nat):Cj s (k+1)=Cj s k++(if Ho s k=true then[k]else[]):=by
 rw[Cj,List.range_succ,List.filter_append,List.filter_cons]
 rfl
theorem aug(s:ByteArray)(k:Nat):(Cj s k).length<=k:=by
 have:=List.length_filter_le (Ho s)<|List.range k
 rwa[List.length_range]at this
def zN(s:ByteArray):List Int:=(Cj s s.size++[s.size]).map fun x:Nat=>(x:Int)
theorem afB(s:ByteArray):∀(n k:Nat),s.size-k=n->k<=s.size->(Cj s s.size).length=(Cj s k).length+iM s k
 |0,k,h,hk=>by
  obtain rfl:k=s.size:=by omega
  rw[iM,bQ];rfl
 |n+1,k,h,hk=>by
  rw[afB s n (k+1) O O,YH,gT];have hc:=iM.eq_def s k;rw[ay (show k<s.size by omega)]at hc;rw[hc]
  unfold Ho
  by_cases hc:rP .and .u8 (eO s k) 192=128
  ·rw[ay hc,au (by rw[mE<|fun h'=>h' hc];decide)];simp only[List.length_nil];omega
  rw[au hc,ay<|aG hc];simp only[List.length_singleton];omega
theorem afy(G:GH)(w0:World)(hG:Hold G w0)(s:ByteArray)(hs:s.size<=1073741824):Calls prog 153 #[.string s] w0 (bD w0 G fun u G'=>av G' (.sl 1 ((zN s).map fun x=>[li x])) u):=by
 have hml:maxLen=9223372036854775807:=rfl;refine eN [(0,_)] func153 M ntmps153 M M hG ?_;intro a H;refine kP H<|SR fun _ K1=>ak K1 M<|SR fun _ K2=>ak K2 M<|SQ fun _ K3=>SR fun _ K4=>Rm M<|Rv gZ M<|Rm M<|Kz K4<|SB ?_;clear H K1 K2 K4;intro a H;skip;refine dY (ι:=Nat×aj×OL) (Tc:=[(0,_),(6,_)]) (Lc:=[]) (fun gh=>[(3,gh.2.1),(7,vi gh.1)]) (fun gh=>[]++gh.2.2) (fun gh=>G) (fun gh=>gh.1<=s.size∧bT 3 1 gh.2.1 (Cj s gh.1).length (((Cj s gh.1).map fun x:Nat=>(x:Int)).map vi) gh.2.2) (fun gh=>s.size-gh.1) ((0,.slice none 0 0,[])) (by exact H.sub ⟨M,M,M,M,aC⟩) ?_ ?_
 ·exact⟨fP _,bT.nil⟩
 clear H;rintro⟨k,v,Lo⟩ a w hI H;dsimp only at hI H;obtain⟨hk,hrw⟩:=hI;have hbl:=aug s k;dsimp only[lca,bq]at H;refine kP H (SR fun _ K1=>Rc M<|Kz K1<|SQ fun _ K2=>Cd M ?_ ?_)<;>clear H K1
 ·intro h8 a H
  try have p8:=dT h8
  have hk1:k<s.size:=by omega
  refine kP H<|Kc K2<|SQ fun _ K1=>SB<|SR fun _ K4=>Rm M<|ak K4 M<|SR fun _ K5=>Rm M<|Rm M ?_;clear H K2 K4;intro a H;refine qO _ gZ H wn M M M (by first|assumption|omega) rfl ?_;clear H;intro a H;refine R5 M H wn M M M ?_;clear H;intro a H;refine kH H (Rc M<|Kz K5<|Cd M ?_ ?_)<;>clear H K5
  ·intro dW a H
   try have kF:=dT dW
   refine kP H<|SC<|Rm M<|Rm M ?_;clear H;intro a H;refine iT qV aF [_] [_] H wn M M M M M (by intro i q h;match i,h with|0,h=>exact h|n+1,h=>simp at h) M M ?_;clear H;intro b17 a w ami H;refine lW (Li:=[_]) (Lo:=Lo) (news:=[vi k]) qV aF M M H wn M M hrw M (H.hp.dB 0 M M) M O O M ?_;clear H;intro v18 asP a w Kt H;refine kH H<|bZ K1 M<|SC<|Rd M<|Rm M ?_;clear H K1;intro a H;refine aI ?_;refine dO ((k+1,v18,asP)) (by exact(H.dR (Pl:=[_]) (dH:=[]) [] Z M).sub ⟨M,M,M,M,aC⟩) ?_
   (try dsimp only);exact⟨O,by rw[YH,ay (by unfold Ho;rw[lN hk1];exact aG kF),gT,iy,iy];exact Kt⟩
  intro dW a H
  try have kF:=dF dW
  refine kP H<|Kc K1<|SC<|Rd M<|Rm M ?_;clear H K1;intro a H;refine aI ?_;refine dO ((k+1,v,Lo)) (by exact H.sub ⟨M,M,M,M,aC⟩) ?_
  (try dsimp only);exact⟨O,by rw[YH,au (by unfold Ho;rw[lN hk1,mE kF];decide),iR];exact hrw⟩
 intro h8 a H
 try have p8:=dF h8
 refine dS ?_;refine K3 _ _ ?_;clear K3;refine kP H<|SR fun _ K1=>Rm M<|Rm M<|Rv gZ M ?_;clear H;intro a H;refine iT qV aF [_] [_] H wn M M M M M (by intro i q h;match i,h with|0,h=>exact h|n+1,h=>simp at h) M M ?_;clear H;intro b23 a w aBE H
 obtain rfl:k=s.size:=by omega
 refine lW (Li:=[_]) (Lo:=Lo) (news:=[vi s.size]) qV aF M M H wn M M hrw M (H.hp.dB 0 M M) M O O M ?_;clear H;intro v24 asQ a w acf H;obtain⟨Gr,hmr,hrep,H⟩:=St.qy (Li:=[_]) (Lo:=asQ) H acf (rows:=(zN s).map fun x=>[li x]) (by simp[zN]) (by have:=FZ G<|zN s;unfold zN at this|-;simpa using this);exact kH H<|ak K1 M<|LR results153 M fun H=>H.rt hrep
theorem YJ{G:GH}{l:List Int}{A:Option Addr}{n c k:Nat}{x:Int}(h:av G (.sl 1<|l.map fun x=>[li x]) (.slice A n c))(hk:l[k]?=some x):∃b o,A=some ⟨b,o,none⟩∧aJ G b (o+k*1)=some (vi x):=by
 obtain⟨b,o,cs,rfl,hcl,hrow,hr⟩:=h.at_ k [li x] (by rw[ql,hk];rfl);obtain⟨v1,vs,rfl,⟨h1,-⟩,-⟩:=hr;subst h1;exact⟨b,o,M,hrow 0 _ M⟩
set_option maxRecDepth 10000 in
theorem atQ:∀X:Fin 256,rP .and .u8 ((X.val:Nat):Int) 192=128↔(128<=X.val∧X.val<=191):=by decide
theorem auf{s:ByteArray}{i:Nat}(h:i<s.size):Ho s i=Er s i:=by
 have h1:=atQ ⟨s[i].toNat,s[i].toNat_lt⟩;dsimp only at h1
 unfold Ho Er
 rw[lN h];exact decide_eq_decide.2 (by rw[h1];omega)
theorem Mi{s:ByteArray}(hv:iI s=true):zN s=(KT s).map fun x:Nat=>(x:Int):=by
 rw[<-aue hv,zN,YG,Cj,List.filter_congr fun i hi=>auf<|qo.1 hi]
theorem apN{s:ByteArray}(hv:iI s=true):(KW s).length=dU s:=by
 have h1:=cO List.length<|Mi hv;have h2:=afB s s.size 0 M<|fP _;rw[show(Cj s 0).length=0 from rfl,fB]at h2
 unfold dU
 rw[ay hv,<-h2]
 simp[zN,KT]at h1
 omega
theorem auo {p:Prop} (h:p:=by
 exact Ht HT Hb hG hv (fun _ _ _ _ _ h=>h) H M):p:=h
theorem D6 {p:Prop} (h:p:=by
 clear H;intro a H;refine aI ⟨M,?_⟩;exact auo):p:=h
theorem TS {p:Prop} (h:p:=by
 clear aM;have Hb:=H.full;have H:=Hb;clear hc;refine kH H (Rm M ?_);exact D6):p:=h
theorem Pw {p:Prop} (h:p:=by
 intro aZ a w G1 _ aM hc hG HT hv;have H:=HT;exact TS):p:=h
theorem aHN(G:GH)(w0:World)(hG:Hold G w0)(s:ByteArray)(hs:s.size<=1073741824)(hv:iI s=true)(u vv:Nat)(huv:u<=vv)(hvl:vv<=dU s) :
  Calls prog 78 #[.string s,vi u,vi vv] w0 (bD w0 G fun r G'=>r=.tuple #[.string (s.extract (gD s 0 u)<|gD s 0 vv),vi 0]):=by
 have hf:gq s 0<0:=by simpa[iI]using hv
 have hrn:=apN hv
 have hol:(zN s).length=dU s+1:=by rw[Mi hv];simp[KT,hrn]
 have hau:=Cb u 0 hf<|fP _;have hav:=Cb vv 0 hf<|fP _
 have aDR:gD s 0 u<=gD s 0 vv:=by
  have h1:=Yr (s:=s) u 0<|vv-u;rw[show u+(vv-u)=vv by omega]at h1;rw[h1];exact(Cb (vv-u) (gD s 0 u) (Yv u 0 hf<|fP _) hau.2).1
 have eu:(zN s)[u]?=some ((gD s 0 u:Nat):Int):=by rw[Mi hv,ql,adi hv (show u<=(KW s).length by omega)];rfl
 have ev:(zN s)[vv]?=some ((gD s 0 vv:Nat):Int):=by rw[Mi hv,ql,adi hv (show vv<=(KW s).length by omega)];rfl
 have hcz:=Fu s;refine eN [(0,_),(1,_),(2,_)] func78 M ntmps78 M M hG<|SR fun _ K1=>Ra M<|ak K1 M<|SQ fun _ K2=>SR fun _ K3=>Rm M fun a H=>s_call JJ H wn M (Lj _ _ H.ro s O) M ?_;rintro v10 _ a w ⟨rfl,rfl⟩-H;rw[hv]at H;refine kH H (Rn M<|Kz K3<|Cd M ?_ ?_)<;>clear H K3
 ·intro h11 a H;exact absurd h11 Z
 refine fun h11=>Kc K2<|SR fun _ K1=>Rm M fun a H=>s_call ajQ H wn M (afy _ _ H.ro s hs) M ?_;rintro v13 LJ a w VH Vt H;obtain⟨bA,bn,bc,rfl⟩:=VH.form;have hbn:=VH.len;rw[bM,hol]at hbn;subst hbn;refine kH H (ak K1 M<|SQ fun _ K2=>SR fun _ K3=>Rm M<|Rc M<|Rm M<|Sp 16 M ?_ ?_)<;>clear H K1
 ·intro h16 a H
  try have p16:=dT h16
  exfalso;omega
 refine fun h16=>YM h16 M<|YM h16 M<|YC h16 M<|Pf h16 M<|Rm M<|Sp 21 M ?_ ?_
 ·intro h21 a H
  try have sG:=dT h21
  exfalso;omega
 refine fun h21=>YM h21 M (YM h21 M<|YL qV h21 M<|YC h21 M<|Pf h21 M<|Kz K3<|Cd M ?_ ?_)<;>clear K3
 ·intro jZ a H
  try have p26:=dT jZ
  exfalso;omega
 intro jZ a H;refine fU<|K2 _ _<|bU<|fun _ K1=>?_;obtain⟨lb,lo,rfl,gu⟩:=YJ VH eu;obtain⟨_,_,e1,gv⟩:=YJ VH ev
 injection e1 with e1;injection e1 with e2 e3;subst e2;subst e3
 refine dI hmx [[],[],[],[1,2],[1,2,3],[],[],[5,6],[5,6,7],ra 0 9,ra 0 10,ra 0 11,ra 0 12] [11,12] V [.string s,.slice (some ⟨lb,lo,none⟩) (dU s+1) bc,vi u,(aK lb<|lo+u*1),vi ((gD s 0 u:Nat):Int),.slice (some ⟨lb,lo,none⟩) (dU s+1) bc,vi vv,(aK lb<|lo+vv*1),vi ((gD s 0 vv:Nat):Int),.string (s.extract (gD s 0 u)<|gD s 0 vv),.string<|s.extract (gD s 0 u)<|gD s 0 vv] H (aD ?_ ?_ ?_ ?_<|aD ?_ ?_ ?_ ?_<|aD ?_ ?_ ?_ (bX M)<|bE (bX M) dz) ?_
 ·exact Pw
 ·exact Pw
 ·exact Pw
 ·intro aZ a w G1 _ aM hc hG HT hv;have H:=HT;clear aM;have H:=H.aQ (hv 1 28 (hc 1 Z) M) M;have H:=H.aQ (hv 2 29 (hc 2 Z) M) M;have Hb:=H.full;have H:=Hb;clear hc;exact Dp qV aF u H wn M M M O M D6
 ·intro aZ a w G1 _ aM hc hG HT hv;have H:=HT;clear aM;have H:=H.aQ (hv 3 30 (hc 3 Z) M) M;have Hb:=H.full;have H:=Hb;clear hc;exact kH H<|Rg aF M (aH hG gu) D6
 ·exact Pw
 ·exact Pw
 ·intro aZ a w G1 _ aM hc hG HT hv;have H:=HT;clear aM;have H:=H.aQ (hv 5 32 (hc 5 Z) M) M;have H:=H.aQ (hv 6 33 (hc 6 Z) M) M;have Hb:=H.full;have H:=Hb;clear hc;exact Dp qV aF vv H wn M M M O M D6
 ·intro aZ a w G1 _ aM hc hG HT hv;have H:=HT;clear aM;have H:=H.aQ (hv 7 34 (hc 7 Z) M) M;have Hb:=H.full;have H:=Hb;clear hc;exact kH H<|Rg aF M (aH hG gv) D6
 ·intro aZ a w G1 _ aM hc hG HT hv;have H:=HT;clear aM;have H:=H.aQ (hv 0 27 (hc 0 Z) M) M;have H:=H.aQ (hv 4 31 (hc 4 Z) M) M;have H:=H.aQ (hv 8 35 (hc 8 Z) M) M;have Hb:=H.full;have H:=Hb;clear hc;exact aHf (gD s 0 u) (gD s 0 vv) gZ H wn M M M M M aDR hav.2 M D6
 ·intro aZ a w G1 _ aM hc hG HT hv;have H:=HT;clear aM;have H:=H.aQ (hv 9 36 (hc 9 Z) M) M;have Hb:=H.full;have H:=Hb;clear hc;refine s_call axw H wn M (aHj _ _ H.ro _ (by rw[ByteArray.size_extract];omega)) rfl ?_;rintro v37 XP a w rfl aAY H;exact aI ⟨M,qw V (fun _ _ _ _ _ h=>h) M M HT Hb hG hv aAY (rfl) H⟩
 clear H;intro a w G mI H hv;have H:=H.aQ (hv 10 37 M M) M;clear hv;refine kH H<|Ra M<|Ra M fun a H=>aI ⟨M,K1 _ _<|eH ((gV H results78 (.cons (cK H M) (.cons (cK H M) .nil)) ?_).1)⟩;exact Bb
theorem aFG(G:GH)(w0:World)(hG:Hold G w0)(s:ByteArray)(hs:s.size<=1073741824)(hv:iI s=true)(u:Nat)(hu:u<=dU s) :
  Calls prog 203 #[.string s,vi u] w0 (bD w0 G fun r G'=>r=.tuple #[vi (gD s 0 u:Nat),vi 0]):=by
 have hf:gq s 0<0:=by simpa[iI]using hv
 have hrn:=apN hv
 have hol:(zN s).length=dU s+1:=by rw[Mi hv];simp[KT,hrn]
 have eu:(zN s)[u]?=some ((gD s 0 u:Nat):Int):=by rw[Mi hv,ql,adi hv (show u<=(KW s).length by omega)];rfl
 have hcz:=Fu s;refine eN [(0,_),(1,_)] func203 M ntmps203 M M hG<|SR fun _ K1=>Ra M<|ak K1 M<|SQ fun _ K2=>SR fun _ K3=>Rm M fun a H=>s_call JJ H wn M (Lj _ _ H.ro s O) M ?_;rintro v8 _ a w ⟨rfl,rfl⟩-H;rw[hv]at H;refine kH H (Rn M<|Kz K3<|Cd M ?_ ?_)<;>clear H K3
 ·intro h9 a H;exact absurd h9 Z
 refine fun h9=>Kc K2<|SR fun _ K1=>Rm M fun a H=>s_call ajQ H wn M (afy _ _ H.ro s hs) M ?_;rintro v11 DN a w acd QM H;obtain⟨bA,bn,bc,rfl⟩:=acd.form;have hbn:=acd.len;rw[bM,hol]at hbn;subst hbn;refine kH H (ak K1 M<|SQ fun _ K2=>SR fun _ K3=>Rm M<|Rc M<|Rm M<|Sp 14 M ?_ ?_)<;>clear H K1
 ·intro dW a H
  try have kF:=dT dW
  exfalso;omega
 refine fun dW=>YM dW M (YM dW M<|YL qV dW M<|YC dW M<|Pf dW M<|Kz K3<|Cd M ?_ ?_)<;>clear K3
 ·intro h19 a H
  try have vQ:=dT h19
  exfalso;omega
 intro h19 a H;refine fU<|K2 _ _<|bU<|fun _ K1=>?_;obtain⟨lb,lo,rfl,gu⟩:=YJ acd eu;refine kP H<|SC<|Rm M<|Rm M<|Ri qV aF M M<|Rg aF M gu<|Ra M<|bZ K1 M fun a H=>eH ((gV H results203 (.cons (cK H M) (.cons (cK H M) .nil)) ?_).1);exact Bb
section
section
variable{N:Nat}{D:List Deferred}{w0:World}{F:Nat->Prop}{G0 G G1 G2:GH}{L L1 L2:OL}{T Xs:List (Nat×aj)}
variable{r:Option Nat}{P:Program}{Q:Exit->Act->World->Prop}{l:List Oper}{a a':Act}{w w':World}
theorem ava{id:Nat}{κ:Type}(k0:κ)(Lf:κ->OL)(hm:P.follows .mixedOrders=true)(bK:List (List Nat))(B:List Nat)(hk:xO l bK=true)(hB:yx l bK B=true)(m:Nat)(pr:κ->Nat->aj->GH->Prop)
  (hp:∀k k' i v G,Nat.beq i m=false->(bK.getD i []).contains m=false->pr k i v G->pr k' i v G)
  (H:St N D w0 F G0 G (Lf k0) T a w)
  (hstep:allI (fun i o=>∀k S a w G1,B.contains i=false->Nat.beq i m=false->S i=false->(∀j∈bK.getD i [],S j=true)->(∀k o,G k=some o->G1 k=some o)->St N D w0 F G0 G1 (Lf k) T a w->(∀i d,S i=true->dZ l i=some d->∃v,a.tmps[d]?=some v∧pr k i v G1)->
   WL r P l.toArray (fun e a' w'=>e=.normal∧DX N D w0 F G0 G (Lf k) T l (pr k) (dD S i) a' w') [o] a w) 0 l)
  (hmid:∀o S a w G1,l[m]?=some o->S m=false->(∀j∈bK.getD m [],S j=true)->(∀k o,G k=some o->G1 k=some o)->St N D w0 F G0 G1 (Lf k0) T a w->(∀k' i d,i≠m->S i=true->dZ l i=some d->∃v,a.tmps[d]?=some v∧pr k' i v G1)->
   WL r P l.toArray (fun e a' w'=>e=.normal∧∃k',DX N D w0 F G0 G (Lf k') T l (pr k') (dD S m) a' w') [o] a w)
  (hend:∀k a w G1,(∀k o,G k=some o->G1 k=some o)->St N D w0 F G0 G1 (Lf k) T a w->(∀i d,B.contains i=false->dZ l i=some d->∃v,a.tmps[d]?=some v∧pr k i v G1)->WL r P l.toArray (fun e a w=>e=.normal∧Q .normal a w) (qM l B) a w):WP r P (.region id l.toArray true) Q a w:=by
 refine JG hm bK B hk hB (fun S a w=>∃k,(S m=false->k=k0)∧DX N D w0 F G0 G (Lf k) T l (pr k) S a w) ⟨k0,fun _=>rfl,G,fun _ _ h=>h,H.move H.hp.drew,fun _ _ h=>absurd (show false=true from h) Z⟩ ?_ ?_
 ·rintro i o S a w ho hb aM jA hdesc ⟨k,hk0,G1,hG,HS,hv⟩
  by_cases hi:i=m
  ·subst hi
   have hno:∀j,j<l.length->S j=true->(bK.getD j []).contains i=false:=fun j hjl hj=>by
    cases hc:(bK.getD j []).contains i with
    |false=>rfl
    |true=>
     have:=hdesc j hjl (by simpa using hc)
     rw[this]at hj;cases hj
   obtain rfl:=hk0 aM
   refine mU (fun e a' w'⟨he,k',hD⟩=>⟨he,k',fun h=>(by rw[show dD S i i=true from ay M]at h;cases h),hD⟩) (hmid o S a w G1 ho aM jA hG HS fun k' j d hj hSj hd=>by
    obtain⟨v,hv1,hv2⟩:=hv j d hSj hd
    exact⟨v,hv1,hp k k' j v _ (qY hj) (hno j (rR hd) hSj) hv2⟩)
  ·have h:=zM hstep i o ho
   rw[fB]at h
   exact mU (fun e a' w'⟨he,hD⟩=>⟨he,k,fun h=>hk0 (by rwa[show dD S i m=S m from au fun e=>hi e.symm]at h),hD⟩)<|h k S a w G1 hb (qY hi) aM jA hG HS hv
 ·rintro S a w hall Nt ⟨k,-,G1,hG,HS,hv⟩
  exact hend k a w G1 hG HS fun j d hb hd=>hv j d (hall j (rR hd) hb) hd
end
end
theorem ayb:aW 203:=aX func203 M
theorem St.aE7{N:Nat}{D:List Deferred}{w0:World}{F:Nat->Prop}{G0 G:GH}{Li Lo:OL}{T:List (Nat×aj)}{a:Act}{w:World}(H:St N D w0 F G0 G (Li++Lo) T a w):∃L1,L1=Li∧St N D w0 F G0 G (L1++Lo) T a w:=⟨Li,M,H⟩
theorem aup {p:Prop} (h:p:=by
 exact Ht HT Hb hG hv (VG dx) H M):p:=h
theorem TK {p:Prop} (h:p:=by
 clear H;intro a H;refine aI ⟨M,?_⟩;exact aup):p:=h
theorem Zi {p:Prop} (h:p:=by
 intro aZ a w G1 _ _ aM hc hG HT hv;have H:=HT;clear aM;have Hb:=H.full;have H:=Hb;clear hc;refine kH H (Rf pE M ?_);exact D6):p:=h
theorem ahr {p:Prop} (h:p:=by
 clear aM;have H:=H.aQ (hv 5 37 (hc 5 Z) M) M;have H:=H.aQ (hv 6 38 (hc 6 Z) M) M;have Hb:=H.full;have H:=Hb;clear hc;refine aqv (gD A[k].2.text 0 u) gZ H wn M M M Qw.2 M ?_;exact D6):p:=h
theorem ahC {p:Prop} (h:p:=by
 have Hb:=H.full;have H:=Hb;clear hc;refine kH H (Ro gN 2 M ?_);exact D6):p:=h
set_option maxHeartbeats 4000000 in
theorem ajA(G:GH)(w0:World)(hG:Hold G w0)(l:List ah)(t:Int)(v:aj)(hv:av G (.sl 11<|l.map ah.dat) v)(hz:aR l<=1073741824) :
  Calls prog 146 #[v,vi t] w0 (bD w0 G fun u G'=>∃x y,u=.tuple #[x,y]∧av G' (.sl 11 (((fO 0 l).flatMap<|lG t).map ah.dat)) x∧av G' (.sl 11 (((fO 0 l).flatMap<|rG t).map ah.dat)) y):=by
 have hml:4294967297<=maxLen:=by decide
 have hll:=wo l;have hol:=adj l 0;obtain⟨A,hA⟩:∃A,A=fO 0 l:=⟨_,M⟩;refine eN [(0,_),(1,_)] func146 M ntmps146 M M hG ?_;intro a H;refine dw<|fun _ K1=>?_;refine eD (cs:=[_]) H wn M M M ?_;clear H;intro b3 a w hb3 H;refine dK eG H wn M ?_;clear H;intro b4 a w hb4 H;refine dK eG H wn M ?_;clear H;intro b5 a w hb5 H;refine K1 _ _ ?_;clear K1;refine kP H<|SQ fun _ K1=>SR fun _ K2=>Rm M ?_;clear H;intro a H;refine s_call ajX H wn M (anV _ _ H.ro l v hv O) M ?_;clear H;rintro v14 DR a w ⟨bd,rfl,hit⟩ Bv H;rw[<-hA]at hit hol;refine K2 _ _ ?_;clear K2;refine xK ?_;skip;refine PS (ι:=aj×aj×List aj×List aj×OL×OL) (κ:=Empty) (Lc:=[(_,_)]) (fun(k:Nat)(gh:aj×aj×List aj×List aj×OL×OL)=>[(b4,.cells #[gh.1] 22 (0,0)),(b5,.cells #[gh.2.1] 22 (0,0))]) (fun(k:Nat)(gh:aj×aj×List aj×List aj×OL×OL)=>gh.2.2.2.2.1++gh.2.2.2.2.2) (fun(k:Nat)(gh:aj×aj×List aj×List aj×OL×OL)(g:GH)=>bT 118 11 gh.1 ((A.take k).flatMap<|lG t).length gh.2.2.1 gh.2.2.2.2.1∧bR g 11 (((A.take k).flatMap<|lG t).map ah.dat) gh.2.2.1∧bT 118 11 gh.2.1 ((A.take k).flatMap<|rG t).length gh.2.2.2.1 gh.2.2.2.2.2∧bR g 11 (((A.take k).flatMap<|rG t).map ah.dat) gh.2.2.2.1) (fun x=>x.elim) (fun x=>x.elim) (fun x=>x.elim) (fun x=>x.elim) ((.slice none 0 0,.slice none 0 0,[],[],[],[])) (by exact(H.NV (A:=[_,_,_])).dR (Pl:=[_,_,_]) (dH:=[_,_,_]) [2,1,0] Z M) M aaw (hit) (fun _ _ h=>h) M (fun k args g h=>by obtain⟨_,_,rfl,_⟩:=VX h;rfl) (fun k i G G' hm h=>⟨h.1,h.2.1.mono hm,h.2.2.1,h.2.2.2.mono hm⟩) (fun x=>x.elim) (⟨bT.nil,bR.nil,bT.nil,bR.nil⟩) ?_ ?_ ?_
 ·clear H;intro l2 Dj zQ bk k args gh G2 w2 F2 B2 a hk2 hm2 hI Qz QY acj H;obtain⟨vl,vr,xl,xr,Ll,Lr⟩:=gh;dsimp only at hI H;obtain⟨hk,cs,rfl,hcs⟩:=VX hk2;obtain⟨-,hza⟩:=adk (l:=l) (o:=0) (a:=A[k]) (by rw[<-hA];exact ig hk);have hzi:=lY A[k].2;have hun:=Xq A[k].2;have hlk:=aoi t<|A.take k;have Im:=apF t<|A.take k;rw[List.length_take]at hlk Im;obtain⟨pA,pn,pc,dA,dn,dc,yA,yn,yc,fA,fn,fc,vg,rn,rc,rfl,hh,hf,hr⟩:=hcs.item;dsimp only[yJ,List.cons_append,List.nil_append]at H;obtain⟨hrl,hcl,hrr,hcr⟩:=hI;refine kP H<|SR fun _ K2=>ak K2 M<|SC ?_;clear H K2;intro a H;refine dK bL H wn M ?_;clear H;intro b7 a w Bt H;refine bH bL 0 (vs:=[_,_,_,_,_,_,_,_,_,_,_]) H wn M ?_;clear H;intro w H;refine aI ?_;refine Qz _ _ _ _ _ _ (by exact H.dR (Pl:=[_,_,_,_,_]) (dH:=[_,_,_,_,_]) [1,0,2,3,4] Z M) ?_;clear H;intro w H;refine xK ?_;refine dw<|fun _ K2=>?_;refine aY bL (cs:=[_,_,_,_,_,_,_,_,_,_,_]) H wn M M (H.hp.dB 1 M M) M ?_;clear H;intro a H;refine s_call Uw H wn M (Xt _ _ H.ro A[k].2 _ _ _ _ _ _ _ _ _ O) M ?_;clear H;rintro v19 _ a w ⟨rfl,rfl⟩-H;refine kH H<|Rm M ?_;clear H;intro a H;(iterate 2 refine iH H wn M M M ?_;clear H;intro a H);refine kH H (Ra M<|ak K2 M<|SB<|SR fun _ K3=>Rm M<|Rm M<|Rd M<|Ro aF 2 M<|Rc M<|ak K3 M<|Cd M ?_ ?_)<;>clear H K2 K3
  ·intro h50 a H
   try have p50:=dT h50
   have hfit:rC t A[k]=true:=h50
   have e1:(A.take<|k+1).flatMap (lG t)=(A.take k).flatMap (lG t)++[A[k].2]:=by rw[MZ _ hk,lG,ay hfit]
   have e2:(A.take<|k+1).flatMap (rG t)=(A.take k).flatMap (rG t):=by rw[MZ _ hk,rG,ay hfit,iR]
   obtain⟨vA,vc,rfl,-,-⟩:=hrl.shape;have H:=H.perm<|Ob [_,_,_,_,_] bk Ll Lr;refine Uf (i0:=3) (i1:=1) hmx V dM eG bL M M M M M V M Z H M M M M M M hrl O O ?_;clear H;intro vl Ll sN a w uw VI H;have H:St _ _ _ _ _ _ ([_,_,_,_,_]++(bk++(Ll++Lr))) _ _ _:=H.perm (Ob [_,_,_,_,_] bk Ll Lr).symm;dsimp only[lca,bq]at H;obtain⟨xl,hxl⟩:∃x,x=xl++[vi A[k].2.kind,vi A[k].2.code,vi A[k].2.id,.string A[k].2.text,.slice pA pn pc,vi A[k].2.head.marks.ins,vi A[k].2.head.marks.move,.slice dA dn dc,.slice yA yn yc,.slice fA fn fc,.slice vg rn rc]:=⟨_,M⟩;rw[<-hxl]at VI
   have hI:bT 118 11 vl ((A.take<|k+1).flatMap<|lG t).length xl Ll∧bR sN 11 (((A.take<|k+1).flatMap<|lG t).map ah.dat) xl∧bT 118 11 vr ((A.take<|k+1).flatMap<|rG t).length xr Lr∧bR sN 11 (((A.take<|k+1).flatMap<|rG t).map ah.dat) xr:=by
    rw[e1,e2,gT,iy];exact agu
   exact Ua
  intro h50 a H
  try have p50:=dF h50
  have hfit:rC t A[k]=false:=h50
  have hnf:¬rC t A[k]=true:=by rw[hfit];decide
  refine kP H (SR fun _ K2=>Rm M<|Ro aF 2 M<|Rc M<|ak K2 M<|Cd M ?_ ?_)<;>clear H K2
  ·intro CG a H
   try have p62:=dT CG
   have e1:(A.take<|k+1).flatMap (lG t)=(A.take k).flatMap (lG t):=by rw[MZ _ hk,lG,au hnf,iw,iR]
   have e2:(A.take<|k+1).flatMap (rG t)=(A.take k).flatMap (rG t)++[A[k].2]:=by rw[MZ _ hk,rG,au hnf,iw]
   obtain⟨vA,vc,rfl,-,-⟩:=hrr.shape;have H:=H.cast<|Oa [_,_,_,_,_] bk Ll Lr;refine Uf (i0:=4) (i1:=1) hmx V dM eG bL M M M M M V M Z H M M M M M M hrr O O ?_;clear H;intro vr Lr sN a w uw VJ H;have H:St _ _ _ _ _ _ ([_,_,_,_,_]++(bk++(Ll++Lr))) _ _ _:=H.cast (Oa [_,_,_,_,_] bk Ll Lr).symm;dsimp only[lca,bq]at H;obtain⟨xr,NI⟩:∃x,x=xr++[vi A[k].2.kind,vi A[k].2.code,vi A[k].2.id,.string A[k].2.text,.slice pA pn pc,vi A[k].2.head.marks.ins,vi A[k].2.head.marks.move,.slice dA dn dc,.slice yA yn yc,.slice fA fn fc,.slice vg rn rc]:=⟨_,M⟩;rw[<-NI]at VJ
   have hI:bT 118 11 vl ((A.take<|k+1).flatMap<|lG t).length xl Ll∧bR sN 11 (((A.take<|k+1).flatMap<|lG t).map ah.dat) xl∧bT 118 11 vr ((A.take<|k+1).flatMap<|rG t).length xr Lr∧bR sN 11 (((A.take<|k+1).flatMap<|rG t).map ah.dat) xr:=by
    rw[e1,e2,gT,iy];exact agv
   exact Ua
  intro CG a H
  try have p62:=dF CG
  obtain⟨u,hu⟩:∃u,u=(t-(A[k].1:Int)).toNat:=⟨_,M⟩
  have hfu:t<(A[k].1:Int)+bO A[k].2:=by have:=of_decide_eq_false hfit;omega
  have hk1:A[k].2.kind=1:=by
   by_cases h:A[k].2.kind=1
   ·exact h
   unfold bO at hfu;rw[au h]at hfu;omega
  have hcu:bO A[k].2=dU A[k].2.text:=by unfold bO;rw[ay hk1]
  have hvx:iI A[k].2.text=true:=by
   cases h:iI A[k].2.text with
   |true=>rfl
   |false=>unfold dU at hcu;rw[h]at hcu;simp at hcu;omega
  have huc:u<=dU A[k].2.text:=by omega
  have e1:(A.take<|k+1).flatMap (lG t)=(A.take k).flatMap (lG t)++[qp A[k].2 u]:=by rw[MZ _ hk,lG,au hnf,bQ,hu]
  have e2:(A.take<|k+1).flatMap (rG t)=(A.take k).flatMap (rG t)++[ru A[k].2 u]:=by rw[MZ _ hk,rG,au hnf,bQ,hu]
  have Qw:=Cb u 0 (yC.1 hvx)<|fP _;refine kP H<|SR fun _ K2=>aV pE gN 1 M M<|Ro aF 2 M<|Rm M<|Rs M ?_;clear H;intro a H;rw[show t-(A[k].1:Int)=(u:Int) by omega]at H;refine s_call ayb H wn M (aFG _ _ H.ro A[k].2.text O hvx u huc) M ?_;clear H;rintro v28 LM a w rfl za H;replace hcs:=hcs.mono za;replace hcl:=hcl.mono za;replace hcr:=hcr.mono za;refine kH H<|Rm M ?_;clear H;intro a H;(iterate 2 refine iH H wn M M M ?_;clear H;intro a H);refine kH H<|Ra M<|ak K2 M<|SR fun _ K3=>?_;clear H K2;intro a H;refine aY bL (cs:=[_,_,_,_,_,_,_,_,_,_,_]) H wn M M (H.hp.dB 1 M M) M ?_;clear H;intro a H;refine dK bL H wn M ?_;clear H;intro b12 a w CP H;refine bH bL 0 (vs:=[_,_,_,_,_,_,_,_,_,_,_]) H wn M ?_;clear H;intro w H;refine K3 _ _ ?_;clear K3;refine bU<|fun _ K2=>?_;refine avc (hmx) [[],[0],[],[0,1,2],[],[4],[],[4,5,6],ra 0 6,ra 0 6++[8],ra 0 10,ra 0 11] [10,11] V V 9 Z (fun(cu:Nat)(v:aj)(G:GH)=>match cu with|0=>v=(aK b7 3)|1=>v=.string A[k].2.text|2=>v=vi (gD A[k].2.text 0 u:Nat)|3=>v=.string (oP A[k].2.text u)|4=>v=(aK b7 3)|5=>v=.string A[k].2.text|6=>v=vi (gD A[k].2.text 0 u:Nat)|7=>v=.string (qQ A[k].2.text u)|8=>v=(aK b7 3)|_=>True) 2 ((b7,.cells #[vi A[k].2.kind,vi A[k].2.code,vi A[k].2.id,.string (oP A[k].2.text u),.slice pA pn pc,vi A[k].2.head.marks.ins,vi A[k].2.head.marks.move,.slice dA dn dc,.slice yA yn yc,.slice fA fn fc,.slice vg rn rc] 118 (0,0))) H ?_ ?_ ?_ ?_ V
  ·clear H;refine aD ?_ ?_ ?_ ?_<|aD ?_ ?_ ?_ ?_<|aD ?_ ?_ (bX M) (bX M) dz
   ·exact Zi
   ·intro aZ a w G1 _ _ aM hc hG HT hv;have H:=HT;clear aM;have H:=H.aQ (hv 0 32 (hc 0 Z) M) M;exact ahC
   ·intro aZ a w G1 _ _ aM hc hG HT hv;have H:=HT;exact TS
   ·intro aZ a w G1 _ _ aM hc hG HT hv;have H:=HT;clear aM;have H:=H.aQ (hv 1 33 (hc 1 Z) M) M;have H:=H.aQ (hv 2 34 (hc 2 Z) M) M;have Hb:=H.full;have H:=Hb;clear hc;refine aqw (gD A[k].2.text 0 u) gZ H wn M M M Qw.2 M ?_;exact D6
   ·exact Zi
   ·intro aZ a w G1 _ _ aM hc hG HT hv;have H:=HT;clear aM;have H:=H.aQ (hv 4 36 (hc 4 Z) M) M;exact ahC
   ·intro aZ a w G1 _ _ aM hc hG HT hv;have H:=HT;exact TS
   ·intro aZ a w G1 _ _ aM hc hG HT hv;have H:=HT;exact ahr
   ·exact Zi
   intro _ _ _ _ _ hB;exact jC
  ·clear H;intro o_ aZ a w G1 kg _ hc hG HT hv;obtain rfl:_=o_:=Option.some.inj kg;clear kg;have H:=HT;have H:=H.aQ (hv 8 40 (hc 8 Z) M) M;have H:=H.aQ (hv 3 35 (hc 3 Z) M) M;have Hb:=H.full;have H:=Hb;clear hc;refine bH gN 2 (vs:=[_]) H wn M ?_;clear H;intro w H;refine aI ⟨M,?_⟩;exact Y4
  ·clear H;refine aD (bX M) (bX M) (bX M) (bX M)<|aD (bX M) (bX M) ?_ ?_<|aD (bX M) ?_ (bX M) (bX M) dz
   ·intro aZ a w G1 _ _ aM hc hG HT hv;have H:=HT;dsimp only[List.set,List.append,lca,bq]at H;exact TS
   ·intro aZ a w G1 _ _ aM hc hG HT hv;have H:=HT;dsimp only[List.set,List.append,lca,bq]at H;exact ahr
   intro _ _ _ _ _ hB;exact jC
  clear H;intro a w G tC H hv;dsimp only[List.set,List.append,lca,bq]at H;have H:=H.aQ (hv 7 39 M M) M;clear hv;refine kH H<|Rf pE M ?_;clear H;intro a H;refine bH gN 0 (vs:=[_]) H wn M ?_;clear H;intro w H;refine aI ⟨M,?_⟩;refine K2 _ _ ?_;clear K2;replace hcs:=hcs.mono tC;replace hcl:=hcl.mono tC;replace hcr:=hcr.mono tC;have hrA:bg _ (qp A[k].2 u).dat [vi A[k].2.kind,vi A[k].2.code,vi A[k].2.id,.string (oP A[k].2.text u),.slice pA pn pc,vi A[k].2.head.marks.ins,vi A[k].2.head.marks.move,.slice dA dn dc,.slice yA yn yc,.slice fA fn fc,.slice vg rn rc]:=bg.mkItem (x:=qp A[k].2 u) ((hh.mono za).mono tC) ((hf.mono za).mono tC) ((hr.mono za).mono tC);have hrZ:bg _ (ru A[k].2 u).dat [vi A[k].2.kind,vi A[k].2.code,vi A[k].2.id,.string (qQ A[k].2.text u),.slice pA pn pc,vi A[k].2.head.marks.ins,vi A[k].2.head.marks.move,.slice dA dn dc,.slice yA yn yc,.slice fA fn fc,.slice vg rn rc]:=bg.mkItem (x:=ru A[k].2 u) ((hh.mono za).mono tC) ((hf.mono za).mono tC) ((hr.mono za).mono tC);obtain⟨OI,OJ,rfl,-,-⟩:=hrl.shape;obtain⟨vrA,vrc,rfl,-,-⟩:=hrr.shape;have H:=H.perm<|Ob [_,_,_,_,_,_] bk Ll Lr;obtain⟨Lh,Qu,H⟩:=H.aE7
  have m4:∀L2:OL,(b4,Obj.cells #[.slice OI ((A.take k).flatMap<|lG t).length OJ] 22 (0,0))∈Lh++L2:=fun L2=>by rw[Qu];simp
  have m5:∀L2:OL,(b5,Obj.cells #[.slice vrA ((A.take k).flatMap<|rG t).length vrc] 22 (0,0))∈Lh++L2:=fun L2=>by rw[Qu];simp
  have m7:∀L2:OL,(b7,Obj.cells #[vi A[k].2.kind,vi A[k].2.code,vi A[k].2.id,.string (oP A[k].2.text u),.slice pA pn pc,vi A[k].2.head.marks.ins,vi A[k].2.head.marks.move,.slice dA dn dc,.slice yA yn yc,.slice fA fn fc,.slice vg rn rc] 118 (0,0))∈Lh++L2:=fun L2=>by rw[Qu];simp
  have m12:∀L2:OL,(b12,Obj.cells #[vi A[k].2.kind,vi A[k].2.code,vi A[k].2.id,.string (qQ A[k].2.text u),.slice pA pn pc,vi A[k].2.head.marks.ins,vi A[k].2.head.marks.move,.slice dA dn dc,.slice yA yn yc,.slice fA fn fc,.slice vg rn rc] 118 (0,0))∈Lh++L2:=fun L2=>by rw[Qu];simp
  have VG:Yc (fun(dx:aj×OL)(cu:Nat)(v:aj)(G:GH)=>match cu with|0=>v=.slice OI ((A.take k).flatMap<|lG t).length OJ|1=>v=.agg #[vi A[k].2.kind,vi A[k].2.code,vi A[k].2.id,.string (oP A[k].2.text u),.slice pA pn pc,vi A[k].2.head.marks.ins,vi A[k].2.head.marks.move,.slice dA dn dc,.slice yA yn yc,.slice fA fn fc,.slice vg rn rc]|2=>av G (.sl 11 ([qp A[k].2 u].map ah.dat)) v|3=>v=dx.1∧∃xs,bT 118 11 v ((A.take<|k+1).flatMap<|lG t).length xs dx.2∧bR G 11 (((A.take<|k+1).flatMap<|lG t).map ah.dat) xs|4=>v=.slice vrA ((A.take k).flatMap<|rG t).length vrc|5=>v=.agg #[vi A[k].2.kind,vi A[k].2.code,vi A[k].2.id,.string (qQ A[k].2.text u),.slice pA pn pc,vi A[k].2.head.marks.ins,vi A[k].2.head.marks.move,.slice dA dn dc,.slice yA yn yc,.slice fA fn fc,.slice vg rn rc]|6=>av G (.sl 11 ([ru A[k].2 u].map ah.dat)) v|_=>True):=by intro dx cu v G G' hm h;(iterate 10 (rcases cu with _|cu;(first|exact h|exact av.mono hm h|exact let⟨h1,xs,h2,h3⟩:=h;⟨h1,xs,h2,h3.mono hm⟩)));exact trivial
  refine ava (κ:=aj×OL) ((.slice OI ((A.take k).flatMap<|lG t).length OJ,Ll)) (fun k_=>Lh++k_.2) (hmx) [[],[],[1],[0,1,2],[],[],[5],ra 0 7,ra 0 8,ra 0 9] [7,8,9] V V 3 (fun(dx:aj×OL)(cu:Nat)(v:aj)(G:GH)=>match cu with|0=>v=.slice OI ((A.take k).flatMap<|lG t).length OJ|1=>v=.agg #[vi A[k].2.kind,vi A[k].2.code,vi A[k].2.id,.string (oP A[k].2.text u),.slice pA pn pc,vi A[k].2.head.marks.ins,vi A[k].2.head.marks.move,.slice dA dn dc,.slice yA yn yc,.slice fA fn fc,.slice vg rn rc]|2=>av G (.sl 11 ([qp A[k].2 u].map ah.dat)) v|3=>v=dx.1∧∃xs,bT 118 11 v ((A.take<|k+1).flatMap<|lG t).length xs dx.2∧bR G 11 (((A.take<|k+1).flatMap<|lG t).map ah.dat) xs|4=>v=.slice vrA ((A.take k).flatMap<|rG t).length vrc|5=>v=.agg #[vi A[k].2.kind,vi A[k].2.code,vi A[k].2.id,.string (qQ A[k].2.text u),.slice pA pn pc,vi A[k].2.head.marks.ins,vi A[k].2.head.marks.move,.slice dA dn dc,.slice yA yn yc,.slice fA fn fc,.slice vg rn rc]|6=>av G (.sl 11 ([ru A[k].2 u].map ah.dat)) v|_=>True) (fun k k' i v G hi hc h=>by(iterate 10 (rcases i with _|i;(first|exact h|exact absurd hi Z|exact absurd hc Z)));exact trivial) H ?_ ?_ ?_
  ·clear H;refine aD ?_ ?_ ?_ ?_<|aD ?_ ?_ ?_ ?_<|bE ?_<|bE ?_ dz
   ·intro dx aZ a w G1 _ _ aM hc hG HT hv;have H:=HT;clear aM;have Hb:=H.full;have H:=Hb;clear hc;refine vo eG H wn M (H.hp.Iy (m4 _) M) M ?_;exact TK
   ·intro dx aZ a w G1 _ _ aM hc hG HT hv;have H:=HT;clear aM;have Hb:=H.full;have H:=Hb;clear hc;refine aY bL (cs:=[vi A[k].2.kind,vi A[k].2.code,vi A[k].2.id,.string (oP A[k].2.text u),.slice pA pn pc,vi A[k].2.head.marks.ins,vi A[k].2.head.marks.move,.slice dA dn dc,.slice yA yn yc,.slice fA fn fc,.slice vg rn rc]) H wn M M (fun j u hj=>H.hp.Iy (m7 _) (by rw[fB];simpa using hj)) M ?_;exact TK
   ·intro dx aZ a w G1 _ _ aM hc hG HT hv;have H:=HT;clear aM;have H:=H.aQ (hv 1 43 (hc 1 Z) M) M;have Hb:=H.full;have H:=Hb;clear hc;refine iT dM bL _ [vi A[k].2.kind,vi A[k].2.code,vi A[k].2.id,.string (oP A[k].2.text u),.slice pA pn pc,vi A[k].2.head.marks.ins,vi A[k].2.head.marks.move,.slice dA dn dc,.slice yA yn yc,.slice fA fn fc,.slice vg rn rc] H wn M M M M M (by intro i q h;match i,h with|0,h=>exact h|n+1,h=>simp at h) M M ?_;clear H;intro b44 a w aJW H;obtain⟨G44,abj,aDe,H⟩:=St.Qr H M<|hrA.mono hG;refine aI ⟨M,?_⟩;exact qw V (VG dx) M M HT Hb hG hv abj (aDe) H
   ·intro _ _ _ _ _ _ hB;exact jC
   ·intro dx aZ a w G1 _ _ aM hc hG HT hv;have H:=HT;clear aM;have Hb:=H.full;have H:=Hb;clear hc;refine vo eG H wn M (H.hp.Iy (m5 _) M) M ?_;exact TK
   ·intro dx aZ a w G1 _ _ aM hc hG HT hv;have H:=HT;clear aM;have Hb:=H.full;have H:=Hb;clear hc;refine aY bL (cs:=[vi A[k].2.kind,vi A[k].2.code,vi A[k].2.id,.string (qQ A[k].2.text u),.slice pA pn pc,vi A[k].2.head.marks.ins,vi A[k].2.head.marks.move,.slice dA dn dc,.slice yA yn yc,.slice fA fn fc,.slice vg rn rc]) H wn M M (fun j u hj=>H.hp.Iy (m12 _) (by rw[fB];simpa using hj)) M ?_;exact TK
   ·intro dx aZ a w G1 _ _ aM hc hG HT hv;have H:=HT;clear aM;have H:=H.aQ (hv 5 47 (hc 5 Z) M) M;have Hb:=H.full;have H:=Hb;clear hc;refine iT dM bL _ [vi A[k].2.kind,vi A[k].2.code,vi A[k].2.id,.string (qQ A[k].2.text u),.slice pA pn pc,vi A[k].2.head.marks.ins,vi A[k].2.head.marks.move,.slice dA dn dc,.slice yA yn yc,.slice fA fn fc,.slice vg rn rc] H wn M M M M M (by intro i q h;match i,h with|0,h=>exact h|n+1,h=>simp at h) M M ?_;clear H;intro b48 a w hb48 H;obtain⟨G48,aA4,aDf,H⟩:=St.Qr H M<|hrZ.mono hG;refine aI ⟨M,?_⟩;exact qw V (VG dx) M M HT Hb hG hv aA4 (aDf) H
   ·intro _ _ _ _ _ hB;exact jC
   ·intro _ _ _ _ _ hB;exact jC
   intro _ _ _ _ _ hB;exact jC
  ·clear H;intro o_ aZ a w G1 kg _ hc hG HT hv;obtain rfl:_=o_:=Option.some.inj kg;clear kg;have H:=HT;have H:=H.aQ (hv ((.slice OI ((A.take k).flatMap<|lG t).length OJ,Ll)) 0 42 Z (hc 0 Z) M) M;obtain⟨u44,acr,Ko⟩:=hv ((.slice OI ((A.take k).flatMap<|lG t).length OJ,Ll)) 2 44 Z (hc 2 Z) M;(try dsimp only at Ko);obtain⟨aJv,atE,aJx,rfl⟩:=Ko.form;obtain rfl:atE=1:=Ko.len;have H:=H.fT acr;have Hb:=H.full;have H:=Hb;clear hc;refine R4 dM bL M M (Li:=Lh) (Lo:=Ll) H wn M M hrl (Ko) O O M ?_;clear H;intro v45 Ji n45 a w Ru abz H;have aA2:=fun(b:Nat)(o:Obj)(h:G1 b=some o)=>h;refine aI ⟨M,(v45,Ji),?_⟩;exact Co V (VG ((v45,Ji))) M HT Hb hG (fun j e h1 h2 h3=>hv _ j e h1 h2 h3) aA2 (⟨M,_,by rw[e1,gT];exact Ru,by rw[e1,iy];exact(hcl.mono hG).append abz⟩) H
  clear H;intro dx a w G uX H hv;obtain⟨u45,acs,xY⟩:=hv 3 45 Z M;(try dsimp only at xY);obtain⟨h45,aI8,Ru,abz⟩:=xY;have H:=H.fT acs;have H:=H.aQ (hv 4 46 M M) M;obtain⟨u48,aDI,VD⟩:=hv 6 48 Z M;(try dsimp only at VD);obtain⟨aJw,atF,aJy,rfl⟩:=VD.form;obtain rfl:atF=1:=VD.len;have H:=H.fT aDI;clear hv;have XW:=H;obtain⟨v45,Ji⟩:=dx;dsimp only at XW h45 Ru;subst h45;obtain⟨A45,ZV,rfl,-,-⟩:=Ru.shape;subst Qu;have H:=XW.perm (Ob [_,_,_,_,_,_] bk Ji Lr).symm;clear XW;have H:=H.cast<|Oa [_,_,_,_,_,_] bk Ji Lr;refine R4 dM bL M M (Lo:=Lr) H wn M M hrr VD O O M ?_;clear H;intro v49 L49 n49 a w ani aBT H;obtain⟨A49,c49,rfl,-,-⟩:=ani.shape;have H:=H.cast (Oa [_,_,_,_,_,_] bk Ji L49).symm;refine bH eG 4 (vs:=[_]) H wn M ?_;clear H;intro w H;refine bH eG 5 (vs:=[_]) H wn M ?_;clear H;intro w H;refine aI ⟨M,?_⟩;refine QY ((.slice A45 ((A.take<|k+1).flatMap<|lG t).length ZV,.slice A49 (((A.take k).flatMap<|rG t).length+1) c49,aI8,xr++n49,Ji,L49)) _ _ _ _ _ (by exact H.dR (Pl:=[_,_,_,_,_,_]) (dH:=[_,_,_,_]) [1,3,4,5] Z M) ?_;exact⟨Ru,abz,by rw[e2,gT];exact ani,by rw[e2,iy];exact(hcr.mono uX).append aBT⟩
 ·clear H;intro XM gh XV a w hm2 hI H;obtain⟨vl,vr,xl,xr,Ll,Lr⟩:=gh;dsimp only at hI H;dsimp only[lca,bq]at H;obtain⟨hrl,hcl,hrr,hcr⟩:=hI;rw[show A.take (A.map KE).length=A by rw[bM,oI]]at hrl hcl hrr hcr;obtain⟨lA0,lc0,rfl,-,-⟩:=hrl.shape;obtain⟨rA0,rc0,rfl,-,-⟩:=hrr.shape;refine K1 _ _ ?_;clear K1;refine bU<|fun _ K1=>?_;refine dI hmx [[],[],[0],[0,1,2]] [] V [.slice lA0 (A.flatMap<|lG t).length lc0,.slice rA0 (A.flatMap<|rG t).length rc0] H (aD (Z0 M<|Ro eG 2 M) (Z0 M<|Ro eG 3 M) ?_ ?_ dz) ?_
  ·exact ahZ
  ·exact aia
  clear H;intro a w G xU H hv;clear hv;refine aI ⟨M,?_⟩;refine K1 _ _ ?_;clear K1;refine eH ?_;obtain⟨Jd,Ei,hgr,H⟩:=St.qy (Li:=[_,_,_,_]++Ll) (St.un (A:=[_,_,_,_]) H) hrr (rows:=(A.flatMap<|rG t).map ah.dat) (by simp)<|hcr.mono xU;obtain⟨BZ,ny,hgl,H⟩:=St.qy (Li:=[_,_,_,_]) H hrl (rows:=(A.flatMap<|lG t).map ah.dat) (by simp) ((hcl.mono xU).mono Ei);replace hgr:=hgr.mono ny;refine(Iu H 0 M ?_).1;clear H;intro a w H;dsimp only[List.eraseIdx_cons_succ,List.eraseIdx_cons_zero]at H;refine(gV H results146 (.cons (AA eG H M<|H.hp.sD 1 M M) (.cons (AA eG H M<|H.hp.sD 2 M M) .nil)) ?_).1;exact H.rt ⟨_,_,M,by rw[<-hA];exact hgl,by rw[<-hA];exact hgr⟩
 intro Dk x;exact x.elim
theorem ayc:aW 204:=aX func204 M
theorem Sj:prog.underlying 293=some (.slice 22):=by kernel_rfl
theorem axt:aW 147:=aX func147 M
def RF(l:List ah):List Dat:=[.sl 11 (l.map ah.dat)]
theorem acI{G:GH}{l:List ah}{v:aj}(h:av G (.sl 11<|l.map ah.dat) v):bg G (RF l) [v]:=⟨v,[],M,h,M⟩
theorem anW{G:GH}{S:List (List ah)}{A:Option Addr}{n c i:Nat}(hv:av G (.sl 1<|S.map RF) (.slice A n c))(hi:i<S.length):∃b o bA bc,A=some ⟨b,o,none⟩∧aJ G b (o+i*1)=some (.slice bA S[i].length bc)∧av G (.sl 11<|S[i].map ah.dat) (.slice bA S[i].length bc):=by
 obtain⟨A',c',he,_,_,hg⟩:=hv.slice
 injection he with e1 e2 e3
 subst e1;obtain⟨b,o,cs,h1,h2,h3,h4⟩:=hg i (RF S[i]) (by simp[hi])
 simp only[RF,bg]at h4
 obtain⟨v,_,rfl,h5,rfl⟩:=h4;obtain⟨bA,bn,bc,rfl⟩:=h5.form;have hn:=h5.len;rw[bM]at hn;subst hn;exact⟨b,o,bA,bc,h1,h3 0 _ M,h5⟩
theorem aaT{α:Type}{S:List (List α)}{k:Nat}(h:k<S.length):(S.take<|k+1).flatten=(S.take k).flatten++S[k]:=by rw[ji h,List.flatten_append,List.flatten_cons,List.flatten_nil,iR]
theorem alp{α:Type}(S:List (List α))(k:Nat):(S.take k).flatten.length<=S.flatten.length:=by
 have e:=cO List.length<|cO List.flatten<|List.take_append_drop k S;rw[List.flatten_append,gT]at e;omega
theorem aAN(G:GH)(w0:World)(n:Nat)(hO:fZ G [] w0)(hn:n<=4294967296):Calls prog 204 #[.slice none 0 0,vi n] w0 (fG w0 G [] fun u G' L'=>G=G'∧bT 118 11 u 0 [] L'):=by
 have hml:4294967297<=maxLen:=by decide
 refine iY (N:=27) (T:=[(0,_),(1,_)]) func204 M ntmps204 M M hO ?_;intro a H;refine kP H (SR fun _ K1=>ak K1 M<|SQ fun _ K2=>SR fun _ K3=>Rm M<|Rc M<|Kz K3<|Cd M ?_ ?_)<;>clear H K1 K3
 ·intro h6 a H
  try have p6:=dT h6
  exact absurd p6 O
 intro h6 a H
 try have p6:=dF h6
 refine kP H<|Kc K2<|SQ fun _ K1=>SR fun _ K3=>Rm M<|Rm M ?_;clear H K2;intro a H;refine aql dM H wn M M ?_;clear H;intro a H;refine kH H<|Rm M<|Rl dM M<|Rs M<|Rs M ?_;clear H;intro a H;rw[show((n:Int)-(((0:Nat):Int)-((0:Nat):Int)))=(n:Int) by omega]at H;refine kH H (ak K3 M<|SR fun _ K2=>Rm M<|Rc M<|Kz K2<|Cd M ?_ ?_)<;>clear H K3 K2
 ·intro h16 a H
  try have p16:=dT h16
  refine kP H<|SC<|Rm M<|Rm M ?_;clear H;intro a H;refine aql dM H wn M M ?_;clear H;intro a H;refine R8 dM bL 0 H wn M M M (eP _) M ?_;clear H;intro a H;refine kH H<|Rm M ?_;clear H;intro a H;refine aGV dM oU bL M M H wn M M O O O M ?_;clear H;intro b22 avk awx a w aJQ hc22 aB2 aB5 H;refine kH H<|Rm M<|Rl dM M ?_;clear H;intro a H;refine R8 dM bL 0 H wn M M M (fP _) M ?_;clear H;intro a H;exact kH H (bZ K1 M<|SR fun _ K2=>Rm M<|ak K2 M<|LR results204 M fun H=>H.hp.gX ⟨M,by simp,.inr ⟨b22,avk,awx,M,M,fP _,aB2,aB5,by simp⟩⟩)
 intro h16 a H
 exact kP H<|Kc K1<|SR fun _ K2=>Rm M<|ak K2 M<|LR results204 M fun H=>H.hp.gX ⟨M,bT.nil⟩
theorem awl(G:GH)(w0:World)(hG:Hold G w0)(S:List (List ah))(v:aj)(hv:av G (.sl 1<|S.map RF) v)(hz:S.flatten.length<=1073741824) :
  Calls prog 147 #[v] w0 (bD w0 G fun u G'=>av G' (.sl 11<|S.flatten.map ah.dat) u):=by
 obtain⟨A,c,rfl,hc1,hc2,-⟩:=hv.slice;have hml:maxLen=9223372036854775807:=rfl;rw[bM]at *;refine eN [(0,_)] func147 M ntmps147 M M hG ?_;intro a H;refine kP H<|SR fun _ K1=>ak K1 M<|SR fun _ K2=>ak K2 M<|SQ fun _ K3=>SR fun _ K4=>Rm M<|Rl Sj M<|Rm M<|Kz K4<|SB ?_;clear H K1 K2 K4;intro a H;skip;refine dY (ι:=Nat) (Tc:=[(0,_),(9,_),(10,_)]) (Lc:=[]) (fun gh=>[(3,vi ((S.take gh).flatten.length:Nat)),(11,vi gh)]) (fun gh=>[]) (fun gh=>G) (fun gh=>gh<=S.length) (fun gh=>S.length-gh) (0) (by exact H.sub ⟨M,M,M,M,M,aC⟩) ?_ ?_
 ·exact Pn
 clear H;intro k a w hI H;have hk:k<=S.length:=hI;dsimp only[lca,bq]at H;refine kP H (SR fun _ K1=>Rc M<|Kz K1<|SQ fun _ K2=>Cd M ?_ ?_)<;>clear H K1
 ·intro h12 a H
  try have nU:=dT h12
  have hk2:k<S.length:=by omega
  obtain⟨b,o,bA,bc,rfl,g1,g2⟩:=anW hv hk2;have hft:=alp S<|k+1;have hfs:=cO List.length<|aaT hk2;rw[gT]at hfs;refine kP H (Kc K2<|SQ fun _ K1=>SB<|SR fun _ K4=>Ri Sj eG M M<|Rg eG M (by assumption) ?_);clear H K2;intro a H;refine kH H<|ak K4 M<|SR fun _ K2=>Rm M<|Rm M<|Rl dM M<|Rd M ?_;clear H K4;intro a H;rw[show(((S.take k).flatten.length:Nat):Int)+(S[k].length:Int)=(((S.take<|k+1).flatten.length:Nat):Int) by omega]at H;refine kH H (ak K2 M<|SR fun _ K4=>Rm M<|Rc M<|Kz K4<|Cd M ?_ ?_)<;>clear H K2 K4
  ·intro h20 a H
   try have BJ:=dT h20
   exact absurd BJ O
  intro h20 a H
  try have BJ:=dF h20
  refine kP H<|Kc K1<|SC<|Rd M<|Rm M ?_;clear H K1;intro a H;refine aI ?_;refine dO ((k+1)) (by exact H.sub ⟨M,M,M,M,M,aC⟩) ?_
  exact hk2
 intro h12 a H
 try have nU:=dF h12
 refine dS ?_;refine K3 _ _ ?_;clear K3;refine bU<|fun _ K1=>?_;rw[show S.take k=S from jX O]at H;refine kP H<|SC<|Rm M ?_;clear H;intro a H;refine gM ayc (Li:=[]) (L:=[]) H wn M (aAN _ _ S.flatten.length (Hp.owns (Li:=[]) H.hp) O) M ?_;clear H;rintro v24 _ X4 a w ⟨rfl,acf⟩ rW H;dsimp only[List.nil_append]at H;refine kH H<|bZ K1 M<|SQ fun _ K3=>SR fun _ K4=>Rm M<|Rl Sj M<|Rm M<|Kz K4<|SB ?_;clear H K1 K4;intro a H;skip;refine dY (ι:=Nat×aj×List aj×OL) (Tc:=[(25,_),(26,_)]) (Lc:=[]) (fun gh=>[(6,gh.2.1),(27,vi gh.1)]) (fun gh=>[]++gh.2.2.2) (fun gh=>G) (fun gh=>gh.1<=S.length∧bT 118 11 gh.2.1 (S.take gh.1).flatten.length gh.2.2.1 gh.2.2.2∧bR G 11 ((S.take gh.1).flatten.map ah.dat) gh.2.2.1) (fun gh=>S.length-gh.1) ((0,v24,[],X4)) (by exact(H:St _ _ _ _ _ _ ([]++X4) _ _ _).sub ⟨M,M,M,M,aC⟩) ?_ ?_
 ·exact⟨fP _,acf,bR.nil⟩
 clear H;rintro⟨j,v,xs,Lo⟩ a w hI H;dsimp only at hI H;obtain⟨hj,hrw,gK⟩:=hI;dsimp only[lca,bq]at H;refine kP H (SR fun _ K1=>Rc M<|Kz K1<|SQ fun _ K4=>Cd M ?_ ?_)<;>clear H K1
 ·intro eZ a H
  try have p28:=dT eZ
  have hj2:j<S.length:=by omega
  obtain⟨b,o,bA,bc,rfl,g1,g2⟩:=anW hv hj2;have hft:=alp S<|j+1;have hfs:=cO List.length<|aaT hj2;rw[gT]at hfs;refine kP H (Kc K4<|SQ fun _ K1=>SB<|SR fun _ K5=>Ri Sj eG M M<|Rg eG M (by assumption) ?_);clear H K4;intro a H;refine kH H<|ak K5 M<|SC<|Rm M<|Rm M ?_;clear H K5;intro a H;refine R4 (Li:=[]) (Lo:=Lo) dM bL M M H wn M M hrw g2 O O M ?_;clear H;intro v33 asR aFo a w aDo aBR H;dsimp only[List.nil_append]at H;refine kH H<|bZ K1 M<|SC<|Rd M<|Rm M ?_;clear H K1;intro a H;refine aI ?_;refine dO ((j+1,v33,xs++aFo,asR)) (by exact H.sub ⟨M,M,M,M,aC⟩) ?_
  (try dsimp only);exact⟨O,by rw[hfs];exact aDo,by rw[aaT hj2,iy];exact gK.append aBR⟩
 intro eZ a H
 try have p28:=dF eZ
 refine dS ?_;refine K3 _ _ ?_;clear K3;refine bU<|fun _ K1=>?_;obtain⟨Gr,hmr,hrep,H⟩:=St.qy (Li:=[]) H hrw (rows:=(S.take j).flatten.map ah.dat) (by rw[bM]) gK;rw[show S.take j=S from jX O]at hrep;exact kP H<|SC<|Rm M<|bZ K1 M<|LR results147 M fun H=>H.rt hrep
theorem aoS{a b:List ah}(ha:kM a)(hb:kM b):kM (a++b):=KQ fun x hx=>(iF.1 hx).elim (Eu ha x)<|Eu hb x
set_option maxHeartbeats 2000000 in
theorem aGq(G:GH)(w0:World)(hG:Hold G w0)(l la lb la' lb' wi:List ah)(t1 t2:Nat)(v u:aj)(h1:oG l t1 la la')(h2:oG l t2 lb' lb)(h12:t1<=t2)(h2l:t2<=bC l)(hv:av G (.sl 11<|l.map ah.dat) v)(hu:av G (.sl 11<|wi.map ah.dat) u)(hok:eT l)(hnw:kM wi)(hz:aR l<=268435456)(hzw:aR wi<=268435456) :
  Calls prog 70 #[v,vi t1,vi t2,u] w0 (bD w0 G fun r G'=>∃x,r=.tuple #[x,vi 0]∧av G' (.sl 11 ((fq<|la++(wi++lb)).map ah.dat)) x):=by
 have hul:∀y∈l,1<=bO y:=fun y hy=>Xr hok hy;have e1:=(ajn h1 hul).1;have e2:=(ajn h2 hul).2;have s1:=Un h1;have s2:=Un h2
 have hr:Dm l (t1:Nat) (t2:Nat)=0:=by
  have h4:kL l=bC l:=hok.len;rw[Dm,ay hok.zm,au];rw[h4]
  omega
 have hne:kM (la++(wi++lb)):=aoS (ajo h1 hok.ne).1<|aoS hnw (ajo h2 hok.ne).2
 have hz2:aR (la++(wi++lb))<=1073741824:=by rw[xq,xq];omega
 have hlen:=wo<|la++(wi++lb);refine eN [(0,_),(1,_),(2,_),(3,_)] func70 M ntmps70 M M hG<|SR fun _ K1=>Ra M<|ak K1 M<|SQ fun _ K2=>SR fun _ K3=>Rm M<|Rm M<|Rm M fun a H=>s_call aam H wn M (Z4 _ _ H.ro l _ _ v hv O) M ?_;rintro v18 OU a w rfl hm18 H;rw[hr]at H;refine kH H (ak K3 M<|SR fun _ K1=>Rm M<|Rc M<|Kz K1<|Cd M ?_ ?_)<;>clear H K3 K1
 ·intro h20 a H;exact absurd h20 Z
 refine fun h20=>Kc K2<|SR fun _ K1=>Rm M<|Rm M fun a H=>s_call MK H wn M (ajA _ _ H.ro l _ v (hv.mono hm18) O) M ?_;rintro v25 OV a w ⟨x,y,rfl,hx,hy⟩ qJ H;rw[e1]at hx;replace hv:=(hv.mono hm18).mono qJ;refine kH H<|Rm M ?_;intro a H;(iterate 2 refine iH H wn M M M ?_;intro a H);refine kH H<|Ra M<|ak K1 M<|SR fun _ K2=>Rm M<|Rm M fun a H=>s_call MK H wn M (ajA _ _ H.ro l _ v hv O) M ?_;rintro v31 G31 a w ⟨x2,y2,rfl,hx2,hy2⟩ amC H;rw[e2]at hy2;replace hx:=hx.mono amC;replace hu:=((hu.mono hm18).mono qJ).mono amC;obtain⟨xA,xn,xc,rfl⟩:=hx.form;obtain⟨uA,un,uc,rfl⟩:=hu.form;obtain⟨yA,yn,yc,rfl⟩:=hy2.form;refine kH H<|Rm M ?_;intro a H;(iterate 2 refine iH H wn M M M ?_;intro a H);refine kH H (Ra M<|ak K2 M<|SR fun _ K1=>Rm M<|Rm M<|Rm M fun a H=>iT Sj eG [_,_,_] [_,_,_] H wn M M M M M (by intro i q h;match i,h with|0,h=>exact h|1,h=>exact h|2,h=>exact h|n+3,h=>simp at h) M M ?_);intro b37 a w aJT H;obtain⟨XP,QO,aCn,H⟩:=H.eX;refine s_call axt H wn M (awl _ _ H.ro [la,wi,lb] _ (av.uK (xs:=[.slice xA xn xc,.slice uA un uc,.slice yA yn yc]) aCn M (eP _) Z M (by simpa using(((bR.nil (sz:=1)).snoc (acI<|hx.mono QO) M).snoc (acI<|hu.mono QO) M).snoc (acI<|hy2.mono QO) M)) (by simp at hlen|-;omega)) rfl ?_;rintro v38 OW a w En CW H;rw[show[la,wi,lb].flatten=la++(wi++lb) by simp]at En;refine s_call JK H wn M (adg _ _ H.ro (la++(wi++lb)) v38 En hne hz2) M ?_;rintro v39 LQ a w amU Vv H;obtain⟨A39,n39,c39,rfl⟩:=amU.form;refine kH H<|Ra M<|ak K1 M fun a H=>eH ((gV H results70 (.cons (cK H M) (.cons (cK H M) .nil)) ?_).1);exact H.rt ⟨_,M,amU⟩
section
section
variable{N:Nat}{D:List Deferred}{w0:World}{F:Nat->Prop}{G0 G G1 G2:GH}{L L1 L2:OL}{T Xs:List (Nat×aj)}
variable{r:Option Nat}{P:Program}{Q:Exit->Act->World->Prop}{l:List Oper}{a a':Act}{w w':World}
end
end
mutual
/-- The first is what is left of the second: items of its flows are missing. -/
def sbI(y:ah):ah->Prop
 |.mk k c i tx h f r=>∃f' r',y=.mk k c i tx h f' r'∧R9 f' f∧aqA r' r
def sbR(y:aN):aN->Prop
 |.mk h cs=>∃cs',y=.mk h cs'∧aqz cs' cs
def sbC(y:aP):aP->Prop
 |.mk i h f=>∃f',y=.mk i h f'∧R9 f' f
def R9(m:List ah):List ah->Prop
 |[]=>m=[]
 |x::l=>R9 m l∨∃y m',m=y::m'∧sbI y x∧R9 m' l
def aqA(m:List aN):List aN->Prop
 |[]=>m=[]
 |x::l=>∃y m',m=y::m'∧sbR y x∧aqA m' l
def aqz(m:List aP):List aP->Prop
 |[]=>m=[]
 |x::l=>∃y m',m=y::m'∧sbC y x∧aqz m' l
end
mutual
def alI(Q:Int->List ah->Prop):ah->Prop
 |.mk k _ i _ _ f r=>(k=6->Q i f∧Tf Q f)∧(k=7->afe Q r)
def alR(Q:Int->List ah->Prop):aN->Prop
 |.mk _ cs=>afd Q cs
def alC(Q:Int->List ah->Prop):aP->Prop
 |.mk i _ f=>Q i f∧Tf Q f
def Tf(Q:Int->List ah->Prop):List ah->Prop
 |[]=>True
 |x::l=>alI Q x∧Tf Q l
def afe(Q:Int->List ah->Prop):List aN->Prop
 |[]=>True
 |x::l=>alR Q x∧afe Q l
def afd(Q:Int->List ah->Prop):List aP->Prop
 |[]=>True
 |x::l=>alC Q x∧afd Q l
end
theorem aan:aW 150:=aX func150 M
theorem aye:aW 206:=aX func206 M
theorem axu:aW 149:=aX func149 M
theorem axv:aW 151:=aX func151 M
abbrev wE(b:Nat)(q:Bool):Nat×Obj:=(b,.cells #[.bool q] 4 (0,0))
theorem yu(A B:OL)(x:Nat×Obj):(A++x::B).Perm ((A++B)++[x]):=by
 rw[iG];exact(vD (l₁:=[x]) (l₂:=B)).append_left A
theorem avV(G:GH)(w0:World)(hO:fZ G [] w0)(rows:List (List Dat))(A:Option Addr)(n c:Nat)(hv:av G (.sl 7 rows) (.slice A n c))(hz:rows.length<=4294967296) :
  Calls prog 206 #[.slice A n c] w0 (fG w0 G [] fun u G' L'=>∃xs,bT 124 7 u rows.length xs L'∧bR G' 7 rows xs):=by
 obtain⟨hn,hc1,hc2,hnil,hx⟩:=hv.cells;refine iY (N:=8) (T:=[(0,_)]) func206 M ntmps206 M M hO<|SR fun _ K1=>ak K1 M<|SQ fun _ K2=>SR fun _ K3=>Rm M fun a H=>EF ko H wn M M fun a H=>K3 _ _<|jU H M ?_ ?_
 ·intro h4;exact kP H<|SR fun _ K1=>ak K1 M fun a H=>lr H results206 M JC
 intro h4;refine fU<|K2 _ _<|bU<|fun _ K1=>?_
 have hA:¬A=none:=by intro e;rw[e]at h4;cases h4
 refine mF<|ED ko iQ H wn M fun b5 a w hb5 H=>kH H<|Rm M ?_;intro a H
 by_cases hr0:rows=[]
 ·have hn0:n=0:=by rw[hn,hr0];rfl
  subst hn0;refine Dn ko iQ H wn M M (eP _) M<|bZ K1 M fun a H=>lr H results206 M ?_;subst hr0;exact Ju
 obtain⟨b,o,xs,rfl,hxl,hxc,hx1,gK⟩:=hx hr0;refine lW (Li:=[]) (Lo:=[_]) (news:=xs) ko iQ M M H wn M M bT.empty hxl (fun j u hj=>H.hp.aJ<|hxc j u hj) hx1 O O M ?_;intro v7 Lo a w hrow H;dsimp only[List.nil_append]at H;exact kH H (bZ K1 M<|LR results206 M fun H=>H.hp.gX ⟨_,by rw[fB,hn]at hrow;exact hrow,gK⟩)
abbrev WW:aj:=.func (.func 149) #[] #[]
abbrev Oq(b4 bd b5:Nat):aj:=.func (.func 151) #[] #[(aK b4 0),(aK bd 0),(aK b5 0)]
def sfQ(id:Int)(new:List ah):Int->List ah->Prop:=fun i f=>i=id->R9 new f
structure Yh(G:GH)(id:Int)(new:List ah)(b4 b5:Nat):Prop where
 i:aJ G b4 0=some (vi id)
 n:∃A n c,aJ G b5 0=some (.slice A n c)∧av G (.sl 11 (new.map ah.dat)) (.slice A n c)
 al:Tf (sfQ id new) new
theorem Yh.mono{G G':GH}(hm:∀b o,G b=some o->G' b=some o){id:Int}{new:List ah}{b4 b5:Nat}(h:Yh G id new b4 b5):Yh G' id new b4 b5 :=
 ⟨aH hm h.i,let⟨A,n,c,h1,h2⟩:=h.n;⟨A,n,c,aH hm h1,h2.mono hm⟩,h.al⟩
theorem aHs(G:GH)(w0:World)(hG:Hold G w0)(i:Int)(A:Option Addr)(n c:Nat):uN prog WW [vi i,.slice A n c] w0 (bD w0 G fun u G'=>u=.slice A n c):=by
 exact kJ (caps:=[]) axu<|eN [(0,_),(1,_)] func149 M ntmps149 M M hG<|SR fun _ K1=>ak K1 M<|SR fun _ K2=>Rm M<|ak K2 M<|LR results149 M fun H=>H.rt M
theorem bR.aqB{G:GH}{sz:Nat}:∀{rows:List (List Dat)}{xs:List aj}{i k:Nat}{r r':List Dat}{v:aj},bR G sz rows xs->rows[i]?=some r->(∀cs,bg G r cs->bg G r' (cs.set k v))->k<sz->bR G sz (rows.set i r') (xs.set (i*sz+k) v)
 |[],_,_,_,_,_,_,_,h,_,_=>by simp at h
 |q::rows,xs,i,k,r,r',v,h,hr,hv,hs=>by
  obtain⟨css,rfl,h2,h3⟩:=h
  cases css with
  |nil=>simp at h2
  |cons c css=>
   obtain⟨h4,h5⟩:=h3 0 q c M M;have h6:bR G sz rows css.flatten:=⟨css,M,by simpa using h2,fun j r' cs hr' hc=>h3 (j+1) r' cs (by simpa using hr') (by simpa using hc)⟩
   have h7:∀{q':List Dat}{rows':List (List Dat)}{c' x':List aj},bg G q' c'->c'.length=sz->bR G sz rows' x'->bR G sz (q'::rows') (c'++x'):=fun a b e=>by
    have h8:=((bR.nil (G:=G) (sz:=sz)).snoc a b).append e
    simpa using h8
   rw[List.flatten_cons]
   cases i with
   |zero=>
    simp only[Cg,oW]at hr
    subst hr;rw[Nat.zero_mul,fB,List.set_append_left _ _ O];exact h7 (hv _ h4) (by rw[List.length_set];exact h5) h6
   |succ i=>
    rw[List.set_append_right _ _ (by rw[h5,Nat.succ_mul];omega),h5,show(i+1)*sz+k-sz=i*sz+k by rw[Nat.succ_mul];omega];exact h7 h4 h5 (bR.aqB h6 (by simpa using hr) hv hs)
theorem bR.aHo{G:GH}{ds:List aP}{zs:List aj}{i:Nat}{f:List ah}{v:aj}(h:bR G 7 (ds.map aP.dat) zs)(hi:i<ds.length)(hv:av G (.sl 11<|f.map ah.dat) v):bR G 7 ((ds.set i (.mk ds[i].id ds[i].head f)).map aP.dat) (zs.set (i*7+6) v):=by
 rw[List.map_set];refine h.aqB (r:=ds[i].dat) (by simp[hi]) (fun cs hc=>?_) Z;obtain⟨aA,an,ac,gA,gn,gc,uA,un,uc,wA,wn,wc,rfl,hh,-⟩:=hc.cell;exact bg.V7 (x:=.mk ds[i].id ds[i].head f) hh hv
theorem akk:aW 38:=aX func38 M
theorem ayT:aW 28:=aX func28 M
section
section
variable{N:Nat}{D:List Deferred}{w0:World}{F:Nat->Prop}{G0 G G1 G2:GH}{L L1 L2:OL}{T Xs:List (Nat×aj)}
variable{r:Option Nat}{P:Program}{Q:Exit->Act->World->Prop}{l:List Oper}{a a':Act}{w w':World}
theorem auZ{id:Nat}{κ:Type}(k0:κ)(Lf:κ->OL)(J:(Nat->Bool)->κ->Prop)(hJ:J (fun _=>false) k0)(hm:P.follows .mixedOrders=true)(bK:List (List Nat))(B:List Nat)(hk:xO l bK=true)(hB:yx l bK B=true)(pr:Nat->aj->GH->Prop)
  (H:St N D w0 F G0 G (Lf k0) T a w)
  (hstep:allI (fun i o=>∀k S a w G1,B.contains i=false->J S k->S i=false->(∀j∈bK.getD i [],S j=true)->(∀k o,G k=some o->G1 k=some o)->St N D w0 F G0 G1 (Lf k) T a w->(∀i d,S i=true->dZ l i=some d->∃v,a.tmps[d]?=some v∧pr i v G1)->
   WL r P l.toArray (fun e a' w'=>e=.normal∧∃k',J (dD S i) k'∧DX N D w0 F G0 G (Lf k') T l pr (dD S i) a' w') [o] a w) 0 l)
  (hend:∀k S a w G1,(∀i,i<l.length->B.contains i=false->S i=true)->J S k->(∀k o,G k=some o->G1 k=some o)->St N D w0 F G0 G1 (Lf k) T a w->(∀i d,B.contains i=false->dZ l i=some d->∃v,a.tmps[d]?=some v∧pr i v G1)->WL r P l.toArray (fun e a w=>e=.normal∧Q .normal a w) (qM l B) a w):WP r P (.region id l.toArray true) Q a w:=by
 refine JG hm bK B hk hB (fun S a w=>∃k,J S k∧DX N D w0 F G0 G (Lf k) T l pr S a w) ⟨k0,hJ,G,fun _ _ h=>h,H.move H.hp.drew,fun _ _ h=>absurd (show false=true from h) Z⟩ ?_ ?_
 ·rintro i o S a w ho hb aM jA-⟨k,hj,G1,hG,HS,hv⟩
  have h:=zM hstep i o ho
  rw[fB]at h
  exact h k S a w G1 hb hj aM jA hG HS hv
 ·rintro S a w hall Nt ⟨k,hj,G1,hG,HS,hv⟩
  exact hend k S a w G1 hall hj hG HS fun j d hb hd=>hv j d (hall j (rR hd) hb) hd
theorem KI{κ:Type}{Lf:κ->OL}{J:(Nat->Bool)->κ->Prop}{bK:List (List Nat)}{B:List Nat}{pr:Nat->aj->GH->Prop}{i:Nat}{o:Oper}(hJ:∀S k,J S k->J (dD S i) k)
  (h:∀k,(∀S a w G1,B.contains i=false->S i=false->(∀j∈bK.getD i [],S j=true)->(∀k o,G k=some o->G1 k=some o)->St N D w0 F G0 G1 (Lf k) T a w->(∀i d,S i=true->dZ l i=some d->∃v,a.tmps[d]?=some v∧pr i v G1)->
   WL r P l.toArray (fun e a' w'=>e=.normal∧DX N D w0 F G0 G (Lf k) T l pr (dD S i) a' w') [o] a w)) :
  ∀k S a w G1,B.contains i=false->J S k->S i=false->(∀j∈bK.getD i [],S j=true)->(∀k o,G k=some o->G1 k=some o)->St N D w0 F G0 G1 (Lf k) T a w->(∀i d,S i=true->dZ l i=some d->∃v,a.tmps[d]?=some v∧pr i v G1)->
   WL r P l.toArray (fun e a' w'=>e=.normal∧∃k',J (dD S i) k'∧DX N D w0 F G0 G (Lf k') T l pr (dD S i) a' w') [o] a w :=
 fun k S a w G1 h1 hj h2 h3 h4 h5 h6=>mU (fun _ _ _⟨e,hd⟩=>⟨e,k,hJ S k hj,hd⟩)<|h k S a w G1 h1 h2 h3 h4 h5 h6
end
end
structure O7(G:GH)(id:Int)(new:List ah)(b4 b5:Nat):Prop where
 i:aJ G b4 0=some (vi id)
 n:∃A n c,aJ G b5 0=some (.slice A n c)∧av G (.sl 11 (new.map ah.dat)) (.slice A n c)
 z:aR new<=1073741824
theorem O7.mono{G G':GH}(hm:∀b o,G b=some o->G' b=some o){id:Int}{new:List ah}{b4 b5:Nat}(h:O7 G id new b4 b5):O7 G' id new b4 b5 :=
 ⟨aH hm h.i,let⟨A,n,c,h1,h2⟩:=h.n;⟨A,n,c,aH hm h1,h2.mono hm⟩,h.z⟩
theorem aqF(G:GH)(w0:World)(id:Int)(new:List ah)(b4 bd b5:Nat)(q:Bool)(hO:fZ G [wE bd q] w0)(hE:O7 G id new b4 b5)(i:Int)(f:List ah)(v:aj)(hv:av G (.sl 11<|f.map ah.dat) v) :
  uN prog (Oq b4 bd b5) [vi i,v] w0 (fG w0 G [wE bd q] fun u G' L'=>L'=[wE bd<|sH id q i]∧av G' (.sl 11 ((rJ id new q i f).map ah.dat)) u):=by
 refine kJ (caps:=[aK b4 0,aK bd 0,aK b5 0]) axv ?_;obtain⟨A,n,c,rfl⟩:=hv.form;obtain⟨hi,⟨B,m,e,hb,hn⟩,hz⟩:=hE;refine iY (N:=16) (T:=[(0,_),(1,_),(2,_),(3,_),(4,_)]) func151 M ntmps151 M M hO ?_;intro a H;refine kP H (SR fun _ K1=>ak K1 M<|SQ fun _ K2=>SR fun _ K3=>Rm M<|Rg aF M hi<|Rc M<|Rm M<|Sp 11 M ?_ ?_)<;>clear H K1
 ·intro h11 a H
  try have pR:=dT h11
  exact kH H (Ks h11 M<|Pt h11 M<|Kz K3<|Ct M M<|SR fun _ K1=>Rm M<|ak K1 M<|LR results151 M fun H=>H.hp.gX (by unfold sH rJ;simp_all))
 intro h11 a H
 try have pR:=dF h11
 refine kH H (YO wm 0 h11 M<|Pf h11 M<|Kz K3<|Cd M ?_ ?_)<;>clear H K3
 ·intro iA a H
  try have tK:=dT iA
  exact kP H (SR fun _ K1=>Rm M<|ak K1 M<|LR results151 M fun H=>H.hp.gX (by unfold sH rJ;simp_all))
 intro iA a H
 try have tK:=dF iA
 refine fU ?_;refine K2 _ _ ?_;clear K2;refine dw<|fun _ K1=>?_;refine bH wm 0 (vs:=[_]) H wn M ?_;clear H;intro w H;refine K1 _ _ ?_;clear K1;exact kP H (SR fun _ K1=>Rg eG M hb<|ak K1 M<|LR results151 M fun H=>H.hp.gX (by unfold sH rJ;simp_all))
def Yf(id:Int)(new:List ah)(b4 bd b5 n:Nat):Prop:=∀(G:GH)(w0:World)(l:List ah)(v:aj)(q:Bool),fZ G [wE bd q] w0->O7 G id new b4 b5->av G (.sl 11 (l.map ah.dat)) v->V9 q l<n->aR l<=1073741824->
 Calls prog 150 #[v,WW,Oq b4 bd b5] w0 (fG w0 G [wE bd q] fun u G' L'=>∃m q',jk id new q l=(m,q')∧L'=[wE bd q']∧av G' (.sl 11 (m.map ah.dat)) u)
theorem TV {p:Prop} (h:p:=by
 refine KI (fun _ _ h=>h) fun dx=>?_;exact Mx):p:=h
set_option maxHeartbeats 4000000 in
theorem aGo{id:Int}{new:List ah}{b4 bd b5 n:Nat}(ih:Yf id new b4 bd b5 n):Yf id new b4 bd b5 (n+1):=by
 intro G w0 l v b hO hE hv hms hz;obtain⟨A,c,rfl,hc1,hc2,hg⟩:=hv.slice
 have hml:4294967297<=maxLen:=by decide
 have hll:=wo l;rw[bM]at *;refine iY (N:=88) (T:=[(0,_),(1,_),(2,_)]) func150 M ntmps150 M M hO ?_;intro a H;refine kP H<|SR fun _ K1=>ak K1 M<|SR fun _ K2=>ak K2 M<|SQ fun _ K3=>SR fun _ K4=>Rm M<|Rl dM M<|Rm M<|Kz K4<|SB ?_;clear H K1 K2 K4;intro a H;skip;refine dY (ι:=Nat×Bool×aj×List ah×List aj×OL×GH) (Tc:=[(1,_),(2,_),(15,_),(16,_)]) (Lc:=[]) (fun gh=>[(7,gh.2.2.1),(17,vi gh.1)]) (fun gh=>[wE bd gh.2.1]++gh.2.2.2.2.2.1) (fun gh=>gh.2.2.2.2.2.2) (fun gh=>gh.1<=l.length∧bT 118 11 gh.2.2.1 gh.2.2.2.1.length gh.2.2.2.2.1 gh.2.2.2.2.2.1∧bR gh.2.2.2.2.2.2 11 (gh.2.2.2.1.map ah.dat) gh.2.2.2.2.1∧jk id new b (l.take gh.1)=(gh.2.2.2.1,gh.2.1)∧(∀b o,G b=some o->gh.2.2.2.2.2.2 b=some o)) (fun gh=>l.length-gh.1) ((0,b,.slice none 0 0,[],[],[],G)) (by exact(H.NV (A:=[_])).sub ⟨M,M,M,M,M,M,aC⟩) ?_ ?_
 ·exact⟨O,bT.nil,bR.nil,by rw[List.take_zero,jk],fun _ _ h=>h⟩
 clear H;rintro⟨k,q,v,m,xs,Lo,g⟩ a w hI H;dsimp only at hI H;obtain⟨hk,hrw,gK,hsb,hgm⟩:=hI;have FQ:=apW hsb;rw[List.length_take]at FQ;dsimp only[lca,bq]at H;refine kP H (SR fun _ K1=>Rc M<|Kz K1<|SQ fun _ K2=>Cd M ?_ ?_)<;>clear H K1
 ·intro h18 a H
  try have pU:=dT h18
  have hk2:k<l.length:=by omega
  obtain⟨b_,o_,pA,pn,pc,dA,dn,dc,yA,yn,yc,fA,fn,fc,rA,rn,rc,rfl,hrow,hhd,hfl,hrs⟩:=vI hk2 hg;replace hrow:=fun j u hj=>aH hgm<|hrow j u hj;replace hhd:=hhd.mono hgm;replace hfl:=hfl.mono hgm;replace hrs:=hrs.mono hgm;have hE2:=hE.mono hgm;have amn:=aGF hsb;have hzi:=GK hk2;refine kP H<|Kc K2<|SQ fun _ K1=>SB<|SR fun _ K4=>Ri dM bL M M ?_;clear H K2;intro a H;refine aY bL (cs:=[_,_,_,_,_,_,_,_,_,_,_]) H wn M M (fun j v hj=>H.hp.aJ<|hrow j v hj) M ?_;clear H;intro a H;refine dK bL H wn M ?_;clear H;intro b9 a w yY H;refine bH bL 0 (vs:=[_,_,_,_,_,_,_,_,_,_,_]) H wn M ?_;clear H;intro w H;refine K4 _ _ ?_;clear K4;refine rQ (ι:=Bool×ah×List aj×GH) (Tc:=[(1,_),(2,_),(7,_),(9,_),(15,_),(16,_),(17,_)]) (Lc:=[]) (fun gh=>[]) (fun gh=>[(b9,.cells gh.2.2.1.toArray 118 (0,0)),wE bd gh.1]++Lo) (fun gh=>gh.2.2.2) (fun gh=>pX id new q l[k]=(gh.2.1,gh.1)∧bg gh.2.2.2 gh.2.1.dat gh.2.2.1∧(∀b o,g b=some o->gh.2.2.2 b=some o)) (by exact H.sub ⟨M,M,M,M,M,M,M,aC⟩) ?_ ?_
  ·skip;refine kP H (SR fun _ K2=>aV iW aF 0 M M<|Kz K2<|SB<|SR fun _ K4=>Rc M<|ak K4 M<|Cd M ?_ ?_)<;>clear H K2 K4
   ·intro h23 a H
    try have rH:=dT h23
    have amK:=aoF (id:=id) (new:=new) (i:=l[k].id) (f:=l[k].flow) amn O hz hms hE.z;refine kP H<|SC<|Rm M<|aV yO aF 0 M M<|aV uU eG 0 M M ?_;clear H;intro a H;refine BM (Li:=[_]++Lo) (L:=[wE bd _]) (H.perm<|yu [_] Lo _) wn M M (aqF _ _ id new b4 bd b5 _ (Hp.owns (Li:=[_]++Lo) (H.perm<|yu [_] Lo _).hp) hE2 l[k].id l[k].flow _ hfl) M ?_;clear H;rintro v30 GR L30 a w ⟨rfl,anu⟩ Bw H;have H:=H.perm (yu [_] Lo _).symm;obtain⟨A30,n30,c30,rfl⟩:=anu.form;refine kH H<|Rm M<|Rm M ?_;clear H;intro a H;refine gM aan (Li:=[_]++Lo) (L:=[wE bd _]) (H.perm<|yu [_] Lo _) wn M (ih _ _ _ _ _ (Hp.owns (Li:=[_]++Lo) (H.perm<|yu [_] Lo _).hp) (hE2.mono Bw) anu amK.1 amK.2) M ?_;clear H;rintro v33 LP L33 a w ⟨m33,q33,aDz,rfl,anv⟩ Ki H;have H:=H.perm (yu [_] Lo _).symm;obtain⟨XH,n33,ZU,rfl⟩:=anv.form;dsimp only[lca,bq]at H;refine kH H<|Rf uU M ?_;clear H;intro a H;refine bH eG 0 (vs:=[_]) H wn M ?_;clear H;intro w H;refine aI ?_;refine⟨(q33,.mk l[k].kind l[k].code l[k].id l[k].text l[k].head m33 l[k].rows,[vi l[k].kind,vi l[k].code,vi l[k].id,.string l[k].text,.slice pA pn pc,vi l[k].head.marks.ins,vi l[k].head.marks.move,.slice dA dn dc,.slice yA yn yc,.slice XH n33 ZU,.slice rA rn rc],LP),by exact H.sub ⟨M,M,M,M,M,M,M,aC⟩,?_⟩;(try dsimp only);exact⟨aGG rH aDz,bg.mkItem (x:=.mk l[k].kind l[k].code l[k].id l[k].text l[k].head m33 l[k].rows) (hhd.mono fun b o h=>Ki b o<|Bw b o h) anv (hrs.mono fun b o h=>Ki b o<|Bw b o h),fun b o h=>Ki b o<|Bw b o h⟩
   intro h23 a H
   try have rH:=dF h23
   refine kP H (SR fun _ K2=>Rc M<|ak K2 M<|Cd M ?_ ?_)<;>clear H K2
   ·intro jr a H
    try have p35:=dT jr
    refine kP H<|SR fun _ K2=>ak K2 M<|SQ fun _ K4=>SR fun _ K5=>Rm M<|aV yO aF 0 M M<|aV mZ lX 0 M M ?_;clear H K2;intro a H;refine ow H wn M M (aHs _ _ H.ro l[k].id rA rn rc) M ?_;clear H;rintro v42 XR a w rfl amG H;have aKq:=hrs;obtain⟨_,rc_,he,hc3,hc4,aCq⟩:=hrs.slice
    injection he with he1 he2 QC
    subst he1 he2 QC;have hrl:=ER l[k].rows;rw[bM]at *;refine kH H<|Rl jI M<|Rm M<|Kz K5<|SB ?_;clear H K5;intro a H;skip;refine dY (ι:=Nat×Bool×aj×List aN×List aj×OL×GH) (Tc:=[(1,_),(2,_),(7,_),(9,_),(15,_),(16,_),(17,_),(42,_),(43,_)]) (Lc:=[(_,_)]) (fun gh=>[(10,gh.2.2.1),(44,vi gh.1)]) (fun gh=>[wE bd gh.2.1]++(Lo++gh.2.2.2.2.2.1)) (fun gh=>gh.2.2.2.2.2.2) (fun gh=>gh.1<=l[k].rows.length∧bT 121 6 gh.2.2.1 gh.2.2.2.1.length gh.2.2.2.2.1 gh.2.2.2.2.2.1∧bR gh.2.2.2.2.2.2 6 (gh.2.2.2.1.map aN.dat) gh.2.2.2.2.1∧mD id new q (l[k].rows.take gh.1)=(gh.2.2.2.1,gh.2.1)∧(∀b o,g b=some o->gh.2.2.2.2.2.2 b=some o)) (fun gh=>l[k].rows.length-gh.1) ((0,q,.slice none 0 0,[],[],[],XR)) (by exact(H.NV (A:=[_,_])).sub ⟨M,M,M,M,M,M,M,M,M,M,M,aC⟩) ?_ ?_
    ·exact⟨O,bT.nil,bR.nil,by rw[List.take_zero,mD],amG⟩
    clear H;rintro⟨j,q2,vr,rs,ys,Lr,g2⟩ a w hI H;dsimp only at hI H;obtain⟨hj,hrw2,Nl,hsr,nk⟩:=hI;have aDm:=aqb hsr;rw[List.length_take]at aDm;dsimp only[lca,bq]at H;refine kP H (SR fun _ K2=>Rc M<|Kz K2<|SQ fun _ K5=>Cd M ?_ ?_)<;>clear H K2
    ·intro h45 a H
     try have p45:=dT h45
     have hj2:j<l[k].rows.length:=by omega
     obtain⟨b2_,o2_,qA,qn,qc,sA,sn,sc,tA,tn,tc,cA,cn,cc,rfl,hrow2,Vq,hcl⟩:=Gg hj2 aCq;replace hrow2:=fun j u hj=>aH nk<|hrow2 j u hj;replace Vq:=Vq.mono nk;replace hcl:=hcl.mono nk;have aCi:=fun h=>aGC hsr<|amn h;have hzr:=GL hj2;have aB1:=EP l[k].rows[j].cells;refine kP H<|Kc K5<|SQ fun _ K2=>SB<|SR fun _ K6=>Ri jI iC M M ?_;clear H K5;intro a H;refine aY iC (cs:=[_,_,_,_,_,_]) H wn M M (fun j v hj=>H.hp.aJ<|hrow2 j v hj) M ?_;clear H;intro a H;refine dK iC H wn M ?_;clear H;intro b12 a w CP H;refine bH iC 0 (vs:=[_,_,_,_,_,_]) H wn M ?_;clear H;intro w H;refine K6 _ _ ?_;clear K6;refine kP H<|SR fun _ K5=>aV rT qD 0 M M ?_;clear H;intro a H;refine gM aye (Li:=[_,_,_]++(Lo++Lr)) (L:=[]) (H.cast (iR _).symm) wn M (avV _ _ (yj H.ro) _ _ _ _ hcl (by simpa using(by omega:l[k].rows[j].cells.length<=4294967296))) rfl ?_;clear H;rintro v50 XT L50 a w ⟨aJn,acg,aBV⟩ Kk H;rw[bM]at acg;obtain⟨SA,JF,rfl,-,-⟩:=acg.shape;dsimp only[lca,bq]at H;refine kH H<|Rf rT M ?_;clear H;intro a H;refine bH qD 0 (vs:=[_]) H wn M ?_;clear H;intro w H;refine K5 _ _ ?_;clear K5;refine kP H<|SQ fun _ K5=>SR fun _ K6=>aV rT qD 0 M M<|Rl ko M<|Rm M<|Kz K6<|SB ?_;clear H K6;intro a H;skip;refine dY (ι:=Nat×Bool×List aP×List aj×OL×GH) (Tc:=[(1,_),(2,_),(7,_),(9,_),(10,_),(12,_),(15,_),(16,_),(17,_),(42,_),(43,_),(44,_),(53,_),(54,_)]) (Lc:=[(_,_),(_,_)]) (fun gh=>[(55,vi gh.1)]) (fun gh=>[wE bd gh.2.1]++((Lo++Lr)++gh.2.2.2.2.1)) (fun gh=>gh.2.2.2.2.2) (fun gh=>gh.1<=l[k].rows[j].cells.length∧bT 124 7 (.slice SA l[k].rows[j].cells.length JF) l[k].rows[j].cells.length gh.2.2.2.1 gh.2.2.2.2.1∧bR gh.2.2.2.2.2 7 (gh.2.2.1.map aP.dat) gh.2.2.2.1∧mO id new q2 (l[k].rows[j].cells.take gh.1)=(gh.2.2.1.take gh.1,gh.2.1)∧gh.2.2.1.length=l[k].rows[j].cells.length∧gh.2.2.1.drop gh.1=l[k].rows[j].cells.drop gh.1∧(∀b o,XT b=some o->gh.2.2.2.2.2 b=some o)) (fun gh=>l[k].rows[j].cells.length-gh.1) ((0,q2,l[k].rows[j].cells,aJn,L50,XT)) (by exact H.sub ⟨M,M,M,M,M,M,M,M,M,M,M,M,M,M,M,aC⟩) ?_ ?_
     ·exact⟨O,acg,aBV,by simp only[List.take_zero,mO],M,M,fun _ _ h=>h⟩
     clear H;rintro⟨i,q3,ds,zs,Lc,g3⟩ a w hI H;dsimp only at hI H;obtain⟨hi,hrw3,aby,hsc,hdl,hdr,Aj⟩:=hI;dsimp only[lca,bq]at H;refine kP H (SR fun _ K6=>Rc M<|Kz K6<|SQ fun _ K7=>Cd M ?_ ?_)<;>clear H K6
     ·intro JY a H
      try have p56:=dT JY
      have hi2:i<l[k].rows[j].cells.length:=by omega
      have hi3:i<ds.length:=by omega
      have hdi:ds[i]=l[k].rows[j].cells[i]:=by
       have h1:(ds.drop i)[0]?=(l[k].rows[j].cells.drop i)[0]?:=by rw[hdr]
       rw[List.getElem?_drop,List.getElem?_drop,oZ,gF hi3,gF hi2]at h1;exact Option.some.inj h1
      obtain⟨bc,rfl⟩:=hrw3.ptr O;obtain⟨zc,hzc,hzx,anH⟩:=aby.at (k:=i) (r:=ds[i].dat) (by simp[hi3]);obtain⟨aA,an,ac,gA,gn,gc,uA,un,uc,wA,Sq,wc,rfl,aCs,QF⟩:=anH.cell;obtain⟨cur,-,rfl,hcur,hset⟩:=hrw3.set1;have aCj:=fun h=>aGA hsc<|aCi h;have hE3:=hE2.mono fun b o h=>Aj b o<|Kk b o<|nk b o h;have aDX:=GJ hi2;rw[<-hdi]at aDX;have amL:=aoF (id:=id) (new:=new) (i:=ds[i].id) (f:=ds[i].flow) aCj O hz hms hE.z;refine kP H<|Kc K7<|SQ fun _ K6=>SB<|SR fun _ K8=>Rm M<|Ri ko iQ M M ?_;clear H K7;intro a H;refine aY iQ (cs:=[vi ds[i].id,.slice aA an ac,vi ds[i].head.marks.ins,vi ds[i].head.marks.move,.slice gA gn gc,.slice uA un uc,.slice wA Sq wc]) H wn M M (fun j v hj=>hrw3.at H.hp (fun x hx=>gH _<|gH _<|gH _<|List.mem_append_right _ hx) (by rw[fB];exact hzx j v hj)) M ?_;clear H;intro a H;refine dK iQ H wn M ?_;clear H;intro b14 a w Nh H;refine kH H<|Ra M ?_;clear H;intro a H;refine bH iQ 0 (vs:=[_,_,_,_,_,_,_]) H wn M ?_;clear H;intro w H;refine K8 _ _ ?_;clear K8
      have og:yG (fun(cu:Nat)(v:aj)(G:GH)=>match cu with|0=>v=(aK b12 5)|1=>v=.slice (some ⟨bc,0,none⟩) l[k].rows[j].cells.length JF|2=>v=vi i|3=>v=Oq b4 bd b5|4=>v=(aK b14 0)|5=>v=vi ds[i].id|6=>v=(aK b14 6)|7=>v=.slice wA Sq wc|8=>av G (.sl 11 ((rJ id new q3 ds[i].id ds[i].flow).map ah.dat)) v|9=>v=WW|10=>v=Oq b4 bd b5|11=>av G (.sl 11 ((jk id new (sH id q3 ds[i].id)<|rJ id new q3 ds[i].id ds[i].flow).1.map ah.dat)) v|_=>True):=by intro cu v G G' hm h;(iterate 15 (rcases cu with _|cu;(first|exact h|exact av.mono hm h)));exact trivial
      refine auZ (κ:=Bool) (q3) (fun q=>(b14,.cells #[vi ds[i].id,.slice aA an ac,vi ds[i].head.marks.ins,vi ds[i].head.marks.move,.slice gA gn gc,.slice uA un uc,.slice wA Sq wc] 124 (0,0))::(b12,.cells #[.slice qA qn qc,vi l[k].rows[j].head.marks.ins,vi l[k].rows[j].head.marks.move,.slice sA sn sc,.slice tA tn tc,.slice (some ⟨bc,0,none⟩) l[k].rows[j].cells.length JF] 121 (0,0))::(b9,.cells #[vi l[k].kind,vi l[k].code,vi l[k].id,.string l[k].text,.slice pA pn pc,vi l[k].head.marks.ins,vi l[k].head.marks.move,.slice dA dn dc,.slice yA yn yc,.slice fA fn fc,.slice (some ⟨b2_,o2_,none⟩) l[k].rows.length rc] 118 (0,0))::wE bd q::((Lo++Lr)++[(bc,.cells cur.toArray 124 (0,0))])) (fun S k=>(S 11=true->S 8=true)∧k=bif S 11 then(jk id new (sH id q3 ds[i].id)<|rJ id new q3 ds[i].id ds[i].flow).2 else bif S 8 then sH id q3 ds[i].id else q3) (⟨fun h=>h,M⟩) (hmx) [[],[0],[],[],[],[4],[],[6],ra 3 5,[],[],ra 3 8,ra 0 12,ra 0 13,ra 0 14] [12,13,14] V V (fun(cu:Nat)(v:aj)(G:GH)=>match cu with|0=>v=(aK b12 5)|1=>v=.slice (some ⟨bc,0,none⟩) l[k].rows[j].cells.length JF|2=>v=vi i|3=>v=Oq b4 bd b5|4=>v=(aK b14 0)|5=>v=vi ds[i].id|6=>v=(aK b14 6)|7=>v=.slice wA Sq wc|8=>av G (.sl 11 ((rJ id new q3 ds[i].id ds[i].flow).map ah.dat)) v|9=>v=WW|10=>v=Oq b4 bd b5|11=>av G (.sl 11 ((jk id new (sH id q3 ds[i].id)<|rJ id new q3 ds[i].id ds[i].flow).1.map ah.dat)) v|_=>True) H ?_ ?_
      ·clear H;refine aD ?_ ?_ ?_ ?_<|aD ?_ ?_ ?_ ?_<|aD ?_ ?_ ?_ ?_<|bE ?_<|bE ?_<|bE ?_ dz
       ·refine KI (fun _ _ h=>h) fun dx=>?_;refine dN [] M trivial V og M M ?_;exact Pp
       ·refine KI (fun _ _ h=>h) fun dx=>?_;refine dN [(0,60,_)] M ⟨fun _ _ h=>h,aC⟩ V og M M ?_;intro aZ a w G1 hG HT H fin;exact afR
       ·exact TV
       ·exact TV
       ·refine KI (fun _ _ h=>h) fun dx=>?_;refine dN [] M trivial V og M M ?_;exact TP
       ·refine KI (fun _ _ h=>h) fun dx=>?_;refine dN [(4,64,_)] M ⟨fun _ _ h=>h,aC⟩ V og M M ?_;intro aZ a w G1 hG HT H fin;exact kH H<|Ro aF 0 M fun _ H=>fin H iJ M
       ·refine KI (fun _ _ h=>h) fun dx=>?_;refine dN [] M trivial V og M M ?_;exact TN
       ·refine KI (fun _ _ h=>h) fun dx=>?_;refine dN [(6,66,_)] M ⟨fun _ _ h=>h,aC⟩ V og M M ?_;intro aZ a w G1 hG HT H fin;exact kH H<|Ro eG 0 M fun _ H=>fin H iJ M
       ·intro dx aZ a w G1 _ Na aM hc hG HT hv;have H:=HT
        have alS:aZ 11=false:=by cases h:aZ 11 with|false=>rfl|true=>exact absurd (Na.1 h) (by rw[aM];decide)
        obtain rfl:dx=q3:=by have h:=Na.2;rw[alS,aM]at h;exact h
        have H:=H.aQ (hv 3 63 (hc 3 Z) M) M;have H:=H.aQ (hv 5 65 (hc 5 Z) M) M;have H:=H.aQ (hv 7 67 (hc 7 Z) M) M;have Hb:=H.full;have H:=Hb;clear hc;refine BM (Li:=[_,_,_]++((Lo++Lr)++[_])) (L:=[wE bd _]) (H.perm<|yu [_,_,_] ((Lo++Lr)++[_]) _) wn M M (aqF _ _ id new b4 bd b5 _ (Hp.owns (Li:=[_,_,_]++((Lo++Lr)++[_])) (H.perm<|yu [_,_,_] ((Lo++Lr)++[_]) _).hp) (hE3.mono hG) ds[i].id ds[i].flow _<|QF.mono hG) M ?_;clear H;rintro v68 G68 L68 a w ⟨rfl,aDT⟩ aBa H;have H:=H.perm (yu [_,_,_] ((Lo++Lr)++[_]) _).symm;dsimp only[lca,bq]at H;refine aI ⟨M,_,⟨fun _=>rfl,by show _=bif aZ 11 then _ else _;rw[alS];try rfl⟩,?_⟩;exact Co V og M HT Hb hG (fun j e h1 h2 h3=>hv j e h2 h3) aBa (aDT) H
       ·exact TV
       ·exact TV
       ·intro dx aZ a w G1 _ Na aM hc hG HT hv;have H:=HT;have h8_:=hc 8 Z
        obtain rfl:dx=sH id q3 ds[i].id:=by have h:=Na.2;rw[aM,h8_]at h;exact h
        obtain⟨u68,aDK,abW⟩:=hv 8 68 (hc 8 Z) M;(try dsimp only at abW);obtain⟨A68,n68,c68,rfl⟩:=abW.form;have H:=H.fT aDK;have H:=H.aQ (hv 9 69 (hc 9 Z) M) M;have H:=H.aQ (hv 10 70 (hc 10 Z) M) M;have Hb:=H.full;have H:=Hb;clear hc;refine gM aan (Li:=[_,_,_]++((Lo++Lr)++[_])) (L:=[wE bd _]) (H.perm<|yu [_,_,_] ((Lo++Lr)++[_]) _) wn M (ih _ _ _ _ _ (Hp.owns (Li:=[_,_,_]++((Lo++Lr)++[_])) (H.perm<|yu [_,_,_] ((Lo++Lr)++[_]) _).hp) (hE3.mono hG) abW amL.1 amL.2) M ?_;clear H;rintro v71 G71 L71 a w ⟨m71,q71,anm,rfl,aDU⟩ aBb H;have H:=H.perm (yu [_,_,_] ((Lo++Lr)++[_]) _).symm;dsimp only[lca,bq]at H;refine aI ⟨M,q71,⟨fun _=>h8_,by rw[anm];rfl⟩,?_⟩;exact Co V og M HT Hb hG (fun j e h1 h2 h3=>hv j e h2 h3) aBb ((by rw[anm];exact aDU)) H
       ·intro _ _ _ _ _ hB;exact jC
       ·intro _ _ _ _ _ hB;exact jC
       intro _ _ _ _ _ hB;exact jC
      clear H;intro dx aZ a w G hS_ Na M7 H hv;have hk_:=Na.2;rw[hS_ 11 Z M]at hk_;dsimp only[cond_true]at hk_;subst hk_;have H:=H.aQ (hv 1 61 M M) M;have H:=H.aQ (hv 2 62 M M) M;obtain⟨u71,aDL,abX⟩:=hv 11 71 Z M;(try dsimp only at abX);obtain⟨OP,n71,PO,rfl⟩:=abX.form;have H:=H.fT aDL;clear hv;refine kH H<|Ri ko iQ M M<|Rf Cr M ?_;clear H;intro a H;refine EG eG (4+(Lo++Lr).length) (c:=cur) (vs:=[.slice OP n71 PO]) (cur.set (i*7+6) (.slice OP n71 PO)) H wn M (anO [_,_,_,_] (Lo++Lr) _) M M M M (by simp;omega) (by rw[fB];rfl) ?_;clear H;intro w H;have H:=H.cast<|aqD [_,_,_,_] (Lo++Lr) _ _;have hrwn:=hset (i*7+6) (.slice OP n71 PO);have abB:=(aby.mono M7).aHo hi3 abX;refine aI ⟨M,?_⟩;refine K6 _ _ ?_;clear K6;refine kP H<|SC<|Rd M<|Rm M ?_;clear H;intro a H;refine aI ?_;refine dO ((i+1,(jk id new (sH id q3 ds[i].id)<|rJ id new q3 ds[i].id ds[i].flow).2,ds.set i (.mk ds[i].id ds[i].head (jk id new (sH id q3 ds[i].id)<|rJ id new q3 ds[i].id ds[i].flow).1),zs.set (i*7+6) (.slice OP n71 PO),[(bc,.cells (cur.set (i*7+6) (.slice OP n71 PO)).toArray 124 (0,0))],_)) (by exact(H.dR (Pl:=[_,_,_,_]) (dH:=[_,_,_]) [1,2,3] Z M).sub ⟨M,M,M,M,M,M,M,M,M,M,M,M,M,M,M,aC⟩) ?_
      (try dsimp only);exact⟨O,hrwn,abB,by rw[ji hi2,aGB hi3 hsc,<-hdi,aGD],by rw[List.length_set];exact hdl,by rw[List.drop_set_of_lt O,<-List.tail_drop,hdr,List.tail_drop],fun b o h=>M7 b o<|Aj b o h⟩
     intro JY a H
     try have p56:=dF JY
     obtain rfl:i=l[k].rows[j].cells.length:=by omega
     refine dS ?_;refine K5 _ _ ?_;clear K5;have H:=H.un (A:=[_,_,_]);obtain⟨Gc,hmc,aDk,H⟩:=St.qy (Li:=[_,_,_]++(Lo++Lr)) H hrw3 (rows:=ds.map aP.dat) (by rw[bM];exact hdl) aby;have hgc:∀b o,g2 b=some o->Gc b=some o:=fun b o h=>hmc b o<|Aj b o<|Kk b o h;have ane:bg Gc (aN.dat (.mk l[k].rows[j].head ds)) [.slice qA qn qc,vi l[k].rows[j].head.marks.ins,vi l[k].rows[j].head.marks.move,.slice sA sn sc,.slice tA tn tc,.slice SA l[k].rows[j].cells.length JF]:=bg.V8 (x:=.mk l[k].rows[j].head ds) (Vq.mono hgc) aDk;dsimp only[lca,bq]at H;refine kP H<|SC<|Rm M ?_;clear H;intro a H;refine aY iC (cs:=[_,_,_,_,_,_]) H wn M M (H.hp.dB 0 M M) M ?_;clear H;intro a H;refine iT jI iC [_,_,_,_,_,_] [_,_,_,_,_,_] H wn M M M M M (by intro i q h;match i,h with|0,h=>exact h|n+1,h=>simp at h) M M ?_;clear H;intro b77 a w aJZ H;have H:=H.un (A:=[_,_,_,_]);refine lW (Li:=[_,_,_,_]++Lo) (Lo:=Lr) (news:=[.slice qA qn qc,vi l[k].rows[j].head.marks.ins,vi l[k].rows[j].head.marks.move,.slice sA sn sc,.slice tA tn tc,.slice SA l[k].rows[j].cells.length JF]) jI iC M M H wn M M hrw2 M (by exact H.hp.dB 0 M M) ane.one O O M ?_;clear H;intro v78 asZ a w aDt H;have H:=H.assoc;dsimp only[lca,bq]at H;refine kH H<|bZ K2 M<|SC<|Rd M<|Rm M ?_;clear H K2;intro a H;refine aI ?_;refine dO ((j+1,q3,v78,rs++[.mk l[k].rows[j].head ds],ys++[.slice qA qn qc,vi l[k].rows[j].head.marks.ins,vi l[k].rows[j].head.marks.move,.slice sA sn sc,.slice tA tn tc,.slice SA l[k].rows[j].cells.length JF],asZ,Gc)) (by exact(H.dR (Pl:=[_,_,_,_]) (dH:=[_,_]) [2,3] Z M).sub ⟨M,M,M,M,M,M,M,M,M,M,M,aC⟩) ?_
     (try dsimp only);exact⟨O,by rw[gT];exact aDt,by rw[iy];exact((Nl.mono hgc).snoc ane M),(by have h9:=aGH (id:=id) (new:=new) (q:=q2) (x:=l[k].rows[j]) (m:=ds) (q':=q3) (by rw[jX (eP _),jX O]at hsc;exact hsc);rw[ji hj2,aqc _ hsr,h9]),fun b o h=>hgc b o<|nk b o h⟩
    intro h45 a H
    try have p45:=dF h45
    obtain rfl:j=l[k].rows.length:=by omega
    refine dS ?_;refine K4 _ _ ?_;clear K4;have H:=H.un (A:=[_,_]);obtain⟨Gr,hmr,hrr,H⟩:=St.qy (Li:=[_,_]++Lo) H hrw2 (rows:=rs.map aN.dat) (by simp) Nl;have hgr:∀b o,g b=some o->Gr b=some o:=fun b o h=>hmr b o<|nk b o h;obtain⟨rB,WM,rd,rfl⟩:=hrr.form;have hn2:=hrr.len;rw[bM]at hn2;subst hn2;dsimp only[lca,bq]at H;refine kP H<|SC<|Rm M<|Rf mZ M ?_;clear H;intro a H;refine bH lX 0 (vs:=[_]) H wn M ?_;clear H;intro w H;refine aI ?_;refine⟨(q2,.mk l[k].kind l[k].code l[k].id l[k].text l[k].head l[k].flow rs,[vi l[k].kind,vi l[k].code,vi l[k].id,.string l[k].text,.slice pA pn pc,vi l[k].head.marks.ins,vi l[k].head.marks.move,.slice dA dn dc,.slice yA yn yc,.slice fA fn fc,.slice rB rs.length rd],Gr),by exact H.sub ⟨M,M,M,M,M,M,M,aC⟩,?_⟩;(try dsimp only);exact⟨aGI p35 (by rw[oI]at hsr;exact hsr),bg.mkItem (x:=.mk l[k].kind l[k].code l[k].id l[k].text l[k].head l[k].flow rs) (hhd.mono hgr) (hfl.mono hgr) hrr,hgr⟩
   intro jr a H
   try have p35:=dF jr
   refine fU ?_;refine⟨(q,l[k],[vi l[k].kind,vi l[k].code,vi l[k].id,.string l[k].text,.slice pA pn pc,vi l[k].head.marks.ins,vi l[k].head.marks.move,.slice dA dn dc,.slice yA yn yc,.slice fA fn fc,.slice rA rn rc],g),by exact H.sub ⟨M,M,M,M,M,M,M,aC⟩,?_⟩;(try dsimp only);exact⟨aGE (by first|assumption|(simp_all;done)|omega) (by first|assumption|(simp_all;done)|omega),bg.mkItem hhd hfl hrs,fun _ _ h=>h⟩
  clear H;rintro⟨q9,y,cs9,g9⟩ a w hI H;dsimp only at hI H;obtain⟨hyb,Rt,Eh⟩:=hI;obtain⟨e1,e2,e3,e4,e5,e6,e7,e8,e9,f1,f2,f3,f4,f5,f6,Vj,-,-,-⟩:=Rt.item;rw[Vj]at H;dsimp only[lca,bq]at H;refine kP H<|SC<|Rm M ?_;clear H;intro a H;refine aY bL (cs:=[_,_,_,_,_,_,_,_,_,_,_]) H wn M M (H.hp.dB 0 M M) M ?_;clear H;intro a H;refine iT dM bL [_,_,_,_,_,_,_,_,_,_,_] [_,_,_,_,_,_,_,_,_,_,_] H wn M M M M M (by intro i q h;match i,h with|0,h=>exact h|n+1,h=>simp at h) M M ?_;clear H;intro b84 a w aJ0 H;refine lW (Li:=[_,_,_]) (Lo:=Lo) (news:=cs9) dM bL M M H wn M M hrw (by rw[Vj];rfl) (by rw[Vj];exact H.hp.dB 0 M M) Rt.one O O M ?_;clear H;intro v85 asU a w aDu H;refine kH H<|bZ K1 M<|SC<|Rd M<|Rm M ?_;clear H K1;intro a H;refine aI ?_;refine dO ((k+1,q9,v85,m++[y],xs++cs9,asU,g9)) (by exact(H.dR (Pl:=[_,_,_]) (dH:=[_]) [2] Z M).sub ⟨M,M,M,M,M,M,aC⟩) ?_
  (try dsimp only);exact⟨O,by rw[gT];exact aDu,by rw[iy];exact((gK.mono Eh).snoc Rt (by rw[Vj];rfl)),by rw[ji hk2];rw[apX _ hsb,hyb],fun b o h=>Eh b o<|hgm b o h⟩
 intro h18 a H
 try have pU:=dF h18
 obtain rfl:k=l.length:=by omega
 rw[oI]at hsb;refine dS ?_;refine K3 _ _ ?_;clear K3;refine kP H<|SR fun _ K1=>Rm M<|ak K1 M ?_;clear H K1;intro a H;refine eH ?_;obtain⟨G',hm,hrep,H⟩:=H.qy (Li:=[_]) hrw (rows:=m.map ah.dat) (by simp) gK;refine lv H results150 M ?_;exact H.hp.gX ⟨m,_,hsb,M,hrep⟩
theorem apI{id:Int}{new:List ah}{b4 bd b5:Nat}:∀n:Nat,Yf id new b4 bd b5 n
 |0=>fun _ _ _ _ _ _ _ _ h=>absurd h O
 |n+1=>aGo<|apI n
set_option maxHeartbeats 4000000 in
theorem aHp(G:GH)(w0:World)(hG:Hold G w0)(D:jh)(d:jq)(hR:lH G D d)(hz:sM d)(hc:jK d=0)(g:eU)(hg:g∈gJ d.flow)(new:List ah)(v:aj)(hv:av G (.sl 11<|new.map ah.dat) v)(hzn:aR new<=1073741824)(hok2:jK (BU d<|vX g.id new d.flow)=0)(hz2:sM (BU d<|vX g.id new d.flow)) :
  Calls prog 71 #[D.val,vi g.id,v] w0 (bD w0 G fun u G'=>∃E:jh,u=.tuple #[E.val,.bool true]∧lH G' E (nD<|BU d<|vX g.id new d.flow)):=by
 obtain⟨vA,vn,vc,rfl⟩:=hv.form;obtain⟨df,dp,dd,dy,dr,d1,d2,d3,d4,ins,mv⟩:=D;have hmem:g.id∈(gJ d.flow).map eU.id:=List.mem_map_of_mem hg;have FY:=hz.fl;obtain⟨i,hi⟩:∃i,i=g.id:=⟨_,M⟩;rw[<-hi]at hmem hok2 hz2|-;obtain⟨n1,n2,n3,n4⟩:=aE4 hz2 hok2;refine eN [(0,_),(1,_),(2,_)] func71 M ntmps71 M M hG fun a H=>dw<|fun _ K1=>eD (cs:=[_,_,_,_,_,_,_,_,_,_,_]) H wn M M M fun b3 a w hb3 H=>eD (cs:=[_]) H wn M M M fun b4 a w hb4 H=>eD (cs:=[_]) H wn M M M fun b5 a w hb5 H=>dK jc H wn M fun b6 a w hb6 H=>kH H<|ak K1 M<|SQ fun _ K2=>SQ fun _ K3=>?_;clear H K1;intro a H;have H:=H.dR (Pl:=[_,_,_,_]) (dH:=[_,_,_,_]) [1,2,0,3] Z M;obtain⟨Ga,hma,rE,H⟩:=H.eX;obtain⟨Gb,hmb,Ai,H⟩:=H.eX;have q5:aJ Gb b5 0=some (.slice vA vn vc):=aH hmb<|lQ rE 0 [.slice vA vn vc] M 0 _ M;have q4:aJ Gb b4 0=some (vi i):=lQ Ai 0 [vi i] M 0 _ M;replace hR:=(hR.mono hma).mono hmb;replace hv:=(hv.mono hma).mono hmb
 have iq:yG (fun(cu:Nat)(v:aj)(G:GH)=>match cu with|0=>v=.agg #[bN df,bN dp,vi ins,vi mv,bN dd,bN dy,bN dr,bN d1,bN d2,bN d3,bN d4]|1=>av G (.sl 1 (((gJ d.flow).map eU.id).map fun k=>[li k])) v|2=>v=vi i|3=>v=.bool true|4=>v=.bool false|_=>True):=by intro cu v G G' hm h;(iterate 5 (rcases cu with _|cu;(first|exact h|exact av.mono hm h)));exact trivial
 refine yM (hmx) [[],[0],[],[0,1,2],ra 0 4] [] V V _ iq H ?_ ?_
 ·clear H;refine aD ?_ ?_ ?_ ?_<|bE ?_ dz
  ·exact dN [] M trivial V iq M M fun aZ a w G1 hG HT H fin=>aY jc (cs:=[_,_,_,_,_,_,_,_,_,_,_]) H wn M M (H.hp.dB 1 M M) M jD
  ·refine dN [(0,10,_)] M ⟨fun _ _ h=>h,aC⟩ V iq M M fun aZ a w G1 hG HT H fin=>s_call ayT H wn M (awM _ _ H.ro ⟨df,dp,dd,dy,dr,d1,d2,d3,d4,ins,mv⟩ d.flow (hR.mono hG).fl O) M ?_;rintro v11 DN a w rX nZ H;rw[show((gJ d.flow).map fun f:eU=>[li f.id])=((gJ d.flow).map eU.id).map fun k=>[li k] by rw[List.map_map];rfl]at rX;exact fin H nZ<|rX
  ·exact dN [] M trivial V iq M M fun aZ a w G1 hG HT H fin=>kH H<|Rg aF M (aH hG q4) fun _ H=>fin H iJ M
  ·intro aZ a w G1 _ aM hc hG HT hv;have H:=HT;clear aM;obtain⟨Xj,FV,rX⟩:=hv 1 11 (hc 1 Z) M;(try dsimp only at rX);obtain⟨A11,n11,c11,rfl⟩:=rX.form;have H:=H.fT FV;have H:=H.aQ (hv 2 12 (hc 2 Z) M) M;have Hb:=H.full;have H:=Hb;clear hc;refine s_call ajO H wn M (ajl _ _ H.ro _ i _ rX) M ?_;rintro v13 LJ a w rfl xU H;rw[kZ hmem]at H;exact aI ⟨M,qw V iq M M HT Hb hG hv xU (rfl) H⟩
  exact dN [(3,13,_)] M ⟨fun _ _ h=>h,aC⟩ V iq M M fun aZ a w G1 hG HT H fin=>kH H<|Rn M fun _ H=>fin H iJ M
 clear H;intro a w G jL H hv;have H:=H.aQ (hv 4 14 M M) M;clear hv;refine aI ⟨M,K3 _ _<|oJ H M M<|kP H<|Kc K2<|SQ fun _ K1=>SR fun _ K3=>Rg aF M (aH jL q4)<|Rc M<|Kz K3<|Cd M ?_ ?_⟩<;>clear H K2 K3
 ·intro dL a H
  try have lD:=dT dL
  have e17:vX i new d.flow=new:=ay lD;rw[e17]at hok2 hz2 n1 n2 n3 n4|-;have hR2:lH G ⟨(vA,vn,vc),dp,dd,dy,dr,d1,d2,d3,d4,ins,mv⟩ (BU d new):=⟨hv.mono jL,(hR.mono jL).hd,hR.ins,hR.mv,(hR.mono jL).rv,(hR.mono jL).st⟩;refine kP H<|SR fun _ K2=>Rg eG M (aH jL q5)<|Rf wH M fun a H=>bH eG 1 (vs:=[_]) H wn M fun w H=>K2 _ _<|dw<|fun _ K2=>aY jc (cs:=(⟨(vA,vn,vc),dp,dd,dy,dr,d1,d2,d3,d4,ins,mv⟩:jh).cells) H wn M M (H.hp.dB 1 M M) M fun a H=>s_call akk H wn M (ajB _ _ H.ro ⟨(vA,vn,vc),dp,dd,dy,dr,d1,d2,d3,d4,ins,mv⟩ _ hR2 hz2 n1 n2 n3 n4) M ?_;rintro v21 BZ a w ⟨E,rfl,hE⟩ ny H;refine EG jc 0 (vs:=E.cells) _ H wn M M M M M M M M ?_;intro w H;dsimp only[List.set,setRow]at H;refine kH H<|ak K2 M fun a H=>eH ((gV H results71 (.cons (vk jc (cs:=[_,_,_,_,_,_,_,_,_,_,_]) H M M<|H.hp.dB 0 M M) (.cons (cK H M) .nil)) ?_).1);exact H.rt ⟨E,M,hE⟩
 intro dL a H
 try have lD:=dF dL
 refine kP H<|Kc K1<|SR fun _ K2=>ak K2 M<|SR fun _ K3=>fun a H=>dK wm H wn M fun b9 a w yY H=>bH wm 0 (vs:=[_]) H wn M fun w H=>K3 _ _<|kP H<|SR fun _ K1=>aV wH eG 2 M M<|Rm M fun a H=>wU H wn M M fun a H=>gM aan (Li:=[_,_]) (L:=[wE _ _]) (H.perm<|yu [] [_,_] _) wn M (apI _ _ _ d.flow _ false (Hp.owns (Li:=[_,_]) (H.perm<|yu [] [_,_] _).hp) ⟨aH jL q4,⟨_,_,_,aH jL q5,hv.mono jL⟩,hzn⟩ (hR.mono jL).fl (Nat.lt_succ_self _) FY) M ?_;rintro v26 G26 L26 a w ⟨m26,q26,aDy,rfl,ant⟩ abN H
 obtain rfl:vX i new d.flow=m26:=by rw[vX,au lD,aDy]
 have H:=H.perm (yu [] [_,_] _).symm;obtain⟨XG,n26,ZT,rfl⟩:=ant.form;dsimp only[lca,bq]at H;have hR2:lH G26 ⟨(XG,n26,ZT),dp,dd,dy,dr,d1,d2,d3,d4,ins,mv⟩ (BU d<|vX i new d.flow):=⟨ant,((hR.mono jL).mono abN).hd,hR.ins,hR.mv,((hR.mono jL).mono abN).rv,((hR.mono jL).mono abN).st⟩;refine kH H<|Rf wH M fun a H=>bH eG 2 (vs:=[_]) H wn M fun w H=>K1 _ _<|dw<|fun _ K1=>aY jc (cs:=(⟨(XG,n26,ZT),dp,dd,dy,dr,d1,d2,d3,d4,ins,mv⟩:jh).cells) H wn M M (H.hp.dB 2 M M) M fun a H=>s_call akk H wn M (ajB _ _ H.ro ⟨(XG,n26,ZT),dp,dd,dy,dr,d1,d2,d3,d4,ins,mv⟩ _ hR2 hz2 n1 n2 n3 n4) M ?_;rintro v29 Jf a w ⟨E,rfl,hE⟩ Nn H;refine EG jc 1 (vs:=E.cells) _ H wn M M M M M M M M ?_;intro w H;dsimp only[List.set,setRow]at H;refine kH H<|ak K1 M fun a H=>eH ((gV H results71 (.cons (vk jc (cs:=[_,_,_,_,_,_,_,_,_,_,_]) H M M<|H.hp.dB 1 M M) (.cons (cK H M) .nil)) ?_).1);exact H.rt ⟨E,M,hE⟩
theorem aHq(G:GH)(w0:World)(hG:Hold G w0)(D:jh)(d:jq)(hR:lH G D d)(hz:sM d)(hc:jK d=0)(g:eU)(hg:g∈gJ d.flow)(i:Int)(hi:i=g.id)(new:List ah)(v:aj)(hv:av G (.sl 11<|new.map ah.dat) v)(hzn:aR new<=1073741824)(hok2:jK (BU d<|vX g.id new d.flow)=0)(hz2:sM (BU d<|vX g.id new d.flow)) :
  Calls prog 71 #[D.val,vi i,v] w0 (bD w0 G fun u G'=>∃E:jh,u=.tuple #[E.val,.bool true]∧lH G' E (nD<|BU d<|vX g.id new d.flow)):=by
 subst hi;exact aHp G w0 hG D d hR hz hc g hg new v hv hzn hok2 hz2
theorem azb:aW 70:=aX func70 M
theorem azc:aW 71:=aX func71 M
set_option maxHeartbeats 2000000 in
theorem apC(G:GH)(w0:World)(hG:Hold G w0)(E:jh)(e:jq)(hR:lH G E e)(hz:sM e)(hc:jK e=0)(fl:eU)(hg:fl∈gJ e.flow)(X:ah)(hX:wT X)(hzX:bY X.dat<=1000000)(t:Nat)(p q:List ah)(hcut:oG fl.items t p q)(ht:t<=bC fl.items)(F T:Int)(hF:F=fl.id)(hT:T=(t:Nat))(A:Option Addr)(n c:Nat)(hv:av G (.sl 11 ([X].map ah.dat)) (.slice A n c))(aCZ:eT fl.items)(FY:aR fl.items<=134217728)
  (hok2:jK (BU e<|vX fl.id (fq<|p++([X]++q)) e.flow)=0)(hz2:sM (BU e<|vX fl.id (fq<|p++([X]++q)) e.flow)) :
  Calls prog 23 #[E.val,.agg (lg 11 F T (.slice A n c)).toArray] w0 (bD w0 G fun u G'=>∃xx:jh,u=.tuple #[xx.val,.bool true]∧lH G' xx (nD<|BU e<|vX fl.id (fq<|p++([X]++q)) e.flow)):=by
 have hfo:iZ e.flow F=some fl.items:=by rw[hF];unfold iZ;rw[Qp (IG hc).ids hg];rfl
 have aKu:=hz.fl;have s1:=Un hcut;have hzn:aR (fq<|p++([X]++q))<=1073741824:=Nat.le_trans (Sz _) (by rw[xq,xq,GN];omega)
 have aDW:aR [X]<=268435456:=by rw[GN];omega
 have htz:=Lb fl.items;have aKt:=Dt fl.items;refine eN [(0,_),(1,_)] func23 M ntmps23 M M hG fun a H=>dw<|fun _ K1=>eD (cs:=[_,_,_,_,_,_,_,_,_,_,_]) H wn M M M fun b2 a w hb2 H=>eD (cs:=[_,_,_,_,_,_,_,_,_,_,_,_,_,_,_,_,_,_]) H wn M M M fun b3 a w hb3 H=>dK jc H wn M fun b4 a w hb4 H=>kH H<|ak K1 M<|SQ fun _ K2=>?_;clear H K1;intro a H;have H:=H.dR (Pl:=[_,_,_]) (dH:=[_,_,_]) [2,1,0] Z M;obtain⟨Ga,hma,hb2',H⟩:=H.eX;obtain⟨Gb,hmb,uq,H⟩:=H.eX;have hga:=fun j v hj=>aH hmb<|lQ hb2' 0 E.cells M j v hj;have hgb:=fun j v hj=>lQ uq 0 (lg 11 F T (.slice A n c)) M j v hj;replace hR:=(hR.mono hma).mono hmb;replace hv:=(hv.mono hma).mono hmb;refine mF<|aY jc (cs:=E.cells) H wn M M (fun j v hj=>H.hp.aJ<|hga j v hj) M<|Rf UN M<|Rg aF M (hgb 1 _ M) fun a H=>s_call UE H wn M (UY _ _ H.ro E e.flow F hR.fl O) M ?_;rintro v14 DR a w ⟨y14,rfl,VO⟩ Bv H;rw[hfo]at VO H;dsimp only[Option.getD_some,Option.isSome_some]at VO H;obtain⟨yA,yn,yc,rfl⟩:=VO.form;replace hR:=hR.mono Bv;replace hv:=hv.mono Bv;replace hga:=fun j v hj=>aH Bv<|hga j v hj;replace hgb:=fun j v hj=>aH Bv<|hgb j v hj;refine kH H<|Rm M ?_;intro a H;(iterate 2 refine iH H wn M M M ?_;intro a H);refine kH H<|Ra M<|bZ K2 M<|SR fun _ K1=>Rm M<|Rf UO M<|Rg aF M (hgb 2 _ M)<|Rf UO M<|Rg aF M (hgb 2 _ M)<|Rf aaM M<|Rg eG M (hgb 11 _ M) ?_;clear H K2;intro a H;subst hT;refine s_call azb H wn M (aGq _ _ H.ro fl.items p q q p [X] t t _ _ hcut hcut (eP _) ht VO hv aCZ (by rw[kM,kM];exact⟨hX,aC⟩) O aDW) M ?_;rintro v25 OV a w ⟨y25,rfl,hy25⟩ qJ H;obtain⟨xA,xn,xc,rfl⟩:=hy25.form;replace hR:=hR.mono qJ;replace hga:=fun j v hj=>aH qJ<|hga j v hj;replace hgb:=fun j v hj=>aH qJ<|hgb j v hj;refine kH H<|Rm M ?_;intro a H;(iterate 2 refine iH H wn M M M ?_;intro a H);refine kH H (Ra M<|ak K1 M<|SQ fun _ K2=>SR fun _ K3=>Rm M<|Rn M<|Rm M<|Sp 30 M ?_ ?_)<;>clear H K1
 ·intro kK a H;exact absurd kK Z
 refine fun kK=>YM kK M (YC kK M<|Pf kK M<|Kz K3<|Cd M ?_ ?_)<;>clear K3
 ·intro M6 a H;exact absurd M6 Z
 intro M6 a H;refine fU<|K2 _ _<|dw<|fun _ K1=>aY jc (cs:=E.cells) H wn M M (fun j v hj=>H.hp.aJ<|hga j v hj) M<|Rf UN M<|Rg aF M (hgb 1 _ M)<|Rm M fun a H=>s_call azc H wn M (aHq _ _ H.ro E e hR hz hc fl hg _ hF (fq<|p++([X]++q)) _ hy25 hzn hok2 hz2) M ?_;rintro v39 LQ a w ⟨xx,rfl,hY⟩ Vv H;(iterate 2 refine iH H wn M M M ?_;intro a H);refine bH jc 0 (vs:=[_,_,_,_,_,_,_,_,_,_,_]) H wn M fun w H=>kH H<|ak K1 M fun a H=>eH ((gV H results23 (.cons (vk jc (cs:=[_,_,_,_,_,_,_,_,_,_,_]) H M M<|H.hp.dB 0 M M) (.cons (cK H M) .nil)) ?_).1);exact H.rt ⟨xx,M,hY⟩
theorem azf:aW 78:=aX func78 M
theorem avl(l:List UInt8)(s:ByteArray):(⟨l.toArray⟩:ByteArray)++s=⟨(l++s.data.toList).toArray⟩:=by
 apply ByteArray.ext
 simp
theorem aoH(a b:Nat):∀(l:List ah)(s:Nat),(nQ a b s l).length<=kN l
 |[],_=>fP _
 |x::l,s=>by
  have ih:=aoH a b l<|s+bO x;rw[nQ,gT,IB]
  simp only[kN]
  split
  ·rw[Ld,ByteArray.size_extract];omega
  simp only[List.length_nil];omega
set_option maxHeartbeats 2000000 in
theorem aEY(G:GH)(w0:World)(hG:Hold G w0)(L:List ah)(ia ib:Nat)(hia:ia<=4294967296)(hib:ib<=4294967296)(v:aj)(hv:av G (.sl 11<|L.map ah.dat) v)(hok:eT L)(hz:aR L<=1073741824) :
  Calls prog 26 #[v,vi (ia:Nat),vi (ib:Nat)] w0 (bD w0 G fun u G'=>u=.string ⟨(nQ ia ib 0 L).toArray⟩):=by
 obtain⟨A,c,rfl,hc1,hc2,hgu⟩:=hv.slice;rw[bM]at *;have hll:=wo L;have hss:=Nat.le_trans (Lb L)<|Dt L;have htx:=Dt L;have hml:maxLen=9223372036854775807:=rfl;refine eN [(0,_),(1,_),(2,_)] func26 M ntmps26 M M hG ?_;intro a H;refine kP H<|SR fun _ K1=>ak K1 M<|SR fun _ K2=>ak K2 M<|SR fun _ K3=>ak K3 M<|SQ fun _ K4=>SR fun _ K5=>Ra M ?_;clear H K1 K2 K3;intro a H;have e0:(⟨#[]⟩:ByteArray)=⟨(nQ ia ib 0<|L.take 0).toArray⟩:=rfl;rw[e0]at H;refine K5 _ _ ?_;clear K5;refine xK ?_;skip;refine dY (ι:=Nat×GH) (Tc:=[(0,_),(1,_),(2,_)]) (Lc:=[]) (fun gh=>[(7,.string ⟨(nQ ia ib 0<|L.take gh.1).toArray⟩),(8,vi (bC (L.take gh.1):Nat)),(9,vi gh.1)]) (fun gh=>[]) (fun gh=>gh.2) (fun gh=>gh.1<=L.length∧(∀b o,G b=some o->gh.2 b=some o)) (fun gh=>L.length-gh.1) ((0,G)) (by exact H.sub ⟨M,M,M,M,M,M,aC⟩) ?_ ?_
 ·exact TD
 clear H;rintro⟨k,g⟩ a w hI H;dsimp only at hI H;obtain⟨hk,hgm⟩:=hI;dsimp only[lca,bq]at H;refine kP H (SQ fun _ K1=>SR fun _ K2=>Rm M<|Rm M<|Rl dM M<|Rc M<|Kz K2<|Cd M ?_ ?_)<;>clear H K2
 ·intro h18 a H
  try have pU:=dT h18
  have hk2:k<L.length:=by omega
  obtain⟨bl,o,pA,pn,pc,dA,dn,dc,yA,yn,yc,fA,fn,fc,rA,rn,rc,rfl,hrow,-⟩:=vI hk2 hgu;replace hrow:=fun j u hj=>aH hgm<|hrow j u hj;have hsn:=arh hk2;have hsk:=ari L<|k+1;have hui:=Xr hok<|ig hk2
  have hms:nQ ia ib 0 (L.take<|k+1)=nQ ia ib 0 (L.take k)++IB ia ib (bC<|L.take k) L[k]:=by rw[ji hk2,aoG,nQ,nQ,iR,fB]
  have hxk:=hok.mem<|ig hk2;have hzi:=GK hk2;have hmt:=aoH ia ib (L.take k) 0;have htk:=Oy L k;refine kP H<|Kc K1<|SQ fun _ K2=>SB<|SR fun _ K3=>Rm M<|Rm M<|Ri dM bL M M ?_;clear H K1;intro a H;refine aY bL (cs:=[_,_,_,_,_,_,_,_,_,_,_]) H wn M M (fun j v hj=>H.hp.aJ<|hrow j v hj) M ?_;clear H;intro a H;refine s_call aaD H wn M (aep _ _ H.ro L[k] _ _ _ _ _ _ _ _ _ O) M ?_;clear H;rintro v25 OV a w ⟨rfl,rfl⟩ qJ H;refine kH H<|ak K3 M<|SQ fun _ K1=>SR fun _ K5=>Rm M<|Rm M<|Rs M ?_;clear H K3;intro a H;refine KZ H wn M M M ?_;clear H;intro a H;refine kH H<|Rm M<|Rm M<|Rs M<|Rm M ?_;clear H;intro a H;refine aqr H wn M M M ?_;clear H;intro a H;refine kH H (Ra M<|ak K5 M<|SR fun _ K3=>Rm M<|Rm M<|Ri dM bL M M<|Rf iW M<|Rg aF M (hrow 0 _ M)<|Rc M<|Rm M<|Sp 41 M ?_ ?_)<;>clear H K5
  ·intro xS a H
   try have p41:=dT xS
   refine kH H (YM xS M<|YM xS M<|YC xS M<|Pt xS M<|Kz K3<|Cd M ?_ ?_)<;>clear H K3
   ·intro h45 a H
    try have p45:=dT h45
    refine bU<|fun _ K3=>?_
    have hcn:bO L[k]=dU L[k].text:=by unfold bO;rw[ay p41]
    have e1:max ((ia:Int)-(bC (L.take k):Int)) 0=((ia-bC (L.take k):Nat):Int):=by omega
    have e2:min ((ib:Int)-(bC (L.take k):Int)) (bO L[k]:Int)=((min (ib-bC (L.take k)) (bO L[k]):Nat):Int):=by omega
    have hlt:ia-bC (L.take k)<min (ib-bC (L.take k)) (bO L[k]):=by omega
    rw[e1,e2]at H;rw[IB,ay ⟨p41,hlt⟩]at hms;refine kP H<|SC<|Rm M<|Rm M<|Ri dM bL M M<|Rf pE M<|Rg gN M (hrow 3 _ M)<|Rm M<|Rm M ?_;clear H;intro a H;refine s_call azf H wn M (aHN _ _ H.ro L[k].text O hxk.txt (ia-bC (L.take k)) (min (ib-bC (L.take k))<|bO L[k]) O O) M ?_;clear H;rintro v54 G54 a w rfl QS H;refine kH H<|Rm M ?_;clear H;intro a H;(iterate 2 refine iH H wn M M M ?_;clear H;intro a H);refine kH H<|Ra M<|bZ K3 M<|SC<|Rm M<|Rm M ?_;clear H K3;intro a H
    refine aqm H wn M M (by
     have e:(⟨(nQ ia ib 0<|L.take k).toArray⟩:ByteArray).size=(nQ ia ib 0<|L.take k).length:=List.size_toArray
     rw[ByteArray.size_extract];omega) rfl ?_;clear H;intro a H
    rw[avl,<-hms]at H;refine kH H<|bZ K1 M<|SC<|Rm M<|Rm M<|Rd M ?_;clear H K1;intro a H
    first
     |rw[show nQ ia ib 0 (L.take k)=nQ ia ib 0 (L.take<|k+1)from by rw[hms,IB,au (by rintro⟨e1,e2⟩;first|exact p41 e1|omega),iR]]at H
     |skip
    rw[<-Int.natCast_add,<-hsn]at H;refine kH H<|bZ K2 M<|SC<|Rm M<|Rd M<|Ra M ?_;clear H K2;intro a H;refine aI ?_;refine dO ((k+1,_)) (by exact H.sub ⟨M,M,M,M,M,M,aC⟩) ?_
    try dsimp only
    first
    |exact⟨O,fun b o h=>QS b o<|qJ b o<|hgm b o h⟩
    |exact⟨O,fun b o h=>qJ b o<|hgm b o h⟩
   intro h45 a H
   try have p45:=dF h45
   refine kP H<|Kc K1<|SC<|Rm M<|Rm M<|Rd M ?_;clear H K1;intro a H
   first
    |rw[show nQ ia ib 0 (L.take k)=nQ ia ib 0 (L.take<|k+1)from by rw[hms,IB,au (by rintro⟨e1,e2⟩;first|exact p41 e1|omega),iR]]at H
    |skip
   rw[<-Int.natCast_add,<-hsn]at H;refine kH H<|bZ K2 M<|SC<|Rm M<|Rd M<|Ra M ?_;clear H K2;intro a H;refine aI ?_;refine dO ((k+1,_)) (by exact H.sub ⟨M,M,M,M,M,M,aC⟩) ?_
   try dsimp only
   first
   |exact⟨O,fun b o h=>QS b o<|qJ b o<|hgm b o h⟩
   |exact⟨O,fun b o h=>qJ b o<|hgm b o h⟩
  intro xS a H
  try have p41:=dF xS
  refine kH H<|bJ xS M<|Pf xS M<|Kz K3<|Cf M M<|Kc K1<|SC<|Rm M<|Rm M<|Rd M ?_;clear H K3 K1;intro a H
  first
   |rw[show nQ ia ib 0 (L.take k)=nQ ia ib 0 (L.take<|k+1)from by rw[hms,IB,au (by rintro⟨e1,e2⟩;first|exact p41 e1|omega),iR]]at H
   |skip
  rw[<-Int.natCast_add,<-hsn]at H;refine kH H<|bZ K2 M<|SC<|Rm M<|Rd M<|Ra M ?_;clear H K2;intro a H;refine aI ?_;refine dO ((k+1,_)) (by exact H.sub ⟨M,M,M,M,M,M,aC⟩) ?_
  try dsimp only
  first
  |exact⟨O,fun b o h=>QS b o<|qJ b o<|hgm b o h⟩
  |exact⟨O,fun b o h=>qJ b o<|hgm b o h⟩
 intro h18 a H
 try have pU:=dF h18
 refine dS ?_;refine K4 _ _ ?_;clear K4;refine kP H<|SR fun _ K2=>Rm M<|ak K2 M ?_;clear H K2;intro a H;refine lr H results26 M ?_
 obtain rfl:k=L.length:=by omega
 exact H.rt (by rw[oI])
section
section
variable{N:Nat}{D:List Deferred}{w0:World}{F:Nat->Prop}{G0 G:GH}{L:OL}{T:List (Nat×aj)}
variable{r:Option Nat}{P:Program}{ops:Array Oper}{Q:Exit->Act->World->Prop}{rest:List Oper}{a:Act}{w:World}
variable{d:Nat}{ty:TypeId}{pos:String}{aT:Array Edge}{g:Option (Nat×Bool)}
theorem aHd{t:TypeId}{x:Operand}{n c:Nat}(H:St N D w0 F G0 G L T a w)(hw:Region.wanted ⟨some d,.call { callee:=.builtin .unsafeSliceData,args:=#[x],argTypes:=#[t] },ty,pos,aT,g⟩ (yielded ops a.tmps)=true)(hx:ev T x=some (.slice none n c))(hd:Nat.blt d N=true)
  (k:∀a',St N D w0 F G0 G L ((d,.pointer none)::T) a' w->WL r P ops Q rest a' w):WL r P ops Q (⟨some d,.call { callee:=.builtin .unsafeSliceData,args:=#[x],argTypes:=#[t] },ty,pos,aT,g⟩::rest) a w:=by
 refine fH (v:=.pointer none) (w':=w) hw M ?_<|k _<|H.put hd _ H.hp
 have h:=Lib.run_unsafeSliceData_nil (P:=P) (w:=w) #[t] ty n c
 simp[execOp,resolve,invoke,builtin,H.ev hx,dP,h]
theorem aHh{pt it:TypeId}{x y:Operand}{p:Option Addr}(H:St N D w0 F G0 G L T a w)
  (hw:Region.wanted ⟨some d,.call { callee:=.builtin .unsafeString,args:=#[x,y],argTypes:=#[pt,it] },ty,pos,aT,g⟩ (yielded ops a.tmps)=true)(hx:ev T x=some (.pointer p))(hy:ev T y=some (.int .i64 0))(hd:Nat.blt d N=true)
  (k:∀a',St N D w0 F G0 G L ((d,.string ⟨#[]⟩)::T) a' w->WL r P ops Q rest a' w):WL r P ops Q (⟨some d,.call { callee:=.builtin .unsafeString,args:=#[x,y],argTypes:=#[pt,it] },ty,pos,aT,g⟩::rest) a w:=by
 have h:=Lib.run_unsafeString_none (P:=P) (w:=w) pt it ty p
 refine fH (v:=.string ⟨#[]⟩) (w':=w) hw M ?_<|k _<|H.put hd _ H.hp
 simp[execOp,resolve,invoke,builtin,H.ev hx,H.ev hy,dP,h]
 rfl
end
end
theorem auV(a b:List UInt8):Lib.byteCells (a++b)=Lib.byteCells a++Lib.byteCells b:=by simp[Lib.byteCells]
theorem aH6(G:GH)(Lo:OL)(w0:World)(b:Nat)(p:aj)(hO:fZ G (bB b p (.slice none 0 0)::Lo) w0) :
  Calls prog 76 #[aK b 0] w0 (fG w0 G (bB b p (.slice none 0 0)::Lo) fun u G' L'=>u=.string ⟨#[]⟩):=by
 refine iY (N:=14) (T:=[(0,_)]) func76 M ntmps76 M M hO ?_;intro a H;refine kP H<|SR fun _ K1=>ak K1 M<|SQ fun _ K2=>?_;clear H K1;intro a H;have H:=H.sub (T':=[(0,_)]) ⟨M,aC⟩;refine dI hmx [[],[0],[0,1],[0,1,2],ra 0 4,[],[5],[5,6],[5,6,7],ra 5 4,ra 0 10,ra 0 11] [11] V [_,_,_,.slice none 0 0,.pointer none,_,_,_,.slice none 0 0,_,.string ⟨#[]⟩] H (aD (Z0 M<|Rm M) (Z1 0 3 M<|Rk M) (Z1 1 4 M<|Rf Bj M) (Z1 2 5 M<|Ro BQ 0 M)<|aD ?_ (Z0 M<|Rm M) (Z1 5 8 M<|Rk M) (Z1 6 9 M<|Rf Bj M)<|aD (Z1 7 10 M<|Ro BQ 0 M) (Z1 8 11 M<|Rl zy M) ?_ (bX M) dz) ?_
 ·refine iE 3 6 M M fun _ a w G1 hG HT H fin=>?_;refine aHd H wn M M ?_;exact jD
 ·refine fu 4 7 9 12 M M fun _ a w G1 hG HT H fin=>?_;refine aHh H wn M M M ?_;exact jD
 clear H;intro a w G jL H hv;have H:=H.aQ (hv 10 13 M M) M;clear hv;refine kH H<|Ra M ?_;clear H;intro a H;refine aI ⟨M,?_⟩;refine K2 _ _ ?_;clear K2;refine lr H results76 M ?_;exact H.hp.gX M
theorem aH5(G:GH)(Lo:OL)(w0:World)(b:Nat)(p v:aj)(l:List UInt8)(hO:fZ G (bB b p v::Lo) w0)(hrow:bT 5 1 v l.length (Lib.byteCells l) Lo)(h0:l=[]->v=.slice none 0 0) :
  Calls prog 76 #[aK b 0] w0 (fG w0 G (bB b p v::Lo) fun u G' L'=>u=.string ⟨l.toArray⟩):=by
 by_cases h:l=[]
 ·obtain rfl:=h0 h;subst h;exact aH6 G Lo w0 b p hO
 exact arb G Lo w0 b p v l hO hrow h
theorem akp:aW 74:=aX func74 M
theorem akq:aW 75:=aX func75 M
theorem arC:Ty prog 149 2 32 [.pointer none,.slice none 0 0] true:=⟨V,V⟩
theorem ZO{l:List ah}{k:Nat}(hk:k<l.length):jO (l.take<|k+1)=jO (l.take k)++if l[k].kind=1 then l[k].text.data.toList else[]:=by
 rw[ji hk,xJ,yL]
set_option maxHeartbeats 1000000 in
theorem atZ(G:GH)(w0:World)(hG:Hold G w0)(D:jh)(l:List ah)(s:ByteArray)(hv:av G (.sl 11<|l.map ah.dat) (bN D.f))(hok:zH l)(hz:aR l<=1073741824)(sp:lI)(hn:uW l s=some sp)
  (p m q:List ah)(hf:iZ l sp.ff=some (p++(m++q)))(Q5:eT (p++(m++q)))(hfa:sp.fa=(bC p:Int))(hta:sp.ta=(bC (p++m):Int)) :
  Calls prog 25 #[D.val,.string s] w0 (bD w0 G fun u G'=>u=.tuple #[.string ⟨(jO m).toArray⟩,.bool true]):=by
 have hzL:aR (p++(m++q))<=1073741824:=Nat.le_trans (aaU hf) hz
 have hnt:kN (fq m)<=1073741824:=by
  have h1:=Wx (l:=m) (k:=m.length)<|eP _;have h2:=Dt m
  have h3:aR m<=aR (p++(m++q)):=by rw[aew,aew];omega
  rw[oI]at h1
  unfold fq;omega
 have hb:=PK m;have hne:=aFF (l:=m);obtain⟨R,hR⟩:∃R,R=fq m:=⟨_,M⟩;rw[<-hR]at hnt hb hne;have hRl:=NP R;refine eN [(0,_),(1,_)] func25 M ntmps25 M M hG fun a H=>dw<|fun _ K1=>eD (cs:=[_,_,_,_,_,_,_,_,_,_,_]) H wn M M M fun b2 a w hb2 H=>kH H<|Ra M<|ak K1 M<|SQ fun _ K2=>?_;clear H K1;intro a H;obtain⟨Ga,hma,hb',H⟩:=H.eX;have hga:=fun j v hj=>lQ hb' 0 D.cells M j v hj;replace hv:=hv.mono hma;refine mF<|aY jc (cs:=D.cells) H wn M M (fun j v hj=>H.hp.aJ<|hga j v hj) M<|Rm M fun a H=>s_call Uz H wn M (Ta _ _ H.ro D l s hv hok.ok hz) M ?_;clear H;rintro v18 OU a w rfl hm18 H;rw[hn]at H;dsimp only[Option.getD_some,Option.isSome_some]at H;replace hv:=hv.mono hm18;replace hga:=fun j v hj=>aH hm18<|hga j v hj;refine kH H<|Rm M ?_;clear H;intro a H;(iterate 2 refine iH H wn M M M ?_;clear H;intro a H);refine dK mQ H wn M fun b6 a w hb6 H=>bH mQ 0 (vs:=[_,_,_,_,_,_]) H wn M fun w H=>kH H (bZ K2 M<|SQ fun _ K1=>SR fun _ K3=>Rm M<|Rn M<|Kz K3<|Cd M ?_ ?_)<;>clear H K2 K3
 ·intro h22 a H;exact absurd h22 Z
 intro h22 a H
 try have pV:=dF h22
 refine fU<|K1 _ _<|dw<|fun _ K1=>aY jc (cs:=D.cells) H wn M M (fun j v hj=>H.hp.aJ<|hga j v hj) M<|Rf Ac M<|aV HY aF 0 M M fun a H=>s_call UE H wn M (UY _ _ H.ro D l sp.ff hv O) M ?_;clear H;rintro v28 LM a w ⟨x28,rfl,hx28⟩ za H;rw[hf,Option.getD_some]at hx28;obtain⟨A28,n28,c28,rfl⟩:=hx28.form;refine kH H<|Rm M ?_;clear H;intro a H;(iterate 2 refine iH H wn M M M ?_;clear H;intro a H);refine kH H (Ra M<|ak K1 M<|SR fun _ K2=>Rm M<|Rf Ac M<|aV yQ aF 0 M M<|Rf HZ M<|aV yQ aF 0 M M fun a H=>s_call akp H wn (by rw[hfa,hta];rfl) (aHL _ _ H.ro p m q _ hx28 Q5 hzL) rfl ?_);clear H;rintro v39 LQ a w ⟨x39,rfl,hx39⟩ Vv H;rw[<-hR]at hx39;obtain⟨A39,n39,c39,rfl⟩:=hx39.form;have amP:=hx39.len;rw[bM]at amP;subst amP;refine kH H<|Rm M ?_;clear H;intro a H;(iterate 2 refine iH H wn M M M ?_;clear H;intro a H);refine kH H<|Ra M<|ak K2 M<|SR fun _ K1=>fun a H=>dK arC H wn M fun b12 a w CP H=>K1 _ _<|kP H<|SQ fun _ K1=>SR fun _ K2=>Rm M<|Rl dM M<|Rm M<|Kz K2<|SB ?_;clear H K2;intro a H;skip;refine dY (ι:=Nat×aj×aj×OL) (Tc:=[(12,_),(42,_),(43,_)]) (Lc:=[(_,_)]) (fun gh=>[(44,vi gh.1)]) (fun gh=>[bB b12 gh.2.1 gh.2.2.1]++gh.2.2.2) (fun gh=>LQ) (fun gh=>gh.1<=R.length∧(gh.2.1=.pointer none∨gh.2.1=(aK b12 0))∧bT 5 1 gh.2.2.1 (jO<|R.take gh.1).length (Lib.byteCells<|jO<|R.take gh.1) gh.2.2.2∧(jO (R.take gh.1)=[]->gh.2.2.1=.slice none 0 0)) (fun gh=>R.length-gh.1) ((0,.pointer none,.slice none 0 0,[])) (by exact(H.dR (Pl:=[_,_]) (dH:=[_,_]) [1,0] Z M).sub ⟨M,M,M,M,aC⟩) ?_ ?_
 ·exact⟨O,.inl M,bT.nil,fun _=>rfl⟩
 clear H;rintro⟨k,p,v,Lo⟩ a w hI H;dsimp only at hI H;obtain⟨hk,hpp,hrw,hnl⟩:=hI;have hbl:=aiC<|R.take k;have htk:=Oy R k;dsimp only[lca,bq]at H;refine kP H (SR fun _ K2=>Rc M<|Kz K2<|SQ fun _ K3=>Cd M ?_ ?_)<;>clear H K2
 ·intro h45 a H
  try have p45:=dT h45
  have hk2:k<R.length:=by omega
  obtain⟨b,o,pA,pn,pc,dA,dn,dc,yA,yn,yc,fA,fn,fc,rA,rn,rc,rfl,hrow,hhd,hfl,hrw2⟩:=vI hk2 hx39.at_;have ano:=Oy R<|k+1;rw[ji hk2,Gy]at ano
  simp only[kN]at ano
  refine kP H (Kc K3<|SQ fun _ K2=>SB<|SR fun _ K4=>Ri dM bL M M fun a H=>aY bL (cs:=[_,_,_,_,_,_,_,_,_,_,_]) H wn M M (fun j v hj=>H.hp.aJ<|hrow j v hj) M fun a H=>dK bL H wn M fun b14 a w Nh H=>bH bL 0 (vs:=[_,_,_,_,_,_,_,_,_,_,_]) H wn M fun w H=>K4 _ _<|kP H<|SR fun _ K3=>aV iW aF 0 M M<|Rc M<|Kz K3<|Cd M ?_ ?_)<;>clear H K3
  ·intro h50 a H
   try have p50:=dT h50
   have hbs:=ZO hk2;rw[ay p50]at hbs;have hts:R[k].text.data.toList.length=R[k].text.size:=sQ;refine kP H<|SC<|aV pE gN 0 M M fun a H=>gM akq (Li:=[_,_]) (L:=bB b12 p v::Lo) H wn M (asq _ _ _ b12 p v _ _ R[k].text hpp (Hp.owns (Li:=[_,_]) H.hp) hrw O) M ?_;clear H;rintro v_ _ L53 a w ⟨v53,X7,rfl,ach,rfl⟩ aCF H;refine kH H (Kn K2 (SC (Rd M (Rm M fun a H=>aI (dO ((k+1,aK b12 0,v53,X7)) (by exact(H.dR (Pl:=[_,_,_]) (dH:=[_,_]) [1,2] Z M).sub ⟨M,M,M,M,aC⟩) ?_)))))
   try dsimp only
   exact⟨O,.inr M,by rw[hbs,auV,gT,hts];exact ach,fun e=>by
   rw[hbs]at e;have e2:=cO List.length e;rw[gT,hts]at e2;have:=hne _ (ig hk2) p50
   simp only[List.length_nil]at e2
   omega⟩
  intro h50 a H
  try have p50:=dF h50
  refine kP H (Kc K2 (SC (Rd M (Rm M fun a H=>aI (dO ((k+1,_,_,Lo)) (by exact(H.dR (Pl:=[_,_,_]) (dH:=[_,_]) [1,2] Z M).sub ⟨M,M,M,M,aC⟩) ?_)))))
  (try dsimp only);exact⟨O,hpp,by rw[ZO hk2,au p50,iR];exact hrw,fun e=>hnl (by rwa[ZO hk2,au p50,iR]at e)⟩
 intro h45 a H
 try have p45:=dF h45
 obtain rfl:k=R.length:=by omega
 rw[oI]at hrw hnl;rw[hb]at hrw hnl;refine dS<|K1 _ _<|dw<|fun _ K1=>gM aaC (Li:=[_]) (L:=bB b12 _ v::Lo) H wn M (aH5 _ _ _ b12 _ v (jO m) (Hp.owns (Li:=[_]) H.hp) hrw hnl) M ?_;clear H;rintro v55 LU L55 a w rfl Ak H;refine kH H<|Ra M<|ak K1 M fun a H=>eH ((gV H results25 (.cons (cK H M) (.cons (cK H M) .nil)) ?_).1);exact Bb
abbrev hd0:fI:=⟨[],⟨0,0,[],[]⟩⟩
theorem Vk{G:GH}:kr G hd0 (.slice none 0 0) (.slice none 0 0) (.slice none 0 0):=⟨av.nT M Z,av.nT M Z,av.nT M Z⟩
theorem akm:aW 58:=aX func58 M
theorem akg:aW 25:=aX func25 M
theorem aeg:iI ⟨#[120,121,122]⟩=true∧iM ⟨#[120,121,122]⟩ 0=3:=by
 have d0:iO ⟨#[120,121,122]⟩ 0=(120,1,true):=by decide
 have d1:iO ⟨#[120,121,122]⟩ 1=(121,1,true):=by decide
 have d2:iO ⟨#[120,121,122]⟩ 2=(122,1,true):=by decide
 have e3:gq ⟨#[120,121,122]⟩ 3=-1:=by rw[gq,dif_neg Z]
 have e2:gq ⟨#[120,121,122]⟩ 2=-1:=by rw[gq,dif_pos Z,dif_pos (by rw[d2]),d2];exact e3
 have e1:gq ⟨#[120,121,122]⟩ 1=-1:=by rw[gq,dif_pos Z,dif_pos (by rw[d1]),d1];exact e2
 have e0:gq ⟨#[120,121,122]⟩ 0=-1:=by rw[gq,dif_pos Z,dif_pos (by rw[d0]),d0];exact e1
 have c3:iM ⟨#[120,121,122]⟩ 3=0:=by rw[iM,au Z]
 have c2:iM ⟨#[120,121,122]⟩ 2=1:=by rw[iM,ay Z,c3];decide
 have c1:iM ⟨#[120,121,122]⟩ 1=2:=by rw[iM,ay Z,c2];decide
 have c0:iM ⟨#[120,121,122]⟩ 0=3:=by rw[iM,ay Z,c1];decide
 exact⟨by unfold iI;rw[e0];decide,c0⟩
theorem aIo:iI ⟨#[97]⟩=true:=by
 have d0:iO ⟨#[97]⟩ 0=(97,1,true):=by decide
 have e1:gq ⟨#[97]⟩ 1=-1:=by rw[gq,dif_neg Z]
 have e0:gq ⟨#[97]⟩ 0=-1:=by rw[gq,dif_pos Z,dif_pos (by rw[d0]),d0];exact e1
 unfold iI;rw[e0];decide
theorem arA:iI ⟨#[]⟩=true:=by
 have e0:gq ⟨#[]⟩ 0=-1:=by rw[gq,dif_neg Z]
 unfold iI;rw[e0];decide
def qj:ah:=.mk 8 1 1 ⟨#[97]⟩ hd0 [] []
def oD:ah:=.mk 1 0 0 ⟨#[120,121,122]⟩ hd0 [] []
def rM:ah:=.mk 8 2 1 ⟨#[]⟩ hd0 [] []
def sK:ah:=.mk 2 0 0 ⟨#[]⟩ hd0 [] []
def mY:List ah:=[qj,oD,rM,sK]
theorem IX:bO oD=3∧tX oD=0:=by simp[bO,tX,oD,ah.kind,ah.text,dU,I4,aeg.1,aeg.2]
theorem EN:bO qj=1∧tX qj=0:=by simp[bO,tX,qj,ah.kind]
theorem OD:bO rM=1∧tX rM=0:=by simp[bO,tX,rM,ah.kind]
theorem aei:bO sK=1∧tX sK=0:=by simp[bO,tX,sK,ah.kind]
theorem aE1:n1 oD=3:=by simp[n1,IX.1,IX.2]
theorem aE0:n1 qj=1:=by simp[n1,EN.1,EN.2]
theorem aEZ:n1 rM=1:=by simp[n1,OD.1,OD.2]
theorem a16:cB 0 0 mY=[⟨1,1,⟨#[97]⟩,0,0⟩,⟨2,1,⟨#[]⟩,0,4⟩]:=by
 simp only[mY,cB,He,aE1,aE0,aEZ]
 simp[qj,oD,rM,sK,ah.kind,ah.code,ah.id,ah.text]
theorem aqK:sI (cB 0 0 mY) 1=[⟨1,⟨#[97]⟩,0,1,0,4⟩]:=by
 rw[a16]
 simp[sI,uZ,mH,zx,Cq]
theorem aAt:uW mY ⟨#[97]⟩=some ⟨1,⟨#[97]⟩,0,1,0,4⟩:=by
 unfold uW;rw[aqK];simp
theorem aok:zm mY=0∧kL mY=6:=by
 simp[zm,kL,yN,bC,mY,IX.1,IX.2,EN.1,EN.2,OD.1,OD.2,aei.1,aei.2]
theorem o16:fO 0 mY=[(0,qj),(1,oD),(4,rM),(5,sK)]:=by simp[fO,mY,EN.1,IX.1,OD.1]
theorem lf16:wR 4 mY=[qj,oD]:=by simp[wR,lA,o16,rC,EN.1,IX.1,OD.1,aei.1]
theorem apg:fO 0 [qj,oD]=[(0,qj),(1,oD)]:=by simp[fO,EN.1]
theorem apL:Dl 1 (wR 4 mY)=[oD]:=by rw[lf16];simp[Dl,rA,apg,rC,EN.1,IX.1]
theorem awu:Ja 4 mY:=by
 intro a ha;rw[o16]at ha
 simp only[iL,List.not_mem_nil,or_false]at ha
 rcases ha with rfl|rfl|rfl|rfl<;>simp[rC,EN.1,IX.1]
theorem awv:Ja 1 (wR 4 mY):=by
 rw[lf16];intro a ha;rw[apg]at ha
 simp only[iL,List.not_mem_nil,or_false]at ha
 rcases ha with rfl|rfl<;>simp[rC,EN.1]
theorem aF1:aeK (Dl 1<|wR 4 mY):=by
 rw[apL];exact⟨O4.one (eP _),fun x hx=>by rw[oH.1 hx];exact⟨M,M,Z,fun _=>by rw[ByteArray.toList_eq];decide⟩⟩
theorem aGx:Dm mY 1 4=0:=by simp[Dm,aok.1,aok.2]
theorem aAl:iZ mY 0=some mY:=by simp[iZ,gJ]
theorem z16:aR mY<=1000:=by
 have h1:=lY qj;have h2:=lY oD;have h3:=lY rM;have h4:=lY sK
 have h0:oF hd0=5:=by simp[Sy,fE]
 have s1:qj.text.size=1:=rfl;have s2:oD.text.size=3:=rfl;have s3:rM.text.size=0:=rfl;have s4:sK.text.size=0:=rfl;rw[show qj.head=hd0 from rfl,h0,show aR qj.flow=0 from rfl,show gB qj.rows=0 from rfl]at h1;rw[show oD.head=hd0 from rfl,h0,show aR oD.flow=0 from rfl,show gB oD.rows=0 from rfl]at h2;rw[show rM.head=hd0 from rfl,h0,show aR rM.flow=0 from rfl,show gB rM.rows=0 from rfl]at h3;rw[show sK.head=hd0 from rfl,h0,show aR sK.flow=0 from rfl,show gB sK.rows=0 from rfl]at h4
 simp only[aR,mY,dV,ug,fE]
 omega
theorem XC(C:bG){e:Int}(h1:1<=e)(h2:e<=10):iX C e hd0=0:=by
 have h3:sU e []=0:=by rw[sU,bQ];rfl
 simp[iX,fD,hd0,h3,zu,ou,kW,dX]
theorem ok16:eT mY:=by
 have f1:iP qj=0:=by
  have hn:pq ⟨#[97]⟩=true:=by decide
  simp[iP,qj,ah.kind,ah.code,ah.id,ah.text,ah.flow,ah.rows,codeOk,um,sV,tH,vC,vw,rz,aIo,hn]
 have f2:iP oD=0:=by
  simp[iP,oD,ah.kind,ah.code,ah.id,ah.text,ah.flow,ah.rows,codeOk,um,sV,tH,vC,vw,rz,aeg.1]
 have f3:iP rM=0:=by
  simp[iP,rM,ah.kind,ah.code,ah.id,ah.text,ah.flow,ah.rows,codeOk,um,sV,tH,vC,vw,rz,arA]
 have f4:iP sK=0:=by
  simp[iP,sK,ah.kind,ah.code,ah.id,ah.text,ah.flow,ah.rows,codeOk,um,sV,tH,vC,vw,rz,arA]
 have C:bG:=⟨[],[],[],[]⟩;have q1:∀s:CS,qC C true false 0 qj.kind qj.id s=(0,s):=fun s=>rfl;have q2:∀s:CS,qC C true false 0 oD.kind oD.id s=(0,s):=fun s=>rfl;have q3:∀s:CS,qC C true false 0 rM.kind rM.id s=(0,s):=fun s=>rfl;have q4:∀s:CS,qC C true false 0 sK.kind sK.id s=(0,s):=fun s=>rfl;have h1:iX C qj.kind qj.head=0:=XC C Z Z;have h2:iX C oD.kind oD.head=0:=XC C Z Z;have h3:iX C rM.kind rM.head=0:=XC C Z Z;have h4:iX C sK.kind sK.head=0:=XC C Z Z;refine⟨C,true,false,0,⟨0,[]⟩,(jH C true false 0 mY ⟨0,[]⟩).2,?_⟩
 simp[mY,jH,VY,jf,f1,f2,f3,f4,q1,q2,q3,q4,h1,h2,h3,h4,show¬qj.kind=6 by decide,show¬qj.kind=7 by decide,show¬oD.kind=6 by decide,show¬oD.kind=7 by decide,show¬rM.kind=6 by decide,show¬rM.kind=7 by decide,show¬sK.kind=6 by decide,show¬sK.kind=7 by decide]
theorem aky(G:GH)(w0:World)(hG:Hold G w0) :
  Calls prog 58 #[] w0 (bD w0 G fun u G'=>∃D:jh,u=D.val∧av G' (.sl 11<|mY.map ah.dat) (bN D.f)):=by
 refine eN [] func58 M ntmps58 M M hG fun a H=>dw<|fun _ K1=>dK jc H wn M fun b0 a w hb0 H=>K1 _ _<|dw<|fun _ K1=>?_;(iterate 4 refine jM WY [_,_,_,_,_,_,_,_,_,_,_] H wn M M M M ?_;intro a H);refine iT dM bL [_,_,_,_,_,_,_,_,_,_,_,_,_,_,_,_,_,_,_,_,_,_,_,_,_,_,_,_,_,_,_,_,_,_,_,_,_,_,_,_,_,_,_,_] [_,_,_,_,_,_,_,_,_,_,_,_,_,_,_,_,_,_,_,_,_,_,_,_,_,_,_,_,_,_,_,_,_,_,_,_,_,_,_,_,_,_,_,_] H wn M M M M M (by intro i q h;match i,h with|0,h=>exact h|1,h=>exact h|2,h=>exact h|3,h=>exact h|n+4,h=>simp at h) M M fun b5 a w hb5 H=>jM aqX [_,_,_,_,_,_,_,_,_,_,_] H wn M M M M fun a H=>bH jc 1 (vs:=[_,_,_,_,_,_,_,_,_,_,_]) H wn M fun w H=>K1 _ _<|eH ((leave1 H results58 (.cons (vk jc (cs:=[_,_,_,_,_,_,_,_,_,_,_]) H M M<|H.hp.dB 1 M M) .nil) ?_).1);have H:=H.dR (Pl:=[_,_]) (dH:=[_]) [0] Z M;obtain⟨G3,Kh,Ee,H⟩:=H.eX;have r1:bg G3 qj.dat _:=bg.mkItem (x:=qj) Vk (av.nT (A:=none) (n:=0) (c:=0) M Z)<|av.nT (A:=none) (n:=0) (c:=0) M Z;have r2:bg G3 oD.dat _:=bg.mkItem (x:=oD) Vk (av.nT (A:=none) (n:=0) (c:=0) M Z)<|av.nT (A:=none) (n:=0) (c:=0) M Z;have r3:bg G3 rM.dat _:=bg.mkItem (x:=rM) Vk (av.nT (A:=none) (n:=0) (c:=0) M Z)<|av.nT (A:=none) (n:=0) (c:=0) M Z;have r4:bg G3 sK.dat _:=bg.mkItem (x:=sK) Vk (av.nT (A:=none) (n:=0) (c:=0) M Z)<|av.nT (A:=none) (n:=0) (c:=0) M Z;have gK:bR G3 11 (mY.map ah.dat) _:=(((bR.nil.snoc r1 M).snoc r2 M).snoc r3 M).snoc r4 M;exact H.rt ⟨⟨(some ⟨b5,0,none⟩,4,4),(none,0,0),(none,0,0),(none,0,0),(none,0,0),(none,0,0),(none,0,0),(none,0,0),(none,0,0),0,0⟩,M,av.uK (n:=4) (cap:=4) Ee M (eP _) (show 4<=maxLen by decide) rfl gK⟩
set_option maxHeartbeats 1000000 in
theorem aId(G:GH)(w0:World)(hG:Hold G w0)(D:jh)(hv:av G (.sl 11<|mY.map ah.dat) (bN D.f)) :
  Calls prog 25 #[D.val,.string ⟨#[97]⟩] w0 (bD w0 G fun u G'=>u=.tuple #[.string ⟨#[120,121,122]⟩,.bool true]):=by
 have hz:=z16;refine eN [(0,_),(1,_)] func25 M ntmps25 M M hG fun a H=>dw<|fun _ K1=>eD (cs:=[_,_,_,_,_,_,_,_,_,_,_]) H wn M M M fun b2 a w hb2 H=>kH H<|Ra M<|ak K1 M<|SQ fun _ K2=>?_;clear H K1;intro a H;obtain⟨Ga,hma,hb',H⟩:=H.eX;have hga:=fun j v hj=>lQ hb' 0 D.cells M j v hj;replace hv:=hv.mono hma;refine mF<|aY jc (cs:=D.cells) H wn M M (fun j v hj=>H.hp.aJ<|hga j v hj) M<|Rm M fun a H=>s_call Uz H wn M (Ta _ _ H.ro D mY ⟨#[97]⟩ hv ok16 O) M ?_;clear H;rintro v18 OU a w rfl hm18 H;rw[aAt]at H;dsimp only[Option.getD_some,Option.isSome_some]at H;replace hv:=hv.mono hm18;replace hga:=fun j v hj=>aH hm18<|hga j v hj;refine kH H<|Rm M ?_;clear H;intro a H;(iterate 2 refine iH H wn M M M ?_;clear H;intro a H);refine dK mQ H wn M fun b6 a w hb6 H=>bH mQ 0 (vs:=[_,_,_,_,_,_]) H wn M fun w H=>kH H (bZ K2 M<|SQ fun _ K1=>SR fun _ K3=>Rm M<|Rn M<|Kz K3<|Cd M ?_ ?_)<;>clear H K2 K3
 ·intro h22 a H;exact absurd h22 Z
 intro h22 a H
 try have pV:=dF h22
 refine fU<|K1 _ _<|dw<|fun _ K1=>aY jc (cs:=D.cells) H wn M M (fun j v hj=>H.hp.aJ<|hga j v hj) M<|Rf Ac M<|aV HY aF 0 M M fun a H=>s_call UE H wn M (UY _ _ H.ro D mY 0 hv O) M ?_;clear H;rintro v28 LM a w ⟨x28,rfl,hx28⟩ za H;rw[aAl,Option.getD_some]at hx28;obtain⟨A28,n28,c28,rfl⟩:=hx28.form;refine kH H<|Rm M ?_;clear H;intro a H;(iterate 2 refine iH H wn M M M ?_;clear H;intro a H);refine kH H<|Ra M<|ak K1 M<|SR fun _ K2=>Rm M<|Rf Ac M<|aV yQ aF 0 M M<|Rf HZ M<|aV yQ aF 0 M M fun a H=>s_call akp H wn M (aHM _ _ H.ro mY 1 4 _ hx28 O aGx awu awv aF1) M ?_;clear H;rintro v39 LQ a w ⟨x39,rfl,hx39⟩ Vv H;rw[apL]at hx39;obtain⟨A39,n39,c39,rfl⟩:=hx39.form;obtain rfl:n39=1:=hx39.len;refine kH H<|Rm M ?_;clear H;intro a H;(iterate 2 refine iH H wn M M M ?_;clear H;intro a H);refine kH H<|Ra M<|ak K2 M<|SR fun _ K1=>fun a H=>dK arC H wn M fun b12 a w CP H=>K1 _ _<|kP H<|SQ fun _ K1=>SR fun _ K2=>Rm M<|Rl dM M<|Rm M<|Kz K2<|SB ?_;clear H K2;intro a H;skip;refine dY (ι:=Nat×aj×aj×Nat×OL) (Tc:=[(12,_),(42,_),(43,_)]) (Lc:=[(_,_)]) (fun gh=>[(44,vi gh.1)]) (fun gh=>[bB b12 gh.2.1 gh.2.2.1]++gh.2.2.2.2) (fun gh=>LQ) (fun gh=>gh.1<=1∧(gh.1=0->gh.2.1=.pointer none∧gh.2.2.1=.slice none 0 0∧gh.2.2.2.2=[])∧(gh.1=1->gh.2.1=(aK b12 0)∧bT 5 1 gh.2.2.1 3 (Lib.byteCells [120,121,122]) gh.2.2.2.2)) (fun gh=>1-gh.1) ((0,.pointer none,.slice none 0 0,0,[])) (by exact(H.dR (Pl:=[_,_]) (dH:=[_,_]) [1,0] Z M).sub ⟨M,M,M,M,aC⟩) ?_ ?_
 ·exact⟨O,fun _=>⟨M,M,M⟩,fun h=>absurd h Z⟩
 clear H;rintro⟨k,p,v,n,Lo⟩ a w hI H;dsimp only at hI H;obtain⟨hk,hk0,hk1⟩:=hI;dsimp only[lca,bq]at H;refine kP H (SR fun _ K2=>Rc M<|Kz K2<|SQ fun _ K3=>Cd M ?_ ?_)<;>clear H K2
 ·intro h45 a H
  try have p45:=dT h45
  obtain rfl:k=0:=by omega
  obtain⟨rfl,rfl,rfl⟩:=hk0 M;obtain⟨b,o,pA,pn,pc,dA,dn,dc,yA,yn,yc,fA,fn,fc,rA,rn,rc,rfl,hrow,hhd,hfl,hrw⟩:=vI (l:=[oD]) (k:=0) Z hx39.at_;refine kP H (Kc K3<|SQ fun _ K2=>SB<|SR fun _ K4=>Ri dM bL M M fun a H=>aY bL (cs:=[_,_,_,_,_,_,_,_,_,_,_]) H wn M M (fun j v hj=>H.hp.aJ<|hrow j v hj) M fun a H=>dK bL H wn M fun b14 a w Nh H=>bH bL 0 (vs:=[_,_,_,_,_,_,_,_,_,_,_]) H wn M fun w H=>K4 _ _<|kP H<|SR fun _ K3=>aV iW aF 0 M M<|Rc M<|Kz K3<|Cd M ?_ ?_)<;>clear H K3
  ·intro h50 a H
   try have p50:=dT h50
   refine kP H<|SC<|aV pE gN 0 M M fun a H=>gM akq (Li:=[_,_]) (L:=bB b12 (.pointer none) (.slice none 0 0)::[]) H wn M (asq _ _ _ b12 (.pointer none) (.slice none 0 0) 0 [] ⟨#[120,121,122]⟩ (.inl M) (Hp.owns (Li:=[_,_]) H.hp) bT.nil Z) M ?_;clear H;rintro v_ _ L53 a w ⟨v53,X7,rfl,ach,rfl⟩ aCF H;refine kH H (Kn K2 (SC (Rd M (Rm M fun a H=>aI (dO ((1,aK b12 0,v53,0,X7)) (by exact(H.dR (Pl:=[_,_,_]) (dH:=[_,_]) [1,2] Z M).sub ⟨M,M,M,M,aC⟩) ?_)))))
   (try dsimp only);exact⟨O,fun h=>absurd h O,fun _=>⟨M,ach⟩⟩
  intro h50 a H;exact absurd h50 Z
 intro h45 a H
 try have p45:=dF h45
 obtain rfl:k=1:=by omega
 obtain⟨rfl,hrw3⟩:=hk1 M;refine dS<|K1 _ _<|dw<|fun _ K1=>gM aaC (Li:=[_]) (L:=bB b12 _ v::Lo) H wn M (arb _ _ _ b12 _ v [120,121,122] (Hp.owns (Li:=[_]) H.hp) hrw3 Z) M ?_;clear H;rintro v55 LU L55 a w rfl Ak H;refine kH H<|Ra M<|ak K1 M fun a H=>eH ((gV H results25 (.cons (cK H M) (.cons (cK H M) .nil)) ?_).1);exact Bb
theorem acM(G:GH)(w0:World)(hG:Hold G w0):Calls prog 17 #[] w0 (bD w0 G fun u G'=>u=.bool true):=by
 have hz:=z16;refine eN [] func17 M ntmps17 M M hG<|SR fun _ K1=>ak K1 M<|SR fun _ K2=>fun a H=>s_call akm H wn M (aky _ _ H.ro) M ?_;rintro v4 G4 a w ⟨D4,rfl,hv4⟩ Kj H;refine s_call akl H wn M (aiH _ _ H.ro D4 mY hv4 ok16 O) M ?_;rintro v5 G5 a w hr hm5 H;rw[aqK]at hr;obtain⟨A5,n5,c5,rfl⟩:=hr.form;obtain rfl:n5=1:=hr.len;obtain⟨b,o,rfl,hrow⟩:=WX (A:=[⟨1,⟨#[97]⟩,0,1,0,4⟩]) (k:=0) hr Z;refine kH H<|ak K2 M<|SR fun _ K1=>fun a H=>s_call akm H wn M (aky _ _ H.ro) M ?_;rintro v7 G7 a w ⟨D7,rfl,hv7⟩ Ej H;refine s_call akg H wn M (aId _ _ H.ro D7 hv7) M ?_;rintro v8 G8 a w rfl El H;refine kH H<|Rm M ?_;intro a H;(iterate 2 refine iH H wn M M M ?_;intro a H);refine kH H (Ra M<|ak K1 M<|SR fun _ K2=>Rm M<|Rl DK M<|Rc M<|Rm M<|Sp 14 M ?_ ?_)<;>clear H K1
 ·refine fun dW=>YM dW M fun a H=>Dp DK mQ 0 H (wg H M M dW) M M M Z M fun a H=>aY mQ (cs:=[vi 1,.string ⟨#[97]⟩,vi 0,vi 1,vi 0,vi 4]) H (wg H M M dW) M M (fun j v hj=>H.hp.aJ<|aH El<|aH Ej<|hrow j v hj) M ?_;intro a H;(iterate 2 refine jM Sb [_,_] H (wg H M M dW) M M M M ?_;intro a H);refine jM WZ [_,_,_,_,_,_] H (wg H M M dW) M M M M fun a H=>adM azt H (wg H M M dW) M M M M (Pt dW M<|Rm M<|Sp 23 M ?_ ?_)<;>clear H
  ·intro h23 a H
   try have rH:=dT h23
   refine kH H (YM h23 M fun a H=>BN H (wg H M M h23) M M M<|Pt h23 M<|Rm M<|Sp 27 M ?_ ?_)<;>clear H
   ·exact fun h27=>YM h27 M<|Pt h27 M<|ak K2 M<|LR results17 M fun H=>H.rt M
   intro h27 a H;exact absurd h27 (by first|decide|simp[jW,lq])
  intro h23 a H;exact absurd h23 (by first|decide|simp[jW,lq])
 intro dW a H;exact absurd dW Z
theorem aaz:aW 59:=aX func59 M
theorem ajK:aW 11:=aX func11 M
abbrev E9(b:Nat)(n:Int):Nat×Obj:=(b,.cells #[vi n] 3 (0,0))
def SmQ(bl:Nat)(left:Int)(z:Nat)(u:aj)(_:GH)(L':OL):Prop:=∃b lf,u=.bool b∧L'=[E9 bl lf]∧left-(z:Int)<=lf∧lf<=left
def Yi(n:Nat):Prop:=∀(G:GH)(w0:World)(l:List ah)(v:aj)(NQ left:Int)(bl:Nat),fZ G [E9 bl left] w0->av G (.sl 11 (l.map ah.dat)) v->aR l<n->0<=NQ->NQ<=1000->left<=1000->-1000000000000<=left-(aR l:Int)->
 Calls prog 59 #[v,vi NQ,(aK bl 0)] w0 (fG w0 G [E9 bl left] (SmQ bl left (aR l)))
theorem asC(l m:List aN):gB (l++m)=gB l+gB m:=by simp[gB,Ov]
theorem asv(l m:List aP):iU (l++m)=iU l+iU m:=by simp[iU,Ov]
theorem aJc{l:List ah}{k:Nat}(h:k<l.length):aR (l.take<|k+1)=aR (l.take k)+(1+bY l[k].dat):=by rw[ji h,aew];simp[aR,fE]
theorem aJe{l:List aN}{k:Nat}(h:k<l.length):gB (l.take<|k+1)=gB (l.take k)+(1+bY l[k].dat):=by rw[ji h,asC];simp[gB,fE]
theorem aJa{l:List aP}{k:Nat}(h:k<l.length):iU (l.take<|k+1)=iU (l.take k)+(1+bY l[k].dat):=by rw[ji h,asv];simp[iU,fE]
theorem asA(l:List ah)(k:Nat):aR (l.take k)<=aR l:=Lm<|List.take_sublist k l
theorem asE(l:List aN)(k:Nat):gB (l.take k)<=gB l:=by
 have:=asC (l.take k)<|l.drop k;rw[List.take_append_drop]at this;omega
theorem asx(l:List aP)(k:Nat):iU (l.take k)<=iU l:=by
 have:=asv (l.take k)<|l.drop k;rw[List.take_append_drop]at this;omega
theorem afO {p:Prop} (h:p:=by
 exact kP H (SR fun _ K4=>ak K4 M (LR results59 M fun H=>H.hp.gX ⟨_,_,M,M,O,O⟩))):p:=h
theorem afP {p:Prop} (h:p:=by
 exact kP H (SR fun _ K1=>ak K1 M (LR results59 M fun H=>H.hp.gX ⟨_,_,M,M,O,O⟩))):p:=h
set_option maxHeartbeats 4000000 in
theorem aHP{n:Nat}(ih:Yi n)(hn:n<=4294967296):Yi (n+1):=by
 intro G w0 l v NQ left bl hO hv hz hl0 hl1 hf1 hf0;obtain⟨A,c,rfl,hc1,hc2,hg⟩:=hv.slice;rw[bM]at *;have hll:=wo l;refine iY (N:=133) (T:=[(0,_),(1,_),(2,_)]) func59 M ntmps59 M M hO ?_;intro a H;refine kP H<|SR fun _ K1=>ak K1 M<|SQ fun _ K2=>SR fun _ K3=>ak K3 M<|SB ?_;clear H K1 K3;intro a H;skip;refine dY (ι:=Nat×Int×GH) (Tc:=[(0,_),(1,_),(2,_)]) (Lc:=[]) (fun gh=>[(7,vi gh.1)]) (fun gh=>[E9 bl gh.2.1]) (fun gh=>gh.2.2) (fun gh=>gh.1<=l.length∧left-(aR (l.take gh.1):Int)<=gh.2.1∧gh.2.1<=left∧(∀b o,G b=some o->gh.2.2 b=some o)) (fun gh=>l.length-gh.1) ((0,left,G)) (by exact H.sub ⟨M,M,M,M,aC⟩) ?_ ?_
 ·exact⟨O,by show left-((0:Nat):Int)<=left;omega,Int.le_refl _,fun _ _ h=>h⟩
 clear H;rintro⟨k,lf,g⟩ a w hI H;dsimp only at hI H;obtain⟨hk,hlo,hhi,hgm⟩:=hI;have hzk:=asA l k;dsimp only[lca,bq]at H;refine kP H (SQ fun _ K1=>SR fun _ K3=>Rm M<|Rm M<|Rl dM M<|Rc M<|Kz K3<|Cd M ?_ ?_)<;>clear H K3
 ·intro iA a H
  try have tK:=dT iA
  have hk2:k<l.length:=by omega
  obtain⟨b,o,pA,pn,pc,dA,dn,dc,yA,yn,yc,fA,fn,fc,rA,rn,rc,rfl,hrow,hhd,hfl,hrw⟩:=vI hk2 hg;have hrn:=hrw.len;rw[bM]at hrn;subst hrn;have r3:aJ g b (o+k*11+3)=some (.string l[k].text):=aH hgm<|hrow 3 _ M;have r4:aJ g b (o+k*11+4+0)=some (.slice pA pn pc):=aH hgm<|hrow 4 _ M;have r9:aJ g b (o+k*11+9)=some (.slice fA fn fc):=aH hgm<|hrow 9 _ M;have Oc:aJ g b (o+k*11+10)=some (.slice rA l[k].rows.length rc):=aH hgm<|hrow 10 _ M;have hzi:=lY l[k];have hzs:=aJc hk2;have hzt:=asA l<|k+1;refine kP H<|Kc K1<|SQ fun _ K3=>SB<|SR fun _ K4=>Rm M<|Rk M<|Ro aF 0 M<|Rs M<|Rk M ?_;clear H K1;intro a H;refine bH aF 0 (vs:=[_]) H wn M ?_;clear H;intro w H;refine K4 _ _ ?_;clear K4;refine kP H (SQ fun _ K1=>SR fun _ K4=>Rm M<|Rk M<|Ro aF 0 M<|Rc M<|Rm M<|Sp 25 M ?_ ?_)<;>clear H
  ·intro oK a H
   try have p25:=dT oK
   refine kH H<|aU oK M<|Pt oK M<|Rm M<|bJ M M<|aU M M<|aU M M<|Pt M M<|Rm M<|bJ M M<|bJ M M<|aU M M<|Pt M M<|Rm M<|bJ M M<|aU M M<|aU M M<|Pt M M<|Rm M<|bJ M M<|bJ M M<|aU M M<|aU M M ?_;clear H;intro a H;exact kH H<|Pt M M<|Kz K4<|Ct M M<|SR fun _ K5=>ak K5 M<|LR results59 M fun H=>H.hp.gX ⟨_,_,M,M,O,O⟩
  intro oK a H
  try have p25:=dF oK
  refine kH H (YM oK M<|YC oK M<|Pf oK M<|Rm M<|Sp 29 M ?_ ?_)<;>clear H
  ·intro kD a H
   try have p29:=dT kD
   refine kH H<|bJ kD M<|aU kD M<|aU kD M<|Pt kD M<|Rm M<|bJ M M<|bJ M M<|aU M M<|Pt M M<|Rm M<|bJ M M<|aU M M<|aU M M<|Pt M M<|Rm M<|bJ M M<|bJ M M<|aU M M<|aU M M<|Pt M M<|Kz K4 ?_;clear H K4;intro a H;refine zR H M M ?_;exact afO
  intro kD a H
  try have p29:=dF kD
  refine kH H (YM kD M<|YM kD M<|YI dM bL kD M M<|YF pE kD M<|YR gN kD M (by assumption) ?_);clear H;intro a H;refine Gj gZ H (wg H M M kD) M M ?_;clear H;intro a H;refine kH H (YC kD M<|Pf kD M<|Rm M<|Sp 38 M ?_ ?_)<;>clear H
  ·intro jF a H
   try have p38:=dT jF
   exact kH H<|bJ jF M<|bJ jF M<|aU jF M<|Pt jF M<|Rm M<|bJ M M<|aU M M<|aU M M<|Pt M M<|Rm M<|bJ M M<|bJ M M<|aU M M<|aU M M<|Pt M M<|Kz K4<|Ct M M<|SR fun _ K5=>ak K5 M<|LR results59 M fun H=>H.hp.gX ⟨_,_,M,M,O,O⟩
  intro jF a H
  try have p38:=dF jF
  refine kH H (YM jF M<|YM jF M<|YI dM bL jF M M<|YF vG jF M<|YF JO jF M<|YR Dy jF M (by assumption) ?_);clear H;intro a H;refine kH H (YL tT jF M<|YC jF M<|Pf jF M<|Rm M<|Sp 48 M ?_ ?_)<;>clear H
  ·intro h48 a H
   try have p48:=dT h48
   exact kH H<|bJ h48 M<|aU h48 M<|aU h48 M<|Pt h48 M<|Rm M<|bJ M M<|bJ M M<|aU M M<|aU M M<|Pt M M<|Kz K4<|Ct M M<|SR fun _ K5=>ak K5 M<|LR results59 M fun H=>H.hp.gX ⟨_,_,M,M,O,O⟩
  intro h48 a H
  try have p48:=dF h48
  refine kH H (YM h48 M<|YM h48 M<|YI dM bL h48 M M<|YF mZ h48 M<|YR lX h48 M (by assumption) ?_);clear H;intro a H;refine kH H (YL jI h48 M<|YC h48 M<|Pf h48 M<|Rm M<|Sp 57 M ?_ ?_)<;>clear H
  ·intro h57 a H
   try have p57:=dT h57
   exact kH H<|bJ h57 M<|bJ h57 M<|aU h57 M<|aU h57 M<|Pt h57 M<|Kz K4<|Ct M M<|SR fun _ K5=>ak K5 M<|LR results59 M fun H=>H.hp.gX ⟨_,_,M,M,O,O⟩
  intro h57 a H
  try have p57:=dF h57
  refine kH H (YM h57 M<|YM h57 M<|YI dM bL h57 M M<|YF uU h57 M<|YR eG h57 M (by assumption) ?_);clear H;intro a H;refine kH H<|YM h57 M ?_;clear H;intro a H;refine EH _ H (wg H M M h57) M M M O O M ?_;clear H;intro a H;refine kH H<|YM h57 M ?_;clear H;intro a H;refine gM aaz (Li:=[]) (L:=[E9 bl _]) H (wg H M M h57) M (ih _ _ l[k].flow _ (NQ-1) _ bl (Hp.owns (Li:=[]) H.hp) (hfl.mono hgm) O O O O O) M ?_;clear H;rintro v66 G66 L66 a w ⟨b66,lf66,rfl,rfl,aKf,aKc⟩ amH H;dsimp only[List.nil_append]at H;replace Oc:=aH amH Oc;have aCp:=fun b o h=>amH b o<|hgm b o h;refine kH H (YN h57 M<|Pf h57 M<|Kz K4<|Cd M ?_ ?_)<;>clear H K4
  ·intro h68 a H
   try have p68:=dT h68
   exact afO
  intro h68 a H
  try have p68:=dF h68
  refine kP H<|Kc K1<|SR fun _ K4=>ak K4 M<|SB ?_;clear H K1 K4;intro a H;skip;refine dY (ι:=Nat×Int×GH) (Tc:=[(0,_),(1,_),(2,_),(7,_)]) (Lc:=[]) (fun gh=>[(8,vi gh.1)]) (fun gh=>[E9 bl gh.2.1]) (fun gh=>gh.2.2) (fun gh=>gh.1<=l[k].rows.length∧lf66-(gB (l[k].rows.take gh.1):Int)<=gh.2.1∧gh.2.1<=lf66∧(∀b o,G b=some o->gh.2.2 b=some o)∧aJ gh.2.2 b (o+k*11+10)=some (.slice rA l[k].rows.length rc)) (fun gh=>l[k].rows.length-gh.1) ((0,lf66,G66)) (by exact H.sub ⟨M,M,M,M,M,aC⟩) ?_ ?_
  ·exact⟨O,by show lf66-((0:Nat):Int)<=lf66;omega,Int.le_refl _,aCp,Oc⟩
  clear H;rintro⟨j,lf2,g2⟩ a w hI H;dsimp only at hI H;obtain⟨hj,hlo2,hhi2,nk,q10⟩:=hI;have aKx:=asE l[k].rows j;dsimp only[lca,bq]at H;refine kP H (SQ fun _ K1=>SR fun _ K4=>Rm M<|Rm M<|Rm M<|Ri dM bL M M<|Rf mZ M<|Rg lX M (by assumption) ?_);clear H;intro a H;refine kH H (Rl jI M<|Rc M<|Kz K4<|Cd M ?_ ?_)<;>clear H K4
  ·intro Ag a H
   try have RS:=dT Ag
   have hj2:j<l[k].rows.length:=by omega
   obtain⟨b2,o2,uA,un,uc,eA,en,ec,zA,zn,zc,cA,cn,cc,rfl,hrow2,zk,hcl⟩:=Gg hj2 (hrw.mono nk).at_;have hcn:=hcl.len;rw[bM]at hcn;subst hcn;have t5:aJ g2 b2 (o2+j*6+5)=some (.slice cA l[k].rows[j].cells.length cc):=hrow2 5 _ M;have aKv:=zC l[k].rows[j];have aKz:=aJe hj2;have aKB:=asE l[k].rows<|j+1;refine kP H (Kc K1<|SQ fun _ K4=>SB<|SQ fun _ K5=>SR fun _ K6=>Rm M<|Rm M<|Ri dM bL M M<|Rf mZ M<|Rg lX M (by assumption) ?_);clear H K1;intro a H;refine kH H (Rm M<|Ri jI iC M M<|Rf rT M<|Rg qD M (by assumption) ?_);clear H;intro a H;refine kH H (Rl ko M<|Rc M<|Kz K6<|Cd M ?_ ?_)<;>clear H K6
   ·intro h89 a H
    try have p89:=dT h89
    exact afP
   intro h89 a H
   try have p89:=dF h89
   refine kP H<|Kc K5<|SR fun _ K1=>ak K1 M<|SB ?_;clear H K5 K1;intro a H;skip;refine dY (ι:=Nat×Int×GH) (Tc:=[(0,_),(1,_),(2,_),(7,_),(8,_)]) (Lc:=[]) (fun gh=>[(9,vi gh.1)]) (fun gh=>[E9 bl gh.2.1]) (fun gh=>gh.2.2) (fun gh=>gh.1<=l[k].rows[j].cells.length∧lf2-(iU (l[k].rows[j].cells.take gh.1):Int)<=gh.2.1∧gh.2.1<=lf2∧(∀b o,G b=some o->gh.2.2 b=some o)∧aJ gh.2.2 b (o+k*11+10)=some (.slice (some ⟨b2,o2,none⟩) l[k].rows.length rc)∧aJ gh.2.2 b2 (o2+j*6+5)=some (.slice cA l[k].rows[j].cells.length cc)∧(∀b o,g2 b=some o->gh.2.2 b=some o)) (fun gh=>l[k].rows[j].cells.length-gh.1) ((0,lf2,g2)) (by exact H.sub ⟨M,M,M,M,M,M,aC⟩) ?_ ?_
   ·exact⟨O,by show lf2-((0:Nat):Int)<=lf2;omega,Int.le_refl _,nk,q10,t5,fun _ _ h=>h⟩
   clear H;rintro⟨m,lf3,g3⟩ a w hI H;dsimp only at hI H;obtain⟨hm,hlo3,hhi3,Aj,s10,s5,amt⟩:=hI;have aKy:=asx l[k].rows[j].cells m;dsimp only[lca,bq]at H;refine kP H (SQ fun _ K1=>SR fun _ K5=>Rm M<|Rm M<|Rm M<|Ri dM bL M M<|Rf mZ M<|Rg lX M (by assumption) ?_);clear H;intro a H;refine kH H (Rm M<|Ri jI iC M M<|Rf rT M<|Rg qD M (by assumption) ?_);clear H;intro a H;refine kH H (Rl ko M<|Rc M<|Kz K5<|Cd M ?_ ?_)<;>clear H K5
   ·intro aaZ a H
    try have aFQ:=dT aaZ
    have hm2:m<l[k].rows[j].cells.length:=by omega
    obtain⟨b3,o3,x1,x2,x3,x4,x5,x6,x7,x8,x9,gA,gn,gc,rfl,hrow3,hch,hcf⟩:=Hr hm2 (hcl.mono amt).at_;have u6:aJ g3 b3 (o3+m*7+6)=some (.slice gA gn gc):=hrow3 6 _ M;have aKw:=AU l[k].rows[j].cells[m];have aKA:=aJa hm2;have aKC:=asx l[k].rows[j].cells<|m+1;refine kP H<|Kc K1<|SQ fun _ K5=>SB<|SR fun _ K6=>Rm M<|Rk M<|Ro aF 0 M<|Rs M<|Rk M ?_;clear H K1;intro a H;refine bH aF 0 (vs:=[_]) H wn M ?_;clear H;intro w H;refine K6 _ _ ?_;clear K6;refine kP H (SR fun _ K1=>Rm M<|Rk M<|Ro aF 0 M<|Rc M<|Rm M<|Sp 113 M ?_ ?_)<;>clear H
    ·intro ni a H
     try have aFS:=dT ni
     exact kH H<|bJ ni M<|bJ ni M<|bJ ni M<|bJ ni M<|bJ ni M<|bJ ni M<|Pt ni M<|Kz K1<|Ct M M<|SR fun _ K6=>ak K6 M<|LR results59 M fun H=>H.hp.gX ⟨_,_,M,M,O,O⟩
    intro ni a H
    try have aFS:=dF ni
    refine kH H (YM ni M<|YM ni M<|YI dM bL ni M M<|YF mZ ni M<|YR lX ni M (by assumption) ?_);clear H;intro a H;refine kH H (YM ni M<|YI jI iC ni M M<|YF rT ni M<|YR qD ni M (by assumption) ?_);clear H;intro a H;refine kH H (YM ni M<|YI ko iQ ni M M<|YF Cr ni M<|YR eG ni M (by assumption) ?_);clear H;intro a H;refine kH H<|YM ni M ?_;clear H;intro a H;refine EH _ H (wg H M M ni) M M M O O M ?_;clear H;intro a H;refine kH H<|YM ni M ?_;clear H;intro a H;refine gM aaz (Li:=[]) (L:=[E9 bl _]) H (wg H M M ni) M (ih _ _ l[k].rows[j].cells[m].flow _ (NQ-1) _ bl (Hp.owns (Li:=[]) H.hp) hcf O O O O O) M ?_;clear H;rintro v130 asM aJt a w ⟨aJA,aEz,rfl,rfl,aKe,aKb⟩ Vu H;dsimp only[List.nil_append]at H;refine kH H (YN ni M<|Pf ni M<|Kz K1<|Cd M ?_ ?_)<;>clear H K1
    ·intro Ia a H
     try have apt:=dT Ia
     exact afP
    intro Ia a H
    try have apt:=dF Ia
    refine kP H<|Kc K5<|SC<|Rm M<|Rd M<|Ra M ?_;clear H K5;intro a H;refine aI ?_;refine dO ((m+1,aEz,asM)) (by exact H.sub ⟨M,M,M,M,M,M,aC⟩) ?_
    (try dsimp only);exact⟨O,O,O,fun b o h=>Vu b o (Aj b o h),aH Vu s10,aH Vu s5,fun b o h=>Vu b o<|amt b o h⟩
   intro aaZ a H
   try have aFQ:=dF aaZ
   refine dS ?_;refine K4 _ _ ?_;clear K4;refine kP H<|SC<|Rm M<|Rd M<|Ra M ?_;clear H;intro a H;refine aI ?_;refine dO ((j+1,lf3,g3)) (by exact H.sub ⟨M,M,M,M,M,aC⟩) ?_
   (try dsimp only);exact⟨O,O,O,Aj,s10⟩
  intro Ag a H
  try have RS:=dF Ag
  refine dS ?_;refine K3 _ _ ?_;clear K3;refine kP H<|SC<|Rm M<|Rd M<|Ra M ?_;clear H;intro a H;refine aI ?_;refine dO ((k+1,lf2,g2)) (by exact H.sub ⟨M,M,M,M,aC⟩) ?_
  (try dsimp only);exact⟨O,O,O,nk⟩
 intro iA a H
 try have tK:=dF iA
 refine dS ?_;refine K2 _ _ ?_;clear K2;exact kP H<|SR fun _ K2=>ak K2 M<|LR results59 M fun H=>H.hp.gX ⟨_,_,M,M,O,O⟩
theorem aqG:∀n:Nat,n<=4294967296->Yi n
 |0,_=>fun _ _ _ _ _ _ _ _ _ hz=>absurd hz<|Nat.not_lt_zero _
 |n+1,h=>aHP (aqG n O) O
theorem aHO(G:GH)(w0:World)(hG:Hold G w0)(D:jh)(d:jq)(hR:lH G D d)(hz:sM d) :
  Calls prog 18 #[D.val] w0 (bD w0 G fun u G'=>∃b,u=.bool b∧(b=true->jK d=0)):=by
 have FY:=hz.fl;refine eN [(0,_)] func18 M ntmps18 M M hG fun a H=>dw<|fun _ K1=>eD (cs:=[_,_,_,_,_,_,_,_,_,_,_]) H wn M M M fun b1 a w hb1 H=>kH H<|ak K1 M<|SQ fun _ K2=>?_;clear H K1;intro a H;obtain⟨Ga,hma,hb1',H⟩:=H.eX;have hga:=fun j v hj=>lQ hb1' 0 D.cells M j v hj;have hgs:=fun j v hj=>lQ hb1' 7 [bN D.s1,bN D.s2,bN D.s3,bN D.s4] M j v hj
 have hgr:aJ Ga b1 6=some (bN D.r):=by unfold aJ;rw[hb1'];rfl
 have hgf:aJ Ga b1 0=some (bN D.f):=by unfold aJ;rw[hb1'];rfl
 replace hR:=hR.mono hma;refine mF (dK aF H wn M fun b3 a w hb3 H=>bH aF 0 (vs:=[_]) H wn M fun w H=>kH H<|Kn K2<|SR fun _ K1=>Rf Qo M fun a H=>aY DC (cs:=[bN D.s1,bN D.s2,bN D.s3,bN D.s4]) H wn M M (fun j v hj=>H.hp.aJ<|hgs j v hj) M fun a H=>dK DC H wn M fun b4 a w hb4 H=>bH DC 0 (vs:=[_,_,_,_]) H wn M fun w H=>K1 _ _<|kP H<|SR fun _ K1=>aV aaK IW 0 M M<|Rl BS M<|Rc M<|Rm M<|Sp 11 M ?_ ?_)<;>clear H
 ·intro h11 a H
  try have pR:=dT h11
  refine kH H (YF MS h11 M<|YO uL 0 h11 M<|YL mR h11 M<|YC h11 M<|Pt h11 M<|Rm M<|Sp 17 M ?_ ?_)<;>clear H
  ·intro dL a H
   try have lD:=dT dL
   refine kH H (YF MU dL M<|YO EM 0 dL M<|YL zB dL M<|YC dL M<|Pt dL M<|Rm M<|Sp 23 M ?_ ?_)<;>clear H
   ·intro h23 a H
    try have rH:=dT h23
    refine kH H (YF aaL h23 M<|YO AJ 0 h23 M<|YL yB h23 M<|YC h23 M<|Pt h23 M<|Rm M<|Sp 29 M ?_ ?_)<;>clear H
    ·intro kD a H
     try have p29:=dT kD
     refine kH H (YF MW kD M<|YR Dz kD M (by assumption)<|YL tV kD M<|YC kD M<|Pt kD M<|Rm M<|Sp 35 M ?_ ?_)<;>clear H
     ·intro jr a H
      try have p35:=dT jr
      refine kH H (YF wH jr M (YR eG jr M (by assumption) fun a H=>gM aaz (Li:=[_]) (L:=[E9 b3 150]) H (wg H M M jr) M (aqG 4294967296 (eP _) _ _ d.flow _ 12 150 b3 (Hp.owns (Li:=[_]) H.hp) hR.fl O Z Z Z O) M ?_));rintro v38 OW L38 a w ⟨AZ,lf38,rfl,rfl,-,-⟩ CW H;refine kH H (Pt jr M<|Rm M<|Sp 40 M ?_ ?_)<;>clear H
      ·intro nY a H
       try have p40:=dT nY
       refine aY jc (cs:=D.cells) H (wg H M M nY) M M (fun j v hj=>H.hp.aJ<|aH CW<|hga j v hj) M fun a H=>s_call ajK H (wg H M M nY) M (aiU _ _ H.ro D d (hR.mono CW) hz) M ?_;rintro v42 XR a w rfl amG H;exact kH H (YC nY M<|Pt nY M<|ak K1 M<|LR results18 M fun H=>H.rt ⟨_,M,fun h=>by first|assumption|(simp_all;done)⟩)
      exact fun nY=>bJ nY M (Pf nY M<|ak K1 M<|LR results18 M fun H=>H.rt ⟨_,M,fun h=>by first|assumption|(simp_all;done)⟩)
     exact fun jr=>bJ jr M (Pf jr M<|Rm M<|bJ M M<|Pf M M<|ak K1 M<|LR results18 M fun H=>H.rt ⟨_,M,fun h=>by first|assumption|(simp_all;done)⟩)
    exact fun kD=>aU kD M (aU kD M<|Pf kD M<|Rm M<|bJ M M<|Pf M M<|Rm M<|bJ M M<|Pf M M<|ak K1 M<|LR results18 M fun H=>H.rt ⟨_,M,fun h=>by first|assumption|(simp_all;done)⟩)
   exact fun h23=>aU h23 M (aU h23 M<|Pf h23 M<|Rm M<|aU M M<|aU M M<|Pf M M<|Rm M<|bJ M M<|Pf M M<|Rm M<|bJ M M<|Pf M M<|ak K1 M<|LR results18 M fun H=>H.rt ⟨_,M,fun h=>by first|assumption|(simp_all;done)⟩)
  exact fun dL=>aU dL M (aU dL M<|Pf dL M<|Rm M<|aU M M<|aU M M<|Pf M M<|Rm M<|aU M M<|aU M M<|Pf M M<|Rm M<|bJ M M<|Pf M M<|Rm M<|bJ M M<|Pf M M<|ak K1 M<|LR results18 M fun H=>H.rt ⟨_,M,fun h=>by first|assumption|(simp_all;done)⟩)
 exact fun h11=>aU h11 M (aU h11 M<|Pf h11 M<|Rm M<|aU M M<|aU M M<|Pf M M<|Rm M<|aU M M<|aU M M<|Pf M M<|Rm M<|aU M M<|aU M M<|Pf M M<|Rm M<|bJ M M<|Pf M M<|Rm M<|bJ M M<|Pf M M<|ak K1 M<|LR results18 M fun H=>H.rt ⟨_,M,fun h=>by first|assumption|(simp_all;done)⟩)
theorem arD:Ty prog 51 3 24 [.int .i64 0,.int .i64 0,.int .i64 0] true:=⟨V,V⟩
theorem aar:aW 17:=aX func17 M
theorem axQ:aW 18:=aX func18 M
theorem axY:aW 19:=aX func19 M
theorem ayg:aW 20:=aX func20 M
theorem ajZ:aW 21:=aX func21 M
theorem akd:aW 23:=aX func23 M
theorem ayP:aW 26:=aX func26 M
theorem akv:OT prog 65 [(0,0),(1,0)]:=⟨V,V,V,V,V⟩
abbrev Fw(d:jq)(g:eU)(id:Int)(lb rb:List ah):jq:=nD (oV d g (jN 2 id ⟨#[]⟩) lb rb)
abbrev zU(d:jq)(g:eU)(id:Int)(lb rb:List ah)(nm:ByteArray)(g1:eU)(la r2:List ah):jq:=nD (oV (Fw d g id lb rb) g1 (jN 1 id nm) la r2)
theorem aeW{G:GH}{nm:ByteArray}{F f t id:Int}{x:aj}(h:av G (.sl 18<|Jl nm F f t id) x):∃(b o c:Nat)(s0 s1:Option Addr×Nat×Nat),x=.slice (some ⟨b,o,none⟩) 2 c∧
  (∀j u,(lg 11 F t<|bN s0)[j]?=some u->aJ G b (o+0*18+j)=some u)∧av G (.sl 11 ([jN 2 id ⟨#[]⟩].map ah.dat)) (bN s0)∧
  (∀j u,(lg 11 F f<|bN s1)[j]?=some u->aJ G b (o+1*18+j)=some u)∧av G (.sl 11 ([jN 1 id nm].map ah.dat)) (bN s1):=by
 obtain⟨A,n,c,rfl⟩:=h.form;have hn:n=2:=h.len;subst hn;obtain⟨b,o,cs,rfl,hcl,hrow,hr⟩:=h.at_ 0 _ M;obtain⟨b',o',cs',e,hcl',hrow',hr'⟩:=h.at_ 1 _ M
 injection e with e
 injection e with e1 e2 _
 subst e1;subst e2;obtain⟨v,rfl,hv⟩:=ajH hr;obtain⟨v',rfl,hv'⟩:=ajH hr';obtain⟨a1,a2,a3,rfl⟩:=hv.form;obtain⟨b1,b2,b3,rfl⟩:=hv'.form;exact⟨b,o,c,(a1,a2,a3),(b1,b2,b3),M,hrow,hv,hrow',hv'⟩
theorem ato{nm:ByteArray}{JR:Bool}{L:Option (List ah)}{f t Wt un:Int}(h:uf nm JR L f t Wt un=0):pq nm=true∧JR=false∧L.isSome=true∧0<=f∧f<=t∧t<=kL (L.getD [])∧Wt<=1073741824∧un<=16382:=by
 unfold uf at h
 split at h
 ·cases h
 split at h
 ·cases h
 split at h
 ·cases h
 split at h
 ·cases h
 split at h
 ·cases h
 split at h
 ·cases h
 refine⟨by simp_all,by simp_all,by cases L<;>simp_all,O,O,O,O,O⟩
theorem afQ {p:Prop} (h:p:=by
 exact kH H (ak K1 M (LR results4 M fun H=>H.rt (by first|rfl|exact iN (beq_self_eq_true _)|(simp_all;done))))):p:=h
theorem auq {p:Prop} (h:p:=by
 exact Ht HT Hb hG hv (VE bP dx) H M):p:=h
theorem aur {p:Prop} (h:p:=by
 exact Ht HT Hb hG hv (VF bP dx) H M):p:=h
theorem PD {p:Prop} (h:p:=by
 clear H;intro a H;refine aI ⟨M,?_⟩;exact auq):p:=h
theorem PE {p:Prop} (h:p:=by
 clear H;intro a H;refine aI ⟨M,?_⟩;exact aur):p:=h
theorem agE {p:Prop} (h:p:=by
 have Hb:=H.full;have H:=Hb;clear hc;refine bH jc 0 (vs:=[_,_,_,_,_,_,_,_,_,_,_]) H wn M ?_;clear H;intro w H;refine aI ⟨M,?_⟩;exact Y4):p:=h
theorem ahx {p:Prop} (h:p:=by
 refine Dp GA wY _ H (wg H M M M) M M M (by first|assumption|omega) rfl ?_;exact jD):p:=h
theorem ahy {p:Prop} (h:p:=by
 refine iE 8 68 M M fun _ a w G1 hG HT H fin=>?_;refine IQ H (wg H M M M) M M ?_;exact jD):p:=h
set_option maxHeartbeats 8000000 in
theorem aty(G:GH)(w0:World)(hG:Hold G w0)(D:jh)(d:jq)(hR:lH G D d)(hz:sM d)(hs:aR d.flow<=8388608)(nm:ByteArray)(F f t:Int) :
  Calls prog 4 #[D.val,.string nm,.agg #[vi F,vi f,vi t]] w0 (bD w0 G fun u G'=>u=.bool true):=by
 have FY:=hz.fl;have hml:maxLen=9223372036854775807:=rfl;refine eN [(0,_),(1,_),(2,_)] func4 M ntmps4 M M hG fun a H=>dw<|fun _ K1=>eD (cs:=[_,_,_,_,_,_,_,_,_,_,_]) H wn M M M fun b3 a w hb3 H=>eD (cs:=[_,_,_]) H wn M M M fun b5 a w hb5 H=>kH H<|ak K1 M<|SQ fun _ K2=>SQ fun _ K3=>?_;clear H K1;intro a H;obtain⟨Ga,hma,rE,H⟩:=H.eX;obtain⟨Gb,hmb,uq,H⟩:=H.eX;have hga:=fun j v hj=>lQ uq 0 D.cells M j v hj;have hgr:=fun j v hj=>aH hmb<|lQ rE 0 [vi F,vi f,vi t] M j v hj;replace hR:=(hR.mono hma).mono hmb;refine mF<|s_call aar H wn M (acM _ _ H.ro) M ?_;clear H;rintro v21 BZ a w rfl ny H;replace hR:=hR.mono ny;replace hga:=fun j v hj=>aH ny<|hga j v hj;replace hgr:=fun j v hj=>aH ny<|hgr j v hj;refine kH H (Rn M<|Rm M<|Sp 23 M ?_ ?_)<;>clear H
 ·intro h23 a H;exact absurd h23 Z
 intro h23 a H
 try have rH:=dF h23
 first
 |(exfalso;omega)
 |(exact absurd h23 Z)
 |skip
  refine aY jc (cs:=D.cells) H (wg H M M h23) M M (fun j v hj=>H.hp.aJ<|hga j v hj) M fun a H=>s_call axQ H (wg H M M h23) M (aHO _ _ H.ro D d hR hz) M ?_;clear H;rintro v25 OV a w ⟨b25,rfl,aBG⟩ qJ H;replace hR:=hR.mono qJ;replace hga:=fun j v hj=>aH qJ<|hga j v hj;replace hgr:=fun j v hj=>aH qJ<|hgr j v hj;refine kH H (YN h23 M<|Pf h23 M<|Rm M<|Sp 28 M ?_ ?_)<;>clear H
  ·intro eZ a H
   try have p28:=dT eZ
   first
   |(exfalso;omega)
   |(exact absurd eZ Z)
   |skip
    refine kH H<|bJ eZ M<|Pt eZ M<|Kn K3<|Ct M M<|SR fun _ K1=>fun a H=>s_call aar H wn M (acM _ _ H.ro) M ?_;clear H;rintro v33 LP a w rfl Ki H;exact afQ
  intro eZ a H
  try have p28:=dF eZ
  first
  |(exfalso;omega)
  |(exact absurd eZ Z)
  |skip
   refine kH H (YM eZ M fun a H=>Gj gZ H (wg H M M eZ) M M<|YC eZ M<|Pf eZ M<|Kn K3<|Cd M ?_ ?_)<;>clear H K3
   ·intro h32 a H
    try have p32:=dT h32
    first
    |(exfalso;omega)
    |(exact absurd h32 Z)
    |skip
     refine dw<|fun _ K1=>s_call aar H wn M (acM _ _ H.ro) M ?_;clear H;rintro v33 LP a w rfl Ki H;exact afQ
   intro h32 a H
   try have p32:=dF h32
   first
   |(exfalso;omega)
   |(exact absurd h32 Z)
   |skip
    refine fU<|K2 _ _<|bU<|fun _ K1=>?_
    have hc:jK d=0:=by first|exact aBG (by assumption)|(simp_all;done)
    have hok:=IG hc;have hI:fF d.mX true false 0 d.flow:=((Fp d).1 hc).2.2.1;obtain⟨hid,hcd⟩:=atL hI;have hnd:=atM hok;have anp:=aeo hI;have aDQ:=Xe _ _ _ _ _ hI;obtain⟨er,her⟩:∃er,er=uf nm (uW d.flow nm).isSome (iZ d.flow F) f t (uJ<|cB 0 0 d.flow) (gY d.flow:Nat):=⟨_,M⟩;refine mF<|aY jc (cs:=D.cells) H wn M M (fun j v hj=>H.hp.aJ<|hga j v hj) M<|Rm M fun a H=>aY arD (cs:=[vi F,vi f,vi t]) H wn M M (fun j v hj=>H.hp.aJ<|hgr j v hj) M fun a H=>s_call axY H wn M (atx _ _ H.ro D d.flow nm F f t hR.fl hok.ok O O hid) M ?_;clear H;rintro v38 OW a w ⟨x38,e38,rfl,abE,hx38,En⟩ CW H;rw[anp,<-her]at abE;rw[abE]at H hx38 En;clear abE;replace hR:=hR.mono CW;replace hga:=fun j v hj=>aH CW<|hga j v hj;replace hgr:=fun j v hj=>aH CW<|hgr j v hj;refine kH H<|Rm M ?_;clear H;intro a H;(iterate 2 refine iH H wn M M M ?_;clear H;intro a H);refine kH H<|Ra M<|bZ K1 M<|SR fun _ K2=>fun a H=>aY jc (cs:=D.cells) H wn M M (fun j v hj=>H.hp.aJ<|hga j v hj) M<|Rm M fun a H=>aY arD (cs:=[vi F,vi f,vi t]) H wn M M (fun j v hj=>H.hp.aJ<|hgr j v hj) M fun a H=>s_call ayg H wn M (aEQ _ _ H.ro D d.flow nm F f t hR.fl hok.ok O O hid hcd hnd) M ?_;clear H;rintro v45 SL a w ⟨x45,e45,rfl,abF,anE,xY⟩ Ig H;rw[aDQ,<-her]at abF;rw[abF]at H anE xY;clear abF;replace hR:=hR.mono Ig;replace hga:=fun j v hj=>aH Ig<|hga j v hj;replace hgr:=fun j v hj=>aH Ig<|hgr j v hj;replace En:=fun h0=>(En h0).mono Ig;refine kH H<|Rm M ?_;clear H;intro a H;(iterate 2 refine iH H wn M M M ?_;clear H;intro a H);refine kH H<|Ra M<|ak K2 M<|SQ fun _ K1=>SQ fun _ K3=>?_;clear H K2;intro a H
    have hfm:∃A B n k l,x38=.slice A n k∧x45=.slice B n l:=by
     by_cases h0:er=0
     ·obtain⟨A,n,k,rfl⟩:=(En h0).form;obtain⟨B,m,l,rfl⟩:=(xY h0).form;have h1:=(En h0).len;have h2:=(xY h0).len;exact⟨A,B,n,k,l,M,by rw[h1,h2]⟩
     exact⟨none,none,0,0,0,hx38 h0,anE h0⟩
    obtain⟨xA,xB,xn,xk,xl,rfl,rfl⟩:=hfm;refine kP H (SC<|Rm M<|Rm M<|Rc M<|Rm M<|Sp 51 M ?_ ?_)<;>clear H
    ·intro jE a H;exact absurd jE (by simp)
    intro jE a H
    try have p51:=dF jE
    first
    |(exfalso;omega)
    |(exact absurd jE Z)
    |skip
     refine kH H (YM jE M<|YL GA jE M<|YM jE M<|YL GA jE M<|YC jE M<|Pf jE M<|Kn K3<|Cd M ?_ ?_)<;>clear H K3
     ·intro h57 a H;exact absurd h57 (by simp)
     intro h57 a H
     try have p57:=dF h57
     first
     |(exfalso;omega)
     |(exact absurd h57 Z)
     |skip
      refine kP H (Kc K1<|SQ fun _ K2=>SR fun _ K3=>Rm M<|Rc M<|Kz K3<|Cd M ?_ ?_)<;>clear H K1 K3
      ·intro jv a H
       try have p59:=dT jv
       first
       |(exfalso;omega)
       |(exact absurd jv Z)
       |skip
        exact kP H (SR fun _ K1=>ak K1 M (LR results4 M fun H=>H.rt (by first|rfl|exact iN (beq_self_eq_true _)|(simp_all;done))))
      intro jv a H
      try have p59:=dF jv
      first
      |(exfalso;omega)
      |(exact absurd jv Z)
      |skip
       have h0:er=0:=by first|exact nL.1 p59|(simpa using p59)|omega
       subst h0;obtain⟨n1_,n2_,n3_,n4_,n5_,n6_,Wi,n8_⟩:=ato her.symm;obtain⟨L,hL⟩:=Option.isSome_iff_exists.1 n3_;rw[hL]at n6_;dsimp only[Option.getD_some]at n6_;obtain⟨g,hgf,rfl⟩:=nK.1 hL;have hgm:=List.mem_of_find?_eq_some hgf;have aCo:g.id=F:=mW<|List.find?_some (p:=fun f:eU=>decide<|f.id=F) hgf;subst aCo;have Q5:=UW hok.ok hL;have hzL:=aaU hL;have hln:kL g.items=bC g.items:=Q5.len;rw[hln]at n6_;obtain⟨fn,rfl⟩:∃k:Nat,f=k:=⟨f.toNat,O⟩;obtain⟨tn,rfl⟩:∃k:Nat,t=k:=⟨t.toNat,O⟩
       have htn:tn<=bC g.items:=by omega
       have hsu:=Nat.le_trans (Lb g.items)<|Dt g.items;obtain⟨id,hide⟩:∃i,i=uJ (cB 0 0 d.flow):=⟨_,M⟩;rw[<-hide]at En xY Wi;obtain⟨lb,rb,g1,la,r2,p,m,q,K⟩:=atv (f:=fn) (t:=tn) hc hz hs n1_ (by cases e:uW d.flow nm with|none=>rfl|some y=>rw[e]at n2_;cases n2_) hgm O htn hide Wi O;have hvn:=adf n1_
       have QK:1<=id:=by rw[hide];exact NU _ 1
       have hEa:wu (jN 2 id ⟨#[]⟩):=⟨2,id,_,M,QK,Wi,Z,Or.inr ⟨M,M⟩⟩;have hSa:wu (jN 1 id nm):=⟨1,id,_,M,QK,Wi,hvn.2.2,Or.inl ⟨M,n1_⟩⟩
       have h02:(0:Nat)<2:=by decide
       have h12:(1:Nat)<2:=by decide
       have hEz:=hEa.sz;have hSz:=hSa.sz
       have aCl:iZ (Fw d g id lb rb).flow g1.id=some g1.items:=by unfold iZ;rw[Qp (IG K.k1).ids K.m1];rfl
       have aCY:=UW (IG K.k1).ok aCl;obtain⟨AZ,Ew,c38,sE,sS,e38,hr0,he0,hr1,he1⟩:=aeW<|En M;obtain⟨b45,o45,ZV,tE,tS,e45,hs0,hf0,hs1,hf1⟩:=aeW<|xY M
       simp only[Value.slice.injEq]at e38 e45
       obtain⟨rfl,rfl,rfl⟩:=e38;obtain⟨rfl,-,rfl⟩:=e45;refine kP H<|Kc K2<|SQ fun _ K1=>SQ fun _ K3=>fun a H=>dI hmx [[],[0],[0,1],[],[3],[3,4],ra 0 6,ra 0 7,ra 0 8,ra 0 9,ra 0 10,ra 0 11,ra 0 9,ra 0 9++[12],(ra 0 9++[12,13]),ra 0 15,ra 0 16,ra 0 17] [] V [_,_,.agg (lg 11 g.id (tn:Nat)<|bN sE).toArray,_,_,.agg (lg 11 g.id (tn:Nat)<|bN tE).toArray,.bool true,_,_,.slice (some ⟨AZ,Ew,none⟩) 2 xk,(aK AZ<|Ew+1*18),.agg (lg 11 g.id (fn:Nat)<|bN sS).toArray,.slice (some ⟨b45,o45,none⟩) 2 xl,(aK b45<|o45+1*18),.agg (lg 11 g.id (fn:Nat)<|bN tS).toArray,.bool true,.bool false,_] H (aD (Z0 M<|Rm M) (Z1 0 60 M<|Ri GA wY M M) ?_ (Z0 M<|Rm M)<|aD (Z1 3 63 M<|Ri GA wY M M) ?_ ?_ (Z1 6 66 M<|Rn M)<|aD (Z1 7 67 M<|Rm M) ?_ ?_ ?_<|aD ?_ ?_ ?_ ?_<|bE ?_<|bE (Z2 8 68 16 76 M<|Pf M M) dz) ?_
       ·exact iE 1 61 M M fun _ a w G1 hG HT H fin=>aY wY (cs:=lg 11 g.id (tn:Nat)<|bN sE) H wn M M (fun j v hj=>H.hp.aJ<|aH hG<|hr0 j v hj) M jD
       ·exact iE 4 64 M M fun _ a w G1 hG HT H fin=>aY wY (cs:=lg 11 g.id (tn:Nat)<|bN tE) H wn M M (fun j v hj=>H.hp.aJ<|aH hG<|hs0 j v hj) M jD
       ·refine fu 2 62 5 65 M M fun _ a w G1 hG HT H fin=>s_call ajZ H wn M (aqy _ _ H.ro 11 g.id (tn:Nat) [jN 2 id ⟨#[]⟩] _ _ (he0.mono hG) (hf0.mono hG) (by rw[GN];omega)) rfl ?_;clear H;rintro v66 G66 a w rfl aA9 H;exact fin H aA9<|rfl
       ·exact ahy
       ·exact fu 9 69 8 68 M M fun _ a w G1 hG HT H fin=>ahx
       ·exact fu 10 70 8 68 M M fun _ a w G1 hG HT H fin=>aY wY (cs:=lg 11 g.id (fn:Nat)<|bN sS) H (wg H M M M) M M (fun j v hj=>H.hp.aJ<|aH hG<|hr1 j v hj) M jD
       ·exact ahy
       ·exact fu 12 72 8 68 M M fun _ a w G1 hG HT H fin=>ahx
       ·exact fu 13 73 8 68 M M fun _ a w G1 hG HT H fin=>aY wY (cs:=lg 11 g.id (fn:Nat)<|bN tS) H (wg H M M M) M M (fun j v hj=>H.hp.aJ<|aH hG<|hs1 j v hj) M jD
       ·refine xC 11 71 14 74 8 68 M M fun _ a w G1 hG HT H fin=>s_call ajZ H (wg H M M M) M (aqy _ _ H.ro 11 g.id (fn:Nat) [jN 1 id nm] _ _ (he1.mono hG) (hf1.mono hG) (by rw[GN];omega)) rfl ?_;clear H;rintro v75 G75 a w rfl aBf H;exact fin H aBf<|rfl
       ·exact fu 15 75 8 68 M M fun _ a w G1 hG HT H fin=>adP H (wg H M M M) M M jD
       clear H;intro a w G FM H hv;have H:=H.aQ (hv 17 77 M M) M;clear hv;refine aI ⟨M,K3 _ _<|jU H M ?_ ?_⟩
       ·intro wJ;exact absurd wJ Z
       intro wJ
       try have F9:=dF wJ
       first
       |(exfalso;omega)
       |(exact absurd wJ Z)
       |skip
        refine fU<|K1 _ _<|bU<|fun _ K1=>?_;replace hR:=hR.mono FM;replace hga:=fun j v hj=>aH FM<|hga j v hj;replace hgr:=fun j v hj=>aH FM<|hgr j v hj;replace hr0:=fun j v hj=>aH FM<|hr0 j v hj;replace hr1:=fun j v hj=>aH FM<|hr1 j v hj;replace he0:=he0.mono FM;replace he1:=he1.mono FM;refine kP H<|SC<|Rf wH M<|Rg eG M (hga 0 _ M)<|Rf HV M<|Rg aF M (hgr 0 _ M) fun a H=>s_call Uy H wn M (aoC _ _ H.ro g.id d.flow _ hR.fl hok.ok O) M ?_;clear H;rintro v83 G83 a w ⟨y83,rfl,zl⟩ Km H;rw[hL]at zl H;dsimp only[Option.getD_some,Option.isSome_some]at zl H;obtain⟨fA,fN,fC,rfl⟩:=zl.form;replace hR:=hR.mono Km;replace hga:=fun j v hj=>aH Km<|hga j v hj;replace hgr:=fun j v hj=>aH Km<|hgr j v hj;replace hr0:=fun j v hj=>aH Km<|hr0 j v hj;replace hr1:=fun j v hj=>aH Km<|hr1 j v hj;replace he0:=he0.mono Km;replace he1:=he1.mono Km;refine kH H<|Rm M ?_;clear H;intro a H;(iterate 2 refine iH H wn M M M ?_;clear H;intro a H);refine kH H<|Ra M<|bZ K1 M<|SQ fun _ K2=>?_;clear H K1;intro a H
        have VE:Yd (fun(bP:Nat)(dx:jh)(cu:Nat)(v:aj)(G:GH)=>match cu with|0=>v=.agg D.cells.toArray|1=>v=.slice (some ⟨AZ,Ew,none⟩) 2 xk|2=>v=(aK AZ<|Ew+0*18)|3=>v=.agg (lg 11 g.id (tn:Nat)<|bN sE).toArray|4=>v=.tuple #[dx.val,.bool true]∧lH G dx (Fw d g id lb rb)|5=>v=.tuple #[dx.val,.bool true]∧lH G dx (Fw d g id lb rb)|6=>v=dx.val∧lH G dx (Fw d g id lb rb)|7=>v=.bool true|8=>v=(aK bP 0)|_=>True):=by intro bP dx cu v G G' hm h;(iterate 11 (rcases cu with _|cu;(first|exact h|exact⟨h.1,h.2.mono hm⟩)));exact trivial
        refine aiL (κ:=jh) (D) (hmx) [[],[],[1],[1,2],ra 0 4,ra 0 5,ra 0 6,ra 0 6,[],ra 0 7++[8],ra 0 10] [10] V V 4 8 9 Z Z Z Z Z Z (.cells #[.slice none 0 0,.slice none 0 0,vi 0,vi 0,.slice none 0 0,.slice none 0 0,.slice none 0 0,.slice none 0 0,.slice none 0 0,.slice none 0 0,.slice none 0 0] 38 (0,0)) (fun k_=>.cells k_.cells.toArray 38 (0,0)) (fun(bP:Nat)(dx:jh)(cu:Nat)(v:aj)(G:GH)=>match cu with|0=>v=.agg D.cells.toArray|1=>v=.slice (some ⟨AZ,Ew,none⟩) 2 xk|2=>v=(aK AZ<|Ew+0*18)|3=>v=.agg (lg 11 g.id (tn:Nat)<|bN sE).toArray|4=>v=.tuple #[dx.val,.bool true]∧lH G dx (Fw d g id lb rb)|5=>v=.tuple #[dx.val,.bool true]∧lH G dx (Fw d g id lb rb)|6=>v=dx.val∧lH G dx (Fw d g id lb rb)|7=>v=.bool true|8=>v=(aK bP 0)|_=>True) (fun b b' k i v G hi hc h=>by(iterate 11 (rcases i with _|i;(first|exact h|exact absurd hi Z|exact absurd hc Z)));exact trivial) (fun b k k' i v G hi hc h=>by(iterate 11 (rcases i with _|i;(first|exact h|exact absurd hi Z|exact absurd hc Z)));exact trivial) H ?_ ?_ ?_ ?_ ?_ V
        ·clear H;refine aD ?_ ?_ ?_ ?_<|aD ?_ ?_ ?_ ?_<|bE ?_<|bE ?_<|bE ?_ dz
         ·intro bP dx gI aZ a w G1 gU _ _ _ _ aM hc hG HT hv;have H:=HT;clear aM;have Hb:=H.full;have H:=Hb;clear hc;exact aY jc (cs:=D.cells) H wn M M (fun j v hj=>H.hp.aJ<|aH hG<|hga j v hj) M PD
         ·intro bP dx gI aZ a w G1 gU _ _ _ _ aM hc hG HT hv;have H:=HT;clear aM;have Hb:=H.full;have H:=Hb;clear hc;exact kH H<|Rm M PD
         ·intro bP dx gI aZ a w G1 gU _ _ _ _ aM hc hG HT hv;have H:=HT;clear aM;have H:=H.aQ (hv 1 88 (hc 1 Z) M) M;have Hb:=H.full;have H:=Hb;clear hc;exact kH H<|Ri GA wY M M PD
         ·intro bP dx gI aZ a w G1 gU _ _ _ _ aM hc hG HT hv;have H:=HT;clear aM;have H:=H.aQ (hv 2 89 (hc 2 Z) M) M;have Hb:=H.full;have H:=Hb;clear hc;exact aY wY (cs:=lg 11 g.id (tn:Nat)<|bN sE) H wn M M (fun j v hj=>H.hp.aJ<|aH hG<|hr0 j v hj) M PD
         ·exact TQ
         ·intro bP dx gI aZ a w G1 gU _ _ _ _ aM hc hG HT hv;have H:=HT;clear aM;obtain⟨u91,aDO,amY⟩:=hv 4 91 (hc 4 Z) M;(try dsimp only at amY);obtain⟨rfl,abd⟩:=amY;have H:=H.fT aDO;have Hb:=H.full;have H:=Hb;clear hc;exact kH H<|Rm M fun a H=>aI ⟨M,qw V (VE bP dx) M M HT Hb hG hv (fun _ _ h=>h) (⟨M,abd⟩) H⟩
         ·intro bP dx gI aZ a w G1 gU _ _ _ _ aM hc hG HT hv;have H:=HT;clear aM;obtain⟨u86,Rz,BA⟩:=hv 5 86 (hc 5 Z) M;(try dsimp only at BA);obtain⟨rfl,alT⟩:=BA;have H:=H.fT Rz;have Hb:=H.full;have H:=Hb;clear hc;exact iH H wn M M M fun a H=>aI ⟨M,qw V (VE bP dx) M M HT Hb hG hv (fun _ _ h=>h) (⟨M,alT⟩) H⟩
         ·intro bP dx gI aZ a w G1 gU _ _ _ _ aM hc hG HT hv;have H:=HT;clear aM;obtain⟨u86,Rz,BA⟩:=hv 5 86 (hc 5 Z) M;(try dsimp only at BA);obtain⟨rfl,alT⟩:=BA;have H:=H.fT Rz;have Hb:=H.full;have H:=Hb;clear hc;exact iH H wn M M M PD
         ·intro _ _ _ _ _ _ _ _ _ _ hB;exact jC
         ·exact Zc
         exact Fg
        ·clear H;intro o_ bP gI aZ a w G1 gU kg _ hc hG HT hv;obtain rfl:_=o_:=Option.some.inj kg;clear kg;have H:=HT;have H:=H.aQ (hv (D) 0 87 Z (hc 0 Z) M) M;have H:=H.aQ (hv (D) 3 90 Z (hc 3 Z) M) M;have Hb:=H.full;have H:=Hb;clear hc;refine s_call akd H wn M (apC _ _ H.ro D d (hR.mono hG) hz hc g hgm (jN 2 id ⟨#[]⟩) hEa.wT O tn lb rb K.c1 htn g.id (tn:Nat) M M _ _ _ (he0.mono hG) Q5 O K.o1.Ug K.o1.z) M ?_;clear H;rintro v91 XU a w ⟨aey,rfl,abd⟩ aBj H;exact aI ⟨M,aey,Co V (VE bP<|aey) M HT Hb hG (fun j e h1 h2 h3=>hv _ j e h1 h2 h3) aBj (⟨M,abd⟩) H⟩
        ·clear H;intro o_ dx aZ a w G1 kg _ hc hG HT hv;obtain rfl:_=o_:=Option.some.inj kg;clear kg;have H:=HT;have Hb:=H.full;have H:=Hb;clear hc;exact dK jc H wn M fun b13 a w Qy H=>aI ⟨M,b13,Tx⟩
        ·clear H;intro o_ bP dx aZ a w G1 kg _ hc hG HT hv;obtain rfl:_=o_:=Option.some.inj kg;clear kg;have H:=HT;have H:=H.aQ (hv 8 13 (hc 8 Z) M) M;obtain⟨u92,acu,Rp⟩:=hv 6 92 (hc 6 Z) M;(try dsimp only at Rp);obtain⟨rfl,Vb⟩:=Rp;have H:=H.fT acu;exact agE
        clear H;intro b13 dx a w G pI H hv;have H:=H.aQ (hv 8 13 M M) M;obtain⟨u92,acu,Rp⟩:=hv 6 92 Z M;(try dsimp only at Rp);obtain⟨rfl,Vb⟩:=Rp;have H:=H.fT acu;have H:=H.aQ (hv 7 93 M M) M;clear hv;refine kH H<|Ra M fun a H=>aI ⟨M,K2 _ _<|bU<|fun _ K1=>?_⟩;obtain⟨E1,rfl⟩:∃x:jh,x=dx:=⟨_,M⟩;obtain⟨Gc,hmc,abo,H⟩:=H.eX;have hg1:=fun j v hj=>lQ abo 0 E1.cells M j v hj;replace Vb:=Vb.mono hmc;replace hmc:=fun(b:Nat)(o:Obj)(h:G83 b=some o)=>hmc b o<|pI b o h;replace hgr:=fun j v hj=>aH hmc<|hgr j v hj;replace hr1:=fun j v hj=>aH hmc<|hr1 j v hj;replace he1:=he1.mono hmc;replace zl:=zl.mono hmc
        have VF:Yd (fun(bP:Nat)(dx:jh)(cu:Nat)(v:aj)(G:GH)=>match cu with|0=>v=.agg E1.cells.toArray|1=>v=.slice (some ⟨AZ,Ew,none⟩) 2 xk|2=>v=(aK AZ<|Ew+1*18)|3=>v=.agg (lg 11 g.id (fn:Nat)<|bN sS).toArray|4=>v=.tuple #[dx.val,.bool true]∧lH G dx (zU d g id lb rb nm g1 la r2)|5=>v=.tuple #[dx.val,.bool true]∧lH G dx (zU d g id lb rb nm g1 la r2)|6=>v=dx.val∧lH G dx (zU d g id lb rb nm g1 la r2)|7=>v=.bool true|8=>v=(aK bP 0)|_=>True):=by intro bP dx cu v G G' hm h;(iterate 11 (rcases cu with _|cu;(first|exact h|exact⟨h.1,h.2.mono hm⟩)));exact trivial
        refine aiL (κ:=jh) (D) (hmx) [[],[],[1],[1,2],ra 0 4,ra 0 5,ra 0 6,ra 0 6,[],ra 0 7++[8],ra 0 10] [10] V V 4 8 9 Z Z Z Z Z Z (.cells #[.slice none 0 0,.slice none 0 0,vi 0,vi 0,.slice none 0 0,.slice none 0 0,.slice none 0 0,.slice none 0 0,.slice none 0 0,.slice none 0 0,.slice none 0 0] 38 (0,0)) (fun k_=>.cells k_.cells.toArray 38 (0,0)) (fun(bP:Nat)(dx:jh)(cu:Nat)(v:aj)(G:GH)=>match cu with|0=>v=.agg E1.cells.toArray|1=>v=.slice (some ⟨AZ,Ew,none⟩) 2 xk|2=>v=(aK AZ<|Ew+1*18)|3=>v=.agg (lg 11 g.id (fn:Nat)<|bN sS).toArray|4=>v=.tuple #[dx.val,.bool true]∧lH G dx (zU d g id lb rb nm g1 la r2)|5=>v=.tuple #[dx.val,.bool true]∧lH G dx (zU d g id lb rb nm g1 la r2)|6=>v=dx.val∧lH G dx (zU d g id lb rb nm g1 la r2)|7=>v=.bool true|8=>v=(aK bP 0)|_=>True) (fun b b' k i v G hi hc h=>by(iterate 11 (rcases i with _|i;(first|exact h|exact absurd hi Z|exact absurd hc Z)));exact trivial) (fun b k k' i v G hi hc h=>by(iterate 11 (rcases i with _|i;(first|exact h|exact absurd hi Z|exact absurd hc Z)));exact trivial) H ?_ ?_ ?_ ?_ ?_ V
        ·clear H;refine aD ?_ ?_ ?_ ?_<|aD ?_ ?_ ?_ ?_<|bE ?_<|bE ?_<|bE ?_ dz
         ·intro bP dx gI aZ a w G1 gU _ _ _ _ aM hc hG HT hv;have H:=HT;clear aM;have Hb:=H.full;have H:=Hb;clear hc;exact aY jc (cs:=E1.cells) H wn M M (fun j v hj=>H.hp.aJ<|aH hG<|hg1 j v hj) M PE
         ·intro bP dx gI aZ a w G1 gU _ _ _ _ aM hc hG HT hv;have H:=HT;clear aM;have Hb:=H.full;have H:=Hb;clear hc;exact kH H<|Rm M PE
         ·intro bP dx gI aZ a w G1 gU _ _ _ _ aM hc hG HT hv;have H:=HT;clear aM;have H:=H.aQ (hv 1 96 (hc 1 Z) M) M;have Hb:=H.full;have H:=Hb;clear hc;exact kH H<|Ri GA wY M M PE
         ·intro bP dx gI aZ a w G1 gU _ _ _ _ aM hc hG HT hv;have H:=HT;clear aM;have H:=H.aQ (hv 2 97 (hc 2 Z) M) M;have Hb:=H.full;have H:=Hb;clear hc;exact aY wY (cs:=lg 11 g.id (fn:Nat)<|bN sS) H wn M M (fun j v hj=>H.hp.aJ<|aH hG<|hr1 j v hj) M PE
         ·exact TQ
         ·intro bP dx gI aZ a w G1 gU _ _ _ _ aM hc hG HT hv;have H:=HT;clear aM;obtain⟨u99,aDP,amZ⟩:=hv 4 99 (hc 4 Z) M;(try dsimp only at amZ);obtain⟨rfl,abe⟩:=amZ;have H:=H.fT aDP;have Hb:=H.full;have H:=Hb;clear hc;exact kH H<|Rm M fun a H=>aI ⟨M,qw V (VF bP dx) M M HT Hb hG hv (fun _ _ h=>h) (⟨M,abe⟩) H⟩
         ·intro bP dx gI aZ a w G1 gU _ _ _ _ aM hc hG HT hv;have H:=HT;clear aM;obtain⟨u94,acv,Rq⟩:=hv 5 94 (hc 5 Z) M;(try dsimp only at Rq);obtain⟨rfl,alU⟩:=Rq;have H:=H.fT acv;have Hb:=H.full;have H:=Hb;clear hc;exact iH H wn M M M fun a H=>aI ⟨M,qw V (VF bP dx) M M HT Hb hG hv (fun _ _ h=>h) (⟨M,alU⟩) H⟩
         ·intro bP dx gI aZ a w G1 gU _ _ _ _ aM hc hG HT hv;have H:=HT;clear aM;obtain⟨u94,acv,Rq⟩:=hv 5 94 (hc 5 Z) M;(try dsimp only at Rq);obtain⟨rfl,alU⟩:=Rq;have H:=H.fT acv;have Hb:=H.full;have H:=Hb;clear hc;exact iH H wn M M M PE
         ·intro _ _ _ _ _ _ _ _ _ _ hB;exact jC
         ·exact Zc
         exact Fg
        ·clear H;intro o_ bP gI aZ a w G1 gU kg _ hc hG HT hv;obtain rfl:_=o_:=Option.some.inj kg;clear kg;have H:=HT;have H:=H.aQ (hv (D) 0 95 Z (hc 0 Z) M) M;have H:=H.aQ (hv (D) 3 98 Z (hc 3 Z) M) M;have Hb:=H.full;have H:=Hb;clear hc;refine s_call akd H wn M (apC _ _ H.ro E1 (Fw d g id lb rb) (Vb.mono hG) K.z1 K.k1 g1 K.m1 (jN 1 id nm) hSa.wT O fn la r2 K.c2 K.s1 g.id (fn:Nat) K.i1.symm M _ _ _ (he1.mono hG) aCY K.b1 K.o2.Ug K.o2.z) M ?_;clear H;rintro v99 G99 a w ⟨aez,rfl,abe⟩ aBl H;exact aI ⟨M,aez,Co V (VF bP<|aez) M HT Hb hG (fun j e h1 h2 h3=>hv _ j e h1 h2 h3) aBl (⟨M,abe⟩) H⟩
        ·clear H;intro o_ dx aZ a w G1 kg _ hc hG HT hv;obtain rfl:_=o_:=Option.some.inj kg;clear kg;have H:=HT;have Hb:=H.full;have H:=Hb;clear hc;exact dK jc H wn M fun b15 a w abq H=>aI ⟨M,b15,Tx⟩
        ·clear H;intro o_ bP dx aZ a w G1 kg _ hc hG HT hv;obtain rfl:_=o_:=Option.some.inj kg;clear kg;have H:=HT;have H:=H.aQ (hv 8 15 (hc 8 Z) M) M;obtain⟨aIp,acn,Q6⟩:=hv 6 100 (hc 6 Z) M;(try dsimp only at Q6);obtain⟨rfl,Ed⟩:=Q6;have H:=H.fT acn;exact agE
        clear H;intro b15 dx a w G xU H hv;have H:=H.aQ (hv 8 15 M M) M;obtain⟨aIp,acn,Q6⟩:=hv 6 100 Z M;(try dsimp only at Q6);obtain⟨rfl,Ed⟩:=Q6;have H:=H.fT acn;have H:=H.aQ (hv 7 101 M M) M;clear hv;refine kH H<|Ra M fun a H=>aI ⟨M,K1 _ _<|bU<|fun _ K1=>?_⟩;obtain⟨E2,rfl⟩:∃x:jh,x=dx:=⟨_,M⟩;obtain⟨Gd,hmd,abr,H⟩:=H.eX;have hg2:=fun j v hj=>lQ abr 0 E2.cells M j v hj;replace Ed:=Ed.mono hmd;replace hmd:=fun(b:Nat)(o:Obj)(h:Gc b=some o)=>hmd b o<|xU b o h;replace hgr:=fun j v hj=>aH hmd<|hgr j v hj;replace zl:=zl.mono hmd;have hok2:=IG K.k2;have hzk:=K.z2.fl;refine mF<|aY jc (cs:=E2.cells) H wn M M (fun j v hj=>H.hp.aJ<|hg2 j v hj) M<|Rm M fun a H=>s_call Uz H wn M (Ta _ _ H.ro E2 _ nm Ed.fl hok2.ok hzk) M ?_;clear H;rintro v105 aJp a w rfl Vr H;rw[K.JR]at H;dsimp only[Option.getD_some,Option.isSome_some]at H;replace Ed:=Ed.mono Vr;replace hg2:=fun j v hj=>aH Vr<|hg2 j v hj;replace hgr:=fun j v hj=>aH Vr<|hgr j v hj;replace zl:=zl.mono Vr;refine kH H<|Rm M ?_;clear H;intro a H;(iterate 2 refine iH H wn M M M ?_;clear H;intro a H);refine dK mQ H wn M fun b17 a w ami H=>bH mQ 0 (vs:=[_,_,_,_,_,_]) H wn M fun w H=>kH H<|bZ K1 M<|SR fun _ K2=>fun a H=>aY jc (cs:=E2.cells) H wn M M (fun j v hj=>H.hp.aJ<|hg2 j v hj) M<|Rm M fun a H=>s_call akg H wn M (atZ _ _ H.ro E2 _ nm Ed.fl hok2 hzk _ K.JR p m q K.fl (UW hok2.ok K.fl) K.lo K.hi) M ?_;clear H;rintro aKO aJr a w rfl Vs H;replace Ed:=Ed.mono Vs;replace hg2:=fun j v hj=>aH Vs<|hg2 j v hj;replace hgr:=fun j v hj=>aH Vs<|hgr j v hj;replace zl:=zl.mono Vs;refine kH H<|Rm M ?_;clear H;intro a H;(iterate 2 refine iH H wn M M M ?_;clear H;intro a H);refine kH H (Ra M<|ak K2 M<|SR fun _ K1=>Rm M<|Rm M<|Sp 115 M ?_ ?_)<;>clear H K2
        ·intro Ec a H
         try have Wy:=dT Ec
         first
         |(exfalso;omega)
         |(exact absurd Ec Z)
         |skip
          refine kH H (YM Ec M<|Pt Ec M<|Rm M<|Sp 118 M ?_ ?_)<;>clear H
          ·intro H9 a H
           try have aKF:=dT H9
           first
           |(exfalso;omega)
           |(exact absurd H9 Z)
           |skip
            refine aY jc (cs:=E2.cells) H (wg H M M H9) M M (fun j v hj=>H.hp.aJ<|hg2 j v hj) M fun a H=>s_call ajK H (wg H M M H9) M (aiU _ _ H.ro E2 _ Ed K.z2) M ?_;clear H;rintro aIL asL a w rfl amA H;rw[K.k2]at H;replace hgr:=fun j v hj=>aH amA<|hgr j v hj;replace zl:=zl.mono amA;refine kH H (YC H9 M<|Pt H9 M<|Rm M<|Sp 123 M ?_ ?_)<;>clear H
            ·intro M4 a H
             try have aKG:=dT M4
             first
             |(exfalso;omega)
             |(exact absurd M4 Z)
             |skip
              refine kH H (YM M4 M<|Pt M4 M<|Rm M<|Sp 126 M ?_ ?_)<;>clear H
              ·intro M5 a H
               try have aKH:=dT M5
               first
               |(exfalso;omega)
               |(exact absurd M5 Z)
               |skip
                refine kH H (YM M5 M<|Pt M5 M<|Rm M<|Sp 129 M ?_ ?_)<;>clear H
                ·intro yS a H
                 try have aKJ:=dT yS
                 first
                 |(exfalso;omega)
                 |(exact absurd yS Z)
                 |skip
                  refine kH H (YF Ac yS M fun a H=>aY DF (cs:=[_,_]) H (wg H M M yS) M M (H.hp.dB 0 M M) M<|YF HV yS M<|YR aF yS M (hgr 0 _ M)<|YF Ab yS M<|YR aF yS M (hgr 1 _ M) fun a H=>EC _ H (wg H M M yS) M M M O O M fun a H=>jM Sb [_,_] H (wg H M M yS) M M M M fun a H=>adM akv H (wg H M M yS) M M M M<|Pt yS M<|Rm M<|Sp 140 M ?_ ?_)<;>clear H
                  ·intro yT a H
                   try have aKK:=dT yT
                   first
                   |(exfalso;omega)
                   |(exact absurd yT Z)
                   |skip
                    refine kH H (YF HZ yT M fun a H=>aY DF (cs:=[_,_]) H (wg H M M yT) M M (H.hp.dB 0 M M) M<|YF HV yT M<|YR aF yT M (hgr 0 _ M)<|YF Cv yT M<|YR aF yT M (hgr 2 _ M) fun a H=>EC _ H (wg H M M yT) M M M O O M fun a H=>jM Sb [_,_] H (wg H M M yT) M M M M fun a H=>adM akv H (wg H M M yT) M M M M<|Pt yT M<|Rm M<|Sp 151 M ?_ ?_)<;>clear H
                    ·intro Ae a H
                     try have aKM:=dT Ae
                     first
                     |(exfalso;omega)
                     |(exact absurd Ae Z)
                     |skip
                      refine kH H<|YM Ae M<|YM Ae M<|YF Ab Ae M<|YR aF Ae M (hgr 1 _ M)<|YF Cv Ae M<|YR aF Ae M (hgr 2 _ M) fun a H=>s_call ayP H (wg H M M Ae) M (aEY _ _ H.ro g.items fn tn O O _ zl Q5 O) M ?_;clear H;rintro aKQ aJs a w rfl aKg H;rw[<-K.txt]at H;exact BN H (wg H M M Ae) M M M (Pt Ae M (ak K1 M (LR results4 M fun H=>H.rt (by first|rfl|exact iN (beq_self_eq_true _)|(simp_all;done)))))
                    intro Ae a H;exact absurd Ae (by simp[jW,lq])
                  intro yT a H;exact absurd yT (by simp[jW,lq])
                intro yS a H;exact absurd yS Z
              intro M5 a H;exact absurd M5 Z
            intro M4 a H;exact absurd M4 Z
          intro H9 a H;exact absurd H9 Z
        intro Ec a H;exact absurd Ec Z
section
open Go.ChangeShapes Go.RowKit Go.Deep
abbrev tF(W:World):GH:=fun k=>W.heap[k]?
theorem aAK{W:World}{b o:Nat}{v:aj}(h:W.cell? ⟨b,o,none⟩=some v):aJ (tF W) b o=some v:=by
 unfold World.cell? at h
 unfold aJ tF
 split at h
 ·rename_i c e f hh
  simp only at hh
  rw[hh];simpa using h
 cases h
theorem aol{α:Type}{p:Nat->α->Prop}:∀n:Nat,(∀i,i<n->∃x,p i x)->∃l:List α,l.length=n∧∀i x,l[i]?=some x->p i x
 |0,_=>⟨[],M,fun i x h=>by simp at h⟩
 |n+1,h=>by
  obtain⟨l,hl,hp⟩:=aol n<|fun i hi=>h i O;obtain⟨x,hx⟩:=h n O;refine⟨l++[x],by simp[hl],fun i y hy=>?_⟩
  by_cases hi:i<l.length
  ·exact hp i y (by rwa[xH hi]at hy)
  rw[uQ O]at hy
  have hin:i-l.length=0:=by
   have:=(jJ.1 hy).1
   simp at this;omega
  rw[hin]at hy
  simp only[Cg,oW]at hy
  subst hy;rw[show i=n by omega];exact hx
theorem auU{H:Type}(d:DataW H):1<=Rows.uptoBulk d:=by
 cases d<;>(try simp only[Rows.uptoBulk])<;>(try omega)
 rename_i x;cases x<;>simp only[Rows.uptoBulk]<;>omega
theorem aiJ{H ρ:Type}{dat:ρ->List Dat}:∀(rs:List ρ)(D:Nat->DataW H),(∀i r,rs[i]?=some r->bY (dat r)+1<=8*Rows.uptoBulk (D i))->fE (rs.map dat)<=8*Rows.uptoBulkAll ((List.range rs.length).map D)
 |[],D,_=>fP _
 |r::rs,D,h=>by
  have h0:=h 0 r M;have hp:=auU<|D 0;have ih:=aiJ rs (fun i=>D<|i+1) (fun i r hr=>h (i+1) r (by simpa using hr));rw[lK,List.range_succ_eq_map]
  simp only[dV,List.map_map,fE,Rows.uptoBulkAll]
  have e:(List.map (D∘Nat.succ)<|List.range rs.length)=(List.map (fun i=>D<|i+1)<|List.range rs.length):=rfl;rw[e];omega
theorem aiI{H:Type}{D:Nat->DataW H}:∀{n i:Nat},i<n->Rows.uptoBulk (D i)<=Rows.uptoBulkAll ((List.range n).map D)
 |0,i,h=>absurd h O
 |n+1,i,h=>by
  have key:∀(l m:List (DataW H)),Rows.uptoBulkAll (l++m)=Rows.uptoBulkAll l+Rows.uptoBulkAll m:=by
   intro l m
   induction l with
   |nil=>simp[Rows.uptoBulkAll]
   |cons x l ih=>simp only[jl,Rows.uptoBulkAll,ih];omega
  rw[List.range_succ,iy,key]
  by_cases hi:i<n
  ·have:=aiI (D:=D) hi;omega
  have:i=n:=by omega
  subst this
  simp only[dV,ug,Rows.uptoBulkAll];omega
section
variable{H:Type}{enc:TypeId×aj->H}{P:Program}{W:World}{base:Nat}{spare:Nat->Bool}{held:Bool}
theorem yw{ρ:Type}{dat:ρ->List Dat}{t e:TypeId}{sz:Nat}(hsz:0<sz){fuel:Nat}{cs:List aj}{x:DataW H×List MemPlace}(ht:P.underlying t=some (.slice e))(hc:P.cellsOf e=sz)(h:DataW.trod enc P W base spare held fuel t cs=some x)
  (row:∀n cs' D Pl,DataW.trod enc P W base spare held n e cs'=some (D,Pl)->Rows.uptoBulk D<Rows.uptoBulk x.1->∃r:ρ,bg (tF W) (dat r) cs'∧bY (dat r)+1<=8*Rows.uptoBulk D) :
  ∃(rs:List ρ)(v:aj),cs=[v]∧av (tF W) (.sl sz<|rs.map dat) v∧fE (rs.map dat)+8<=8*Rows.uptoBulk x.1:=by
 rcases open_slice ht h with⟨rfl,rfl⟩|⟨a,len,cap,m,n,D,Pl,rfl,hb,hl,hm,hmm,rfl,hx⟩
 ·exact⟨[],_,M,av.nT M Z,by simp[fE,Rows.uptoBulk]⟩
 obtain⟨rs,hrl,hrs⟩:=aol (p:=fun i(r:ρ)=>∃cs',W.cells? base (a.add<|i*sz) sz=some cs'∧bg (tF W) (dat r) cs'∧bY (dat r)+1<=8*Rows.uptoBulk (D i)) len (fun i hi=>by
  have him:i<m:=by rw[hmm];split <;>omega
  obtain⟨cs',h1,h2⟩:=hx i him;rw[hc]at h1;have hb1:=aiI (D:=D) hi;obtain⟨r,hr1,hr2⟩:=row n cs' (D i) (Pl i) h2 (by simp only[Rows.uptoBulk];omega)
  exact⟨r,cs',h1,hr1,hr2⟩)
 refine⟨rs,_,M,?_,?_⟩
 ·simp only[av,bM]
  refine⟨some a,cap,by rw[hrl],O,hm,fun hne=>?_⟩;obtain⟨b,off,spot⟩:=a
  have hlen:0<rs.length:=by cases rs with|nil=>simp at hne|cons _ _=>simp
  obtain⟨cs0,h1,-,-⟩:=hrs 0 rs[0]<|gF hlen;obtain⟨-,hl0,hg0⟩:=World.cells?_some h1
  have hspot:spot=none:=by
   have h3:=hg0 0 hsz;rw[gF O]at h3
   simpa[Addr.add]using World.cell?_spot h3
  subst hspot;refine⟨b,off,M,nV.mk fun k r hk=>?_⟩;rw[ql]at hk;obtain⟨y,hy,rfl⟩:=nK.1 hk;obtain⟨cs',h2,h3,-⟩:=hrs k y hy;obtain⟨-,hl1,hg1⟩:=World.cells?_some h2;refine⟨cs',hl1,fun j u hj=>aAK ?_,h3⟩
  have hj2:j<sz:=by rw[<-hl1];exact(jJ.1 hj).1
  have:=hg1 j hj2;rw[add_add,Go.WideShapes.add_plain]at this;rw[show off+k*sz+j=off+(k*sz+j) by omega,this];exact hj
 have:=aiJ rs D<|fun i r hr=>(hrs i r hr).choose_spec.2.2;rw[hrl]at this
 simp only[Rows.uptoBulk];omega
end
structure uO(P:Program)(t:TypeId)(sz:Nat)(fs:List (TypeId×Nat×Nat)):Prop where
 und:P.underlying t=some (.struct (P.fieldsOf t))
 cells:P.cellsOf t=sz
 yR:(P.fieldsOf t).toList.map (fun f=>(f.type,f.offset,P.cellsOf f.type))=fs
theorem vT{P:Program}{H:Type}{enc:TypeId×aj->H}{W:World}{base:Nat}{spare:Nat->Bool}{held:Bool}{t:TypeId}{sz fuel:Nat}{fs:List (TypeId×Nat×Nat)}{cs:List aj}{x:DataW H×List MemPlace}(hs:uO P t sz fs)(h:DataW.trod enc P W base spare held fuel t cs=some x) :
  ∃(xs:List (DataW H×List MemPlace))(n:Nat),x.1=.agg (xs.map (·.1))∧cs.length=sz∧xs.length=fs.length∧∀(i:Nat)(ti:TypeId)(off k:Nat),fs[i]?=some (ti,off,k)->DataW.trod enc P W base spare held n ti ((cs.drop off).take k)=xs[i]?:=by
 obtain⟨xs,n,-,rfl,hl,hxl,hf⟩:=DataW.trod_struct hs.und h;refine⟨xs,n,M,by rw[hl,hs.cells],by rw[hxl,<-hs.yR];simp,fun i ti off k hi=>?_⟩;rw[<-hs.yR,ql]at hi;obtain⟨f,hf1,hf2⟩:=nK.1 hi
 simp only[jd]at hf2
 obtain⟨rfl,rfl,rfl⟩:=hf2;exact hf i f (by simpa using hf1)
section
variable{H:Type}{enc:TypeId×aj->H}{W:World}{base:Nat}{spare:Nat->Bool}{held:Bool}
theorem aHC:uO prog 185 2 [(3,0,1),(3,1,1)]:=⟨V,V,V⟩
theorem apH{n:Nat}{cs:List aj}{D:DataW H}{Pl:List MemPlace}(h:DataW.trod enc prog W base spare held n 185 cs=some (D,Pl)):∃r:jy,bg (tF W) r.dat cs∧bY r.dat+1<=8*Rows.uptoBulk D:=by
 obtain⟨xs,m,hx,hl,hxl,hf⟩:=vT aHC h
 match cs,hl,xs,hxl with
 |[c0,c1],_,[y0,y1],_=>
  have h0:=hf 0 _ _ _ M;have h1:=hf 1 _ _ _ M;obtain⟨k0,e0,d0,-⟩:=DataW.trod_int underlying3 h0;obtain⟨k1,e1,d1,-⟩:=DataW.trod_int underlying3 h1
  simp at e0 e1
  subst e0 e1
  simp only at hx
  refine⟨⟨k0,k1⟩,?_,?_⟩
  ·simp[bg,jy.dat,av,Value.oneCell']
  rw[hx];simp[d0,d1,jy.dat,bY,oz,Rows.uptoBulk,Rows.uptoBulkAll]
theorem aHv:uO prog 188 2 [(3,0,1),(3,1,1)]:=⟨V,V,V⟩
theorem aF9{n:Nat}{cs:List aj}{D:DataW H}{Pl:List MemPlace}(h:DataW.trod enc prog W base spare held n 188 cs=some (D,Pl)):∃r:kS,bg (tF W) r.dat cs∧bY r.dat+1<=8*Rows.uptoBulk D:=by
 obtain⟨xs,m,hx,hl,hxl,hf⟩:=vT aHv h
 match cs,hl,xs,hxl with
 |[c0,c1],_,[y0,y1],_=>
  have h0:=hf 0 _ _ _ M;have h1:=hf 1 _ _ _ M;obtain⟨k0,e0,d0,-⟩:=DataW.trod_int underlying3 h0;obtain⟨k1,e1,d1,-⟩:=DataW.trod_int underlying3 h1
  simp at e0 e1
  subst e0 e1
  simp only at hx
  refine⟨⟨k0,k1⟩,?_,?_⟩
  ·simp[bg,kS.dat,av,Value.oneCell']
  rw[hx];simp[d0,d1,kS.dat,bY,oz,Rows.uptoBulk,Rows.uptoBulkAll]
theorem aHy:uO prog 190 4 [(3,0,1),(3,1,1),(3,2,1),(4,3,1)]:=⟨V,V,V⟩
theorem aGc{n:Nat}{cs:List aj}{D:DataW H}{Pl:List MemPlace}(h:DataW.trod enc prog W base spare held n 190 cs=some (D,Pl)):∃r:ku,bg (tF W) r.dat cs∧bY r.dat+1<=8*Rows.uptoBulk D:=by
 obtain⟨xs,m,hx,hl,hxl,hf⟩:=vT aHy h
 match cs,hl,xs,hxl with
 |[c0,c1,c2,c3],_,[y0,y1,y2,y3],_=>
  have h0:=hf 0 _ _ _ M;have h1:=hf 1 _ _ _ M;have h2:=hf 2 _ _ _ M;have h3:=hf 3 _ _ _ M;obtain⟨k0,e0,d0,-⟩:=DataW.trod_int underlying3 h0;obtain⟨k1,e1,d1,-⟩:=DataW.trod_int underlying3 h1;obtain⟨k2,e2,d2,-⟩:=DataW.trod_int underlying3 h2;obtain⟨k3,e3,d3⟩:=DataW.trod_bool underlying4 h3
  simp at e0 e1 e2 e3
  subst e0 e1 e2 e3
  simp only at hx
  refine⟨⟨k0,k1,k2,k3⟩,?_,?_⟩
  ·simp[bg,ku.dat,av,Value.oneCell']
  rw[hx];simp[d0,d1,d2,d3,ku.dat,bY,oz,Rows.uptoBulk,Rows.uptoBulkAll]
theorem aHB:uO prog 27 4 [(3,0,1),(3,1,1),(24,2,1),(25,3,1)]:=⟨V,V,V⟩
theorem aHw:uO prog 29 5 [(23,0,1),(27,1,4)]:=⟨V,V,V⟩
theorem aiQ:prog.cellsOf 185=2:=by kernel_rfl
theorem avo:prog.cellsOf 188=2:=by kernel_rfl
theorem avp:prog.cellsOf 190=4:=by kernel_rfl
theorem WJ{n:Nat}{cs:List aj}{x:DataW H×List MemPlace}(h:DataW.trod enc prog W base spare held n 29 cs=some x):∃(r:fI)(p d l:aj),cs=[p,vi r.marks.ins,vi r.marks.move,d,l]∧kr (tF W) r p d l∧oF r+15<=8*Rows.uptoBulk x.1:=by
 obtain⟨xs,m,hx,hl,hxl,hf⟩:=vT aHw h
 match cs,hl,xs,hxl with
 |[c0,c1,c2,c3,c4],_,[y0,y1],_=>
  have h0:=hf 0 _ _ _ M;have h1:=hf 1 _ _ _ M;obtain⟨ps,pv,e0,rp,sp⟩:=yw (dat:=jy.dat) (sz:=2) O underlying23 aiQ h0<|fun n cs' D Pl hh _=>apH hh;obtain⟨zs,m2,hz,hzl,hzx,FY⟩:=vT aHB h1
  match zs,hzx with
  |[z0,z1,z2,z3],_=>
   have g0:=FY 0 _ _ _ M;have g1:=FY 1 _ _ _ M;have g2:=FY 2 _ _ _ M;have g3:=FY 3 _ _ _ M;obtain⟨k0,e1,d0,-⟩:=DataW.trod_int underlying3 g0;obtain⟨k1,e2,d1,-⟩:=DataW.trod_int underlying3 g1;obtain⟨ds,dv,e3,rd,sd⟩:=yw (dat:=kS.dat) (sz:=2) O underlying24 avo g2<|fun n cs' D Pl hh _=>aF9 hh;obtain⟨ls,lv,e4,rl,sl⟩:=yw (dat:=ku.dat) (sz:=4) O underlying25 avp g3<|fun n cs' D Pl hh _=>aGc hh
   simp at e0 e1 e2 e3 e4
   subst e0 e1 e2 e3 e4;refine⟨⟨ps,⟨k0,k1,ds,ls⟩⟩,_,_,_,M,⟨rp,rd,rl⟩,?_⟩;have hzh:=Sy ⟨ps,⟨k0,k1,ds,ls⟩⟩
   simp only at hzh
   rw[hx]
   simp only[dV,ug,Rows.uptoBulk,Rows.uptoBulkAll,hz,d0,d1]
   omega
theorem aHx:uO prog 118 11 [(3,0,1),(3,1,1),(3,2,1),(9,3,1),(29,4,5),(22,9,1),(56,10,1)]:=⟨V,V,V⟩
theorem aHD:uO prog 121 6 [(29,0,5),(57,5,1)]:=⟨V,V,V⟩
theorem aHt:uO prog 124 7 [(3,0,1),(29,1,5),(22,6,1)]:=⟨V,V,V⟩
theorem ZY:prog.cellsOf 118=11:=by kernel_rfl
theorem avs:prog.cellsOf 121=6:=by kernel_rfl
theorem avm:prog.cellsOf 124=7:=by kernel_rfl
theorem Y9 {p:Prop} (h:p:=by
 simp only [dV,ug,Rows.uptoBulk,Rows.uptoBulkAll]):p:=h
theorem apG:∀ (N:Nat) (n:Nat) (cs:List aj) (D:DataW H) (Pl:List MemPlace),DataW.trod enc prog W base spare held n 118 cs=some (D,Pl)->Rows.uptoBulk D < N->∃ r:ah,bg (tF W) r.dat cs∧bY r.dat+1<=8*Rows.uptoBulk D
 | 0,_,_,_,_,_,hN=>absurd hN O
 | N+1,n,cs,D,Pl,h,hN=>by
  have ih:=apG N;obtain ⟨xs,m,hx,hl,hxl,hf⟩:=vT aHx h
  match cs,hl,xs,hxl with
  | [c0,c1,c2,c3,c4,c5,c6,c7,c8,c9,c10],_,[y0,y1,y2,y3,y4,y5,y6],_ =>
   have h0:=hf 0 _ _ _ M;have h1:=hf 1 _ _ _ M;have h2:=hf 2 _ _ _ M;have h3:=hf 3 _ _ _ M;have h4:=hf 4 _ _ _ M;have h5:=hf 5 _ _ _ M;have h6:=hf 6 _ _ _ M
   simp only at hx
   have hD:Rows.uptoBulk D=Rows.uptoBulk y0.1+(Rows.uptoBulk y1.1+(Rows.uptoBulk y2.1+(Rows.uptoBulk y3.1+(Rows.uptoBulk y4.1+(Rows.uptoBulk y5.1+(Rows.uptoBulk y6.1+0))))))+1:=by
    rw [hx];exact Y9
   obtain ⟨k0,e0,d0,-⟩:=DataW.trod_int underlying3 h0;obtain ⟨k1,e1,d1,-⟩:=DataW.trod_int underlying3 h1;obtain ⟨k2,e2,d2,-⟩:=DataW.trod_int underlying3 h2;obtain ⟨s,e3,d3,-⟩:=DataW.trod_string underlying9 h3;obtain ⟨hd,p,d,l,e4,rh,sh⟩:=WJ h4;obtain ⟨fl,fv,e5,rf,sf⟩:=yw (dat:=ah.dat) (sz:=11) O underlying22 ZY h5 (fun n cs' D' dH hh hlt=>ih n cs' D' dH hh O)
   obtain ⟨rs,rv,e6,rr,sr⟩:=yw (dat:=aN.dat) (sz:=6) O underlying56 avs h6 (fun n cs' D' dH hh hlt=>by
    obtain ⟨xs,m,hx,hl,hxl,hf⟩:=vT aHD hh
    match cs',hl,xs,hxl with
    | [a0,a1,a2,a3,a4,a5],_,[w0,w1],_ =>
     have g0:=hf 0 _ _ _ M;have g1:=hf 1 _ _ _ M
     simp only at hx
     have hD':Rows.uptoBulk D'=Rows.uptoBulk w0.1+(Rows.uptoBulk w1.1+0)+1:=by
      rw [hx];exact Y9
     obtain ⟨hd2,p2,d2',l2,q0,rh2,sh2⟩:=WJ g0
     obtain ⟨cl,cv,q1,rc,sc⟩:=yw (dat:=aP.dat) (sz:=7) O underlying57 avm g1 (fun n cs'' D'' aJu Kg hlt2=>by
      obtain ⟨xs,m,hx2,hl2,aDV,hf2⟩:=vT aHt Kg
      match cs'',hl2,xs,aDV with
      | [b0,b1,b2,b3,b4,b5,b6],_,[v0,v1,v2],_ =>
       have u0:=hf2 0 _ _ _ M;have u1:=hf2 1 _ _ _ M;have u2:=hf2 2 _ _ _ M
       simp only at hx2
       have aJH:Rows.uptoBulk D''=Rows.uptoBulk v0.1+(Rows.uptoBulk v1.1+(Rows.uptoBulk v2.1+0))+1:=by
        rw [hx2];exact Y9
       obtain ⟨j0,t0,z0,-⟩:=DataW.trod_int underlying3 u0;obtain ⟨hd3,p3,d3',l3,t1,rh3,sh3⟩:=WJ u1;obtain ⟨fl3,fv3,t2,rf3,sf3⟩:=yw (dat:=ah.dat) (sz:=11) O underlying22 ZY u2 (fun n cs3 D3 Pl3 hh3 hlt3=>ih n cs3 D3 Pl3 hh3 O)
       simp at t0 t1 t2
       obtain ⟨rfl,rfl,rfl,rfl,rfl⟩:=t1;subst t0 t2;have hz:=AU (aP.mk j0 hd3 fl3)
       simp only [aP.head,aP.flow] at hz
       have bz:Rows.uptoBulk v0.1=1:=by rw [z0];rfl
       exact ⟨aP.mk j0 hd3 fl3,bg.V7 (x:=aP.mk j0 hd3 fl3) rh3 rf3,by simp only [aR] at hz;omega⟩)
     simp at q0 q1
     obtain ⟨rfl,rfl,rfl,rfl,rfl⟩:=q0;subst q1;have hz:=zC (aN.mk hd2 cl)
     simp only [aN.head,aN.cells] at hz
     exact ⟨aN.mk hd2 cl,bg.V8 (x:=aN.mk hd2 cl) rh2 rc,by simp only [iU] at hz;omega⟩)
   simp at e0 e1 e2 e3 e4 e5 e6
   obtain ⟨rfl,rfl,rfl,rfl,rfl⟩:=e4;subst e0 e1 e2 e3 e5 e6;have hz:=lY (ah.mk k0 k1 k2 s hd fl rs)
   simp only [ah.text,ah.head,ah.flow,ah.rows] at hz
   have b0:Rows.uptoBulk y0.1=1:=by rw [d0];rfl
   have b1:Rows.uptoBulk y1.1=1:=by rw [d1];rfl
   have b2:Rows.uptoBulk y2.1=1:=by rw [d2];rfl
   have b3:Rows.uptoBulk y3.1=s.size+1:=by rw [d3];show s.data.toList.length+1=s.data.size+1;rw [sQ]
   exact ⟨ah.mk k0 k1 k2 s hd fl rs,bg.mkItem (x:=ah.mk k0 k1 k2 s hd fl rs) rh rf rr,by simp only [aR,gB] at hz;omega⟩
theorem aGb{n:Nat}{cs:List aj}{x:DataW H×List MemPlace}(h:DataW.trod enc prog W base spare held n 22 cs=some x):∃(l:List ah)(v:aj),cs=[v]∧av (tF W) (.sl 11<|l.map ah.dat) v∧aR l+8<=8*Rows.uptoBulk x.1 :=
 yw (dat:=ah.dat) (sz:=11) O underlying22 ZY h (fun n cs' D' dH hh _=>apG _ n cs' D' dH hh<|Nat.lt_succ_self _)
end
end
section
open Go.ChangeShapes Go.RowKit Go.Deep
theorem Gw{ρ:Type}{dat:ρ->List Dat}:∀{l:List ρ}{x:ρ},x∈l->bY (dat x)+1<=fE (l.map dat)
 |y::l,x,h=>by
  rw[dV,fE]
  rcases iL.1 h with rfl|h
  ·omega
  have:=Gw (dat:=dat) h;omega
section
variable{H:Type}{enc:TypeId×aj->H}{W:World}{base:Nat}{spare:Nat->Bool}{held:Bool}
theorem aHG:uO prog 171 6 [(3,0,1),(3,1,1),(9,2,1),(3,3,1),(3,4,1),(23,5,1)]:=⟨V,V,V⟩
theorem avu:prog.cellsOf 171=6:=by kernel_rfl
theorem aGh{n:Nat}{cs:List aj}{D:DataW H}{Pl:List MemPlace}(h:DataW.trod enc prog W base spare held n 171 cs=some (D,Pl)):∃r:dh,bg (tF W) r.dat cs∧bY r.dat+1<=8*Rows.uptoBulk D:=by
 obtain⟨xs,m,hx,hl,hxl,hf⟩:=vT aHG h
 match cs,hl,xs,hxl with
 |[c0,c1,c2,c3,c4,c5],_,[y0,y1,y2,y3,y4,y5],_=>
  have h0:=hf 0 _ _ _ M;have h1:=hf 1 _ _ _ M;have h2:=hf 2 _ _ _ M;have h3:=hf 3 _ _ _ M;have h4:=hf 4 _ _ _ M;have h5:=hf 5 _ _ _ M
  simp only at hx
  have hD:Rows.uptoBulk D=Rows.uptoBulk y0.1+(Rows.uptoBulk y1.1+(Rows.uptoBulk y2.1+(Rows.uptoBulk y3.1+(Rows.uptoBulk y4.1+(Rows.uptoBulk y5.1+0)))))+1:=by rw[hx];simp only[dV,ug,Rows.uptoBulk,Rows.uptoBulkAll]
  obtain⟨k0,e0,d0,-⟩:=DataW.trod_int underlying3 h0;obtain⟨k1,e1,d1,-⟩:=DataW.trod_int underlying3 h1;obtain⟨k2,e2,d2,-⟩:=DataW.trod_string underlying9 h2;obtain⟨k3,e3,d3,-⟩:=DataW.trod_int underlying3 h3;obtain⟨k4,e4,d4,-⟩:=DataW.trod_int underlying3 h4;obtain⟨k5,q5,e5,r5,d5⟩:=yw (dat:=jy.dat) (sz:=2) O underlying23 aiQ h5<|fun n cs' D Pl hh _=>apH hh
  simp at e0 e1 e2 e3 e4 e5
  subst e0 e1 e2 e3 e4 e5
  have b0:Rows.uptoBulk y0.1=1:=by rw[d0];rfl
  have b1:Rows.uptoBulk y1.1=1:=by rw[d1];rfl
  have b2:Rows.uptoBulk y2.1=k2.size+1:=by rw[d2];show k2.data.toList.length+1=k2.data.size+1;rw[sQ]
  have b3:Rows.uptoBulk y3.1=1:=by rw[d3];rfl
  have b4:Rows.uptoBulk y4.1=1:=by rw[d4];rfl
  refine⟨⟨k0,k1,k2,k3,k4,k5⟩,?_,?_⟩
  ·exact⟨_,_,M,(by simp[av,Value.oneCell']),⟨_,_,M,(by simp[av,Value.oneCell']),⟨_,_,M,(by simp[av,Value.oneCell']),⟨_,_,M,(by simp[av,Value.oneCell']),⟨_,_,M,(by simp[av,Value.oneCell']),⟨_,_,M,r5,M⟩⟩⟩⟩⟩⟩
  simp only[dh.dat,bY,oz];omega
theorem aHA:uO prog 209 4 [(3,0,1),(3,1,1),(9,2,1),(3,3,1)]:=⟨V,V,V⟩
theorem avr:prog.cellsOf 209=4:=by kernel_rfl
theorem aGd{n:Nat}{cs:List aj}{D:DataW H}{Pl:List MemPlace}(h:DataW.trod enc prog W base spare held n 209 cs=some (D,Pl)):∃r:qG,bg (tF W) r.dat cs∧bY r.dat+1<=8*Rows.uptoBulk D:=by
 obtain⟨xs,m,hx,hl,hxl,hf⟩:=vT aHA h
 match cs,hl,xs,hxl with
 |[c0,c1,c2,c3],_,[y0,y1,y2,y3],_=>
  have h0:=hf 0 _ _ _ M;have h1:=hf 1 _ _ _ M;have h2:=hf 2 _ _ _ M;have h3:=hf 3 _ _ _ M
  simp only at hx
  have hD:Rows.uptoBulk D=Rows.uptoBulk y0.1+(Rows.uptoBulk y1.1+(Rows.uptoBulk y2.1+(Rows.uptoBulk y3.1+0)))+1:=by rw[hx];simp only[dV,ug,Rows.uptoBulk,Rows.uptoBulkAll]
  obtain⟨k0,e0,d0,-⟩:=DataW.trod_int underlying3 h0;obtain⟨k1,e1,d1,-⟩:=DataW.trod_int underlying3 h1;obtain⟨k2,e2,d2,-⟩:=DataW.trod_string underlying9 h2;obtain⟨k3,e3,d3,-⟩:=DataW.trod_int underlying3 h3
  simp at e0 e1 e2 e3
  subst e0 e1 e2 e3
  have b0:Rows.uptoBulk y0.1=1:=by rw[d0];rfl
  have b1:Rows.uptoBulk y1.1=1:=by rw[d1];rfl
  have b2:Rows.uptoBulk y2.1=k2.size+1:=by rw[d2];show k2.data.toList.length+1=k2.data.size+1;rw[sQ]
  have b3:Rows.uptoBulk y3.1=1:=by rw[d3];rfl
  refine⟨⟨k0,k1,k2,k3⟩,?_,?_⟩
  ·exact⟨_,_,M,(by simp[av,Value.oneCell']),⟨_,_,M,(by simp[av,Value.oneCell']),⟨_,_,M,(by simp[av,Value.oneCell']),⟨_,_,M,(by simp[av,Value.oneCell']),M⟩⟩⟩⟩
  simp only[qG.dat,bY,oz];omega
theorem aHz:uO prog 174 2 [(3,0,1),(172,1,1)]:=⟨V,V,V⟩
theorem avq:prog.cellsOf 174=2:=by kernel_rfl
theorem aGe{n:Nat}{cs:List aj}{D:DataW H}{Pl:List MemPlace}(h:DataW.trod enc prog W base spare held n 174 cs=some (D,Pl)):∃r:fV,bg (tF W) r.dat cs∧bY r.dat+1<=8*Rows.uptoBulk D:=by
 obtain⟨xs,m,hx,hl,hxl,hf⟩:=vT aHz h
 match cs,hl,xs,hxl with
 |[c0,c1],_,[y0,y1],_=>
  have h0:=hf 0 _ _ _ M;have h1:=hf 1 _ _ _ M
  simp only at hx
  have hD:Rows.uptoBulk D=Rows.uptoBulk y0.1+(Rows.uptoBulk y1.1+0)+1:=by rw[hx];simp only[dV,ug,Rows.uptoBulk,Rows.uptoBulkAll]
  obtain⟨k0,e0,d0,-⟩:=DataW.trod_int underlying3 h0;obtain⟨k1,q1,e1,r1,d1⟩:=yw (dat:=qG.dat) (sz:=4) O underlying172 avr h1<|fun n cs' D Pl hh _=>aGd hh
  simp at e0 e1
  subst e0 e1
  have b0:Rows.uptoBulk y0.1=1:=by rw[d0];rfl
  refine⟨⟨k0,k1⟩,?_,?_⟩
  ·exact⟨_,_,M,(by simp[av,Value.oneCell']),⟨_,_,M,r1,M⟩⟩
  simp only[fV.dat,bY,oz];omega
theorem aHu:uO prog 178 6 [(3,0,1),(3,1,1),(9,2,1),(3,3,1),(9,4,1),(4,5,1)]:=⟨V,V,V⟩
theorem avn:prog.cellsOf 178=6:=by kernel_rfl
theorem aF8{n:Nat}{cs:List aj}{D:DataW H}{Pl:List MemPlace}(h:DataW.trod enc prog W base spare held n 178 cs=some (D,Pl)):∃r:jw,bg (tF W) r.dat cs∧bY r.dat+1<=8*Rows.uptoBulk D:=by
 obtain⟨xs,m,hx,hl,hxl,hf⟩:=vT aHu h
 match cs,hl,xs,hxl with
 |[c0,c1,c2,c3,c4,c5],_,[y0,y1,y2,y3,y4,y5],_=>
  have h0:=hf 0 _ _ _ M;have h1:=hf 1 _ _ _ M;have h2:=hf 2 _ _ _ M;have h3:=hf 3 _ _ _ M;have h4:=hf 4 _ _ _ M;have h5:=hf 5 _ _ _ M
  simp only at hx
  have hD:Rows.uptoBulk D=Rows.uptoBulk y0.1+(Rows.uptoBulk y1.1+(Rows.uptoBulk y2.1+(Rows.uptoBulk y3.1+(Rows.uptoBulk y4.1+(Rows.uptoBulk y5.1+0)))))+1:=by rw[hx];simp only[dV,ug,Rows.uptoBulk,Rows.uptoBulkAll]
  obtain⟨k0,e0,d0,-⟩:=DataW.trod_int underlying3 h0;obtain⟨k1,e1,d1,-⟩:=DataW.trod_int underlying3 h1;obtain⟨k2,e2,d2,-⟩:=DataW.trod_string underlying9 h2;obtain⟨k3,e3,d3,-⟩:=DataW.trod_int underlying3 h3;obtain⟨k4,e4,d4,-⟩:=DataW.trod_string underlying9 h4;obtain⟨k5,e5,d5⟩:=DataW.trod_bool underlying4 h5
  simp at e0 e1 e2 e3 e4 e5
  subst e0 e1 e2 e3 e4 e5
  have b0:Rows.uptoBulk y0.1=1:=by rw[d0];rfl
  have b1:Rows.uptoBulk y1.1=1:=by rw[d1];rfl
  have b2:Rows.uptoBulk y2.1=k2.size+1:=by rw[d2];show k2.data.toList.length+1=k2.data.size+1;rw[sQ]
  have b3:Rows.uptoBulk y3.1=1:=by rw[d3];rfl
  have b4:Rows.uptoBulk y4.1=k4.size+1:=by rw[d4];show k4.data.toList.length+1=k4.data.size+1;rw[sQ]
  have b5:Rows.uptoBulk y5.1=1:=by rw[d5];rfl
  refine⟨⟨k0,k1,k2,k3,k4,k5⟩,?_,?_⟩
  ·exact⟨_,_,M,(by simp[av,Value.oneCell']),⟨_,_,M,(by simp[av,Value.oneCell']),⟨_,_,M,(by simp[av,Value.oneCell']),⟨_,_,M,(by simp[av,Value.oneCell']),⟨_,_,M,(by simp[av,Value.oneCell']),⟨_,_,M,(by simp[av,Value.oneCell']),M⟩⟩⟩⟩⟩⟩
  simp only[jw.dat,bY,oz];omega
theorem aHH:uO prog 181 2 [(9,0,1),(9,1,1)]:=⟨V,V,V⟩
theorem avv:prog.cellsOf 181=2:=by kernel_rfl
theorem aGi{n:Nat}{cs:List aj}{D:DataW H}{Pl:List MemPlace}(h:DataW.trod enc prog W base spare held n 181 cs=some (D,Pl)):∃r:mV,bg (tF W) r.dat cs∧bY r.dat+1<=8*Rows.uptoBulk D:=by
 obtain⟨xs,m,hx,hl,hxl,hf⟩:=vT aHH h
 match cs,hl,xs,hxl with
 |[c0,c1],_,[y0,y1],_=>
  have h0:=hf 0 _ _ _ M;have h1:=hf 1 _ _ _ M
  simp only at hx
  have hD:Rows.uptoBulk D=Rows.uptoBulk y0.1+(Rows.uptoBulk y1.1+0)+1:=by rw[hx];simp only[dV,ug,Rows.uptoBulk,Rows.uptoBulkAll]
  obtain⟨k0,e0,d0,-⟩:=DataW.trod_string underlying9 h0;obtain⟨k1,e1,d1,-⟩:=DataW.trod_string underlying9 h1
  simp at e0 e1
  subst e0 e1
  have b0:Rows.uptoBulk y0.1=k0.size+1:=by rw[d0];show k0.data.toList.length+1=k0.data.size+1;rw[sQ]
  have b1:Rows.uptoBulk y1.1=k1.size+1:=by rw[d1];show k1.data.toList.length+1=k1.data.size+1;rw[sQ]
  refine⟨⟨k0,k1⟩,?_,?_⟩
  ·exact⟨_,_,M,(by simp[av,Value.oneCell']),⟨_,_,M,(by simp[av,Value.oneCell']),M⟩⟩
  simp only[mV.dat,bY,oz];omega
theorem aHE:uO prog 81 3 [(3,0,1),(9,1,1),(3,2,1)]:=⟨V,V,V⟩
theorem avt:prog.cellsOf 81=3:=by kernel_rfl
theorem aGf{n:Nat}{cs:List aj}{D:DataW H}{Pl:List MemPlace}(h:DataW.trod enc prog W base spare held n 81 cs=some (D,Pl)):∃r:dJ,bg (tF W) r.dat cs∧bY r.dat+1<=8*Rows.uptoBulk D:=by
 obtain⟨xs,m,hx,hl,hxl,hf⟩:=vT aHE h
 match cs,hl,xs,hxl with
 |[c0,c1,c2],_,[y0,y1,y2],_=>
  have h0:=hf 0 _ _ _ M;have h1:=hf 1 _ _ _ M;have h2:=hf 2 _ _ _ M
  simp only at hx
  have hD:Rows.uptoBulk D=Rows.uptoBulk y0.1+(Rows.uptoBulk y1.1+(Rows.uptoBulk y2.1+0))+1:=by rw[hx];simp only[dV,ug,Rows.uptoBulk,Rows.uptoBulkAll]
  obtain⟨k0,e0,d0,-⟩:=DataW.trod_int underlying3 h0;obtain⟨k1,e1,d1,-⟩:=DataW.trod_string underlying9 h1;obtain⟨k2,e2,d2,-⟩:=DataW.trod_int underlying3 h2
  simp at e0 e1 e2
  subst e0 e1 e2
  have b0:Rows.uptoBulk y0.1=1:=by rw[d0];rfl
  have b1:Rows.uptoBulk y1.1=k1.size+1:=by rw[d1];show k1.data.toList.length+1=k1.data.size+1;rw[sQ]
  have b2:Rows.uptoBulk y2.1=1:=by rw[d2];rfl
  refine⟨⟨k0,k1,k2⟩,?_,?_⟩
  ·exact⟨_,_,M,(by simp[av,Value.oneCell']),⟨_,_,M,(by simp[av,Value.oneCell']),⟨_,_,M,(by simp[av,Value.oneCell']),M⟩⟩⟩
  simp only[dJ.dat,bY,oz];omega
theorem aHF:uO prog 36 4 [(31,0,1),(32,1,1),(33,2,1),(34,3,1)]:=⟨V,V,V⟩
structure Yj(s:DY)(n:Nat):Prop where
 st:fE (s.styles.map dh.dat)<=n
 li:fE (s.lists.map fV.dat)<=n
 cm:fE (s.comments.map jw.dat)<=n
 va:fE (s.vars.map mV.dat)<=n
theorem Yj.zn{s:DY}{n:Nat}(h:Yj s n)(hn:n<=4294967296):Yk s∧s.styles.length<=4294967296:=by
 obtain⟨h1,h2,h3,h4⟩:=h;have l1:=vB<|s.styles.map dh.dat;have l2:=vB<|s.lists.map fV.dat;have l3:=vB<|s.comments.map jw.dat;have l4:=vB<|s.vars.map mV.dat;rw[bM]at l1 l2 l3 l4;refine⟨⟨fun x hx=>?_,O,fun x hx y hy=>?_,O,fun x hx=>?_,O,fun x hx=>?_,fun x hx=>?_,fun x hx=>?_⟩,O⟩
 ·have:=Gw (dat:=dh.dat) hx
  simp only[dh.dat,bY,oz]at this;omega
 ·have:=Gw (dat:=fV.dat) hx
  simp only[fV.dat,bY,oz]at this
  have h5:=Gw (dat:=qG.dat) hy
  simp only[qG.dat,bY,oz]at h5;omega
 ·have:=Gw (dat:=jw.dat) hx
  simp only[jw.dat,bY,oz]at this;omega
 ·have:=Gw (dat:=mV.dat) hx
  simp only[mV.dat,bY,oz]at this;omega
 ·have:=Gw (dat:=dh.dat) hx;have h5:=vB<|x.props.map jy.dat;rw[bM]at h5
  simp only[dh.dat,bY,oz]at this;omega
 have:=Gw (dat:=fV.dat) hx;have h5:=vB<|x.levels.map qG.dat;rw[bM]at h5
 simp only[fV.dat,bY,oz]at this;omega
theorem aGg{n:Nat}{cs:List aj}{x:DataW H×List MemPlace}(h:DataW.trod enc prog W base spare held n 36 cs=some x):∃(s:DY)(a b c d:aj),cs=[a,b,c,d]∧Ca (tF W) s a b c d∧Yj s (8*Rows.uptoBulk x.1):=by
 obtain⟨xs,m,hx,hl,hxl,hf⟩:=vT aHF h
 match cs,hl,xs,hxl with
 |[c0,c1,c2,c3],_,[y0,y1,y2,y3],_=>
  have h0:=hf 0 _ _ _ M;have h1:=hf 1 _ _ _ M;have h2:=hf 2 _ _ _ M;have h3:=hf 3 _ _ _ M;obtain⟨k0,q0,e0,r0,d0⟩:=yw (dat:=dh.dat) (sz:=6) O underlying31 avu h0<|fun n cs' D Pl hh _=>aGh hh;obtain⟨k1,q1,e1,r1,d1⟩:=yw (dat:=fV.dat) (sz:=2) O underlying32 avq h1<|fun n cs' D Pl hh _=>aGe hh;obtain⟨k2,q2,e2,r2,d2⟩:=yw (dat:=jw.dat) (sz:=6) O underlying33 avn h2<|fun n cs' D Pl hh _=>aF8 hh;obtain⟨k3,q3,e3,r3,d3⟩:=yw (dat:=mV.dat) (sz:=2) O underlying34 avv h3<|fun n cs' D Pl hh _=>aGi hh
  simp at e0 e1 e2 e3
  subst e0 e1 e2 e3
  have hD:Rows.uptoBulk x.1=Rows.uptoBulk y0.1+(Rows.uptoBulk y1.1+(Rows.uptoBulk y2.1+(Rows.uptoBulk y3.1+0)))+1:=by rw[hx];simp only[dV,ug,Rows.uptoBulk,Rows.uptoBulkAll]
  exact⟨⟨k0,k1,k2,k3⟩,_,_,_,_,M,⟨r0,r1,r2,r3⟩,⟨by show fE (k0.map _)<=_;omega,by show fE (k1.map _)<=_;omega,by show fE (k2.map _)<=_;omega,by show fE (k3.map _)<=_;omega⟩⟩
theorem aqE:uO prog 38 11 [(22,0,1),(29,1,5),(30,6,1),(36,7,4)]:=⟨V,V,V⟩
theorem Gp{G:GH}{sz:Nat}{rs:List (List Dat)}{v:aj}(h:av G (.sl sz rs) v):∃x,v=bN x:=by
 obtain⟨a,n,c,rfl⟩:=h.form;exact⟨(a,n,c),M⟩
theorem aGa{n:Nat}{cs:List aj}{x:DataW H×List MemPlace}(h:DataW.trod enc prog W base spare held n 38 cs=some x)(hb:Rows.uptoBulk x.1<=1048576):∃(D:jh)(d:jq),cs=D.cells∧lH (tF W) D d∧sM d∧aR d.flow<=8388608∧oF d.fin<=8388608:=by
 obtain⟨xs,m,hx,hl,hxl,hf⟩:=vT aqE h
 match cs,hl,xs,hxl with
 |[c0,c1,c2,c3,c4,c5,c6,c7,c8,c9,c10],_,[y0,y1,y2,y3],_=>
  have h0:=hf 0 _ _ _ M;have h1:=hf 1 _ _ _ M;have h2:=hf 2 _ _ _ M;have h3:=hf 3 _ _ _ M;obtain⟨l,q0,e0,r0,d0⟩:=aGb h0;obtain⟨hd,p,dd,ll,e1,r1,d1⟩:=WJ h1;obtain⟨rv,q2,e2,r2,d2⟩:=yw (dat:=dJ.dat) (sz:=3) O underlying30 avt h2<|fun n cs' D Pl hh _=>aGf hh;obtain⟨s,a,b,c,d,e3,r3,d3⟩:=aGg h3
  simp at e0 e1 e2 e3
  obtain⟨rfl,rfl,rfl,rfl,rfl⟩:=e1;obtain⟨rfl,rfl,rfl,rfl⟩:=e3;subst e0 e2
  have hD:Rows.uptoBulk x.1=Rows.uptoBulk y0.1+(Rows.uptoBulk y1.1+(Rows.uptoBulk y2.1+(Rows.uptoBulk y3.1+0)))+1:=by rw[hx];simp only[dV,ug,Rows.uptoBulk,Rows.uptoBulkAll]
  obtain⟨x0,rfl⟩:=Gp r0;obtain⟨x1,rfl⟩:=Gp r1.props;obtain⟨x2,rfl⟩:=Gp r1.dQ;obtain⟨x3,rfl⟩:=Gp r1.layers;obtain⟨x4,rfl⟩:=Gp r2;obtain⟨x5,rfl⟩:=Gp r3.st;obtain⟨x6,rfl⟩:=Gp r3.li;obtain⟨x7,rfl⟩:=Gp r3.cm;obtain⟨x8,rfl⟩:=Gp r3.va;obtain⟨hz1,hz2⟩:=d3.zn O;have l2:=vB<|rv.map dJ.dat;rw[bM]at l2;refine⟨⟨x0,x1,x2,x3,x4,x5,x6,x7,x8,hd.marks.ins,hd.marks.move⟩,⟨l,hd,rv,s⟩,M,⟨r0,r1,M,M,r2,r3⟩,⟨by show aR l<=_;omega,by show oF hd<=_;omega,by show rv.length<=_;omega,fun x hx=>?_,hz2,hz1⟩,by show aR l<=_;omega,by show oF hd<=_;omega⟩;have:=Gw (dat:=dJ.dat) hx
  simp only[dJ.dat,bY,oz]at this
  omega
end
end
end Go.Proofs.YtdgnnpjijhafaaaGreat
