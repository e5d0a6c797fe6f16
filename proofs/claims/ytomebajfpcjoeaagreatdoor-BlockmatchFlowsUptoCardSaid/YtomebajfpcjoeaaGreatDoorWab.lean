/-
  What the claim stands on, part 2: Eq Idx Par It Dy Div Plc Plr Hv Bd Ut Prk Ehd Mp Mk Cl Rc Nrm Pas L14 L14b L14c L14d L14e Sl Ct Nf Nfg Dlg Nmg Vc Cht Bld Cu Bln.
-/
import Derived.Test.YtomebajfpcjoeaaGreatDoorWaa
import Derived.Laws.StructEq
import Derived.ChangeKeysEq
import Derived.Lib.Builder
import Derived.Lib.UnsafeStr
import Derived.Lib.AppendStr
import Derived.Laws.Externs
import Derived.Lib.OthersKept
import Derived.Laws.IdiomStrings
import Derived.Laws.Cover4
import Derived.Laws.Slices
import Derived.Laws.Strings2
import Derived.MapKept
import Derived.Laws.MakeOwn
namespace Go.Proofs.YtomebajfpcjoeaaGreatDoor
set_option linter.all false
open Go.Proofs.Tryz
open Go.RowKit
section
def sK (xs:Array ak) (o:Nat):Option Int:=match xs[o]? with|some (.int .i64 n)=>some n|_=>none
def OI (u:Option TypeDesc):Bool:=match u with|some (.int .i64)=>true|_=>false
structure Lp (P:Program) (t:TypeId) (fE:List Nat):Prop where
 und:P.underlying t=some (.struct (P.fieldsOf t))
 held:P.stoodInHeld t=false
 guard:P.eqGuardType P.depth t=false
 Ba:(P.fieldsOf t).toList.map (·.offset)=fE
 ok:(P.fieldsOf t).toList.all (fun f=>decide (f.name ≠ "_") && P.plainKey f.type && OI (P.underlying f.type))=true
theorem Wz {P:Program} {w:World} {d:Nat} {xs ys:Array ak}:∀ fs:List Field,fs.all (fun f=>decide (f.name ≠ "_") && P.plainKey f.type && OI (P.underlying f.type))=true ->
  (fs.map (·.offset)).all (fun o=>(sK xs o).isSome && (sK ys o).isSome)=true->(Op.eqFields (d+1) xs ys fs).run P w=.ok ((fs.map (·.offset)).all fun o=>sK xs o == sK ys o) w
 | [],_,_=>by simp [Op.eqFields]
 | f :: fs,h1,h2=>by
  simp only [List.all_cons,iG,dU,gV] at h1 h2
  obtain ⟨⟨⟨hn,hp⟩,hi⟩,h1⟩:=h1
  obtain ⟨⟨hx,hy⟩,h2⟩:=h2
  have ih:=Wz (w:=w) (d:=d) fs (by simpa using h1) h2
  unfold OI at hi
  split at hi
  ·rename_i hu
   unfold sK at hx hy
   split at hx
   ·rename_i m hxm
    split at hy
    ·rename_i m2 hym
     have e1:sK xs f.offset=some m:=by unfold sK;rw [hxm]
     have e2:sK ys f.offset=some m2:=by unfold sK;rw [hym]
     simp only [Op.eqFields,hn,ne_eq,not_false_eq_true,if_true,dB,run_part_plain w hp hxm,run_part_plain w hp hym,jH,run_equalIn_int w d f.type .i64 .i64 m m2 hu,gV,List.all_cons,e1,e2]
     by_cases e:m=m2
     ·subst e;simp [ih,List.all_map]
     ·simp [e]
    ·simp at hy
   ·simp at hx
  ·simp at hi
def jy (xs:Array ak) (o:Nat × Bool):Option (Int × Bool):=match xs[o.1]?,o.2 with|some (.int .i64 n),false=>some (n,false)|some (.bool b),true=>some (0,b)|_,_=>none
def yO (u:Option TypeDesc) (b:Bool):Bool:=match u,b with|some (.int .i64),false=>true|some .bool,true=>true|_,_=>false
structure Dp (P:Program) (t:TypeId) (fE:List (Nat × Bool)):Prop where
 und:P.underlying t=some (.struct (P.fieldsOf t))
 held:P.stoodInHeld t=false
 guard:P.eqGuardType P.depth t=false
 Ba:(P.fieldsOf t).toList.map (fun f=>(f.offset,yO (P.underlying f.type) true))=fE
 ok:(P.fieldsOf t).toList.all (fun f=>decide (f.name ≠ "_") && P.plainKey f.type && yO (P.underlying f.type) (yO (P.underlying f.type) true))=true
theorem WA {P:Program} {w:World} {d:Nat} {xs ys:Array ak}:∀ fs:List Field,fs.all (fun f=>decide (f.name ≠ "_") && P.plainKey f.type && yO (P.underlying f.type) (yO (P.underlying f.type) true))=true ->
  (fs.map (fun f=>(f.offset,yO (P.underlying f.type) true))).all (fun o=>(jy xs o).isSome && (jy ys o).isSome)=true->(Op.eqFields (d+1) xs ys fs).run P w=.ok ((fs.map (fun f=>(f.offset,yO (P.underlying f.type) true))).all fun o=>jy xs o == jy ys o) w
 | [],_,_=>by simp [Op.eqFields]
 | f :: fs,h1,h2=>by
  simp only [List.all_cons,iG,dU,gV] at h1 h2
  obtain ⟨⟨⟨hn,hp⟩,hi⟩,h1⟩:=h1
  obtain ⟨⟨hx,hy⟩,h2⟩:=h2
  have ih:=WA (w:=w) (d:=d) fs (by simpa using h1) h2
  obtain ⟨kb,hkb⟩:∃ kb,kb=yO (P.underlying f.type) true:=⟨_,O⟩
  rw [<- hkb] at hi hx hy
  cases kb with
  | false =>
   have hu:P.underlying f.type=some (.int .i64):=by clear hkb ih h1 h2 hx hy;unfold yO at hi;split at hi <;> simp_all
   obtain ⟨m,hxm⟩:∃ m,xs[f.offset]?=some (.int .i64 m):=by clear hkb ih h1 h2 hi hy;unfold jy at hx;split at hx <;> simp_all
   obtain ⟨m2,hym⟩:∃ m,ys[f.offset]?=some (.int .i64 m):=by clear hkb ih h1 h2 hi hx;unfold jy at hy;split at hy <;> simp_all
   have e1:jy xs (f.offset,false)=some (m,false):=by unfold jy;rw [hxm]
   have e2:jy ys (f.offset,false)=some (m2,false):=by unfold jy;rw [hym]
   simp only [Op.eqFields,hn,ne_eq,not_false_eq_true,if_true,dB,run_part_plain w hp hxm,run_part_plain w hp hym,jH,run_equalIn_int w d f.type .i64 .i64 m m2 hu,gV,List.all_cons,<- hkb,e1,e2]
   by_cases e:m=m2
   ·subst e;simp [ih,List.all_map]
   ·simp [e]
  | true =>
   have hu:P.underlying f.type=some .bool:=by clear hkb ih h1 h2 hx hy;unfold yO at hi;split at hi <;> simp_all
   obtain ⟨m,hxm⟩:∃ m,xs[f.offset]?=some (.bool m):=by clear hkb ih h1 h2 hi hy;unfold jy at hx;split at hx <;> simp_all
   obtain ⟨m2,hym⟩:∃ m,ys[f.offset]?=some (.bool m):=by clear hkb ih h1 h2 hi hx;unfold jy at hy;split at hy <;> simp_all
   have e1:jy xs (f.offset,true)=some (0,m):=by unfold jy;rw [hxm]
   have e2:jy ys (f.offset,true)=some (0,m2):=by unfold jy;rw [hym]
   simp only [Op.eqFields,hn,ne_eq,not_false_eq_true,if_true,dB,run_part_plain w hp hxm,run_part_plain w hp hym,jH,run_equalIn_bool' w d f.type m m2 hu,gV,List.all_cons,<- hkb,e1,e2]
   by_cases e:m=m2
   ·subst e;simp [ih,List.all_map]
   ·simp [e]
section
variable {N:Nat} {D:List Deferred} {w0:World} {F:Nat->Prop} {G0 G:GH} {L:List (Nat × Obj)} {T:List (Nat × ak)}
variable {r:Option Nat} {P:Program} {ops:Array Oper} {Q:Exit->Act->World->Prop} {rest:List Oper} {a:Act} {w:World}
variable {d:Nat} {ty:TypeId} {pos:String} {aM:Array Edge} {g:Option (Nat × Bool)}
theorem WM {t yt:TypeId} {fE:List Nat} (he:Lp P t fE) {x y:Operand} {xs ys:Array ak} (H:St N D w0 F G0 G L T a w) (hw:Region.wanted ⟨some d,.binOp .eql t x y yt,ty,pos,aM,g⟩ (yielded ops a.tmps)=true) (hx:ev T x=some (.agg xs)) (hy:ev T y=some (.agg ys))
  (hi:fE.all (fun o=>(sK xs o).isSome && (sK ys o).isSome)=true) (hd:Nat.blt d N=true)
  (k:∀ a',St N D w0 F G0 G L ((d,.bool (fE.all fun o=>sK xs o == sK ys o)) :: T) a' w->WL r P ops Q rest a' w):WL r P ops Q (⟨some d,.binOp .eql t x y yt,ty,pos,aM,g⟩ :: rest) a w:=by
 refine dZ (v:=.bool (fE.all fun o=>sK xs o == sK ys o)) (w':=w) hw O ?_ (k _ (H.put hd _ H.hp))
 have h1:=Wz (P:=P) (w:=w) (d:=9998) (xs:=xs) (ys:=ys) _ he.ok (by rw [he.Ba];exact hi)
 rw [he.Ba] at h1
 simp only [execOp,H.ev hx,H.ev hy,dB,run_eqGuard_agg w .eql t x y xs ys he.guard,jH,run_eql_struct,run_equalIn_struct w 9999 t xs ys he.und he.held,h1]
 rfl
theorem agG {t yt:TypeId} {x y:Operand} {p q:ByteArray} (H:St N D w0 F G0 G L T a w) (hw:Region.wanted ⟨some d,.binOp .eql t x y yt,ty,pos,aM,g⟩ (yielded ops a.tmps)=true) (hx:ev T x=some (.string p)) (hy:ev T y=some (.string q)) (hd:Nat.blt d N=true)
  (k:∀ a',St N D w0 F G0 G L ((d,.bool (p.toList == q.toList)) :: T) a' w->WL r P ops Q rest a' w):WL r P ops Q (⟨some d,.binOp .eql t x y yt,ty,pos,aM,g⟩ :: rest) a w:=by
 refine dZ (v:=.bool (p.toList == q.toList)) (w':=w) hw O ?_ (k _ (H.put hd _ H.hp))
 simp [execOp,H.ev hx,H.ev hy,dB,eqGuard,binOp,Op.stringOp]
theorem WS {t yt:TypeId} {x y:Operand} {p q:Int} (z:Int) (H:St N D w0 F G0 G L T a w) (hw:Region.wanted ⟨some d,.binOp .quo t x y yt,ty,pos,aM,g⟩ (yielded ops a.tmps)=true) (hx:ev T x=some (.int .i64 p)) (hy:ev T y=some (.int .i64 q)) (hq:¬ q=0) (hz:p.tdiv q=z) (h1:-9223372036854775808<=z) (h2:z < 9223372036854775808) (hd:Nat.blt d N=true)
  (k:∀ a',St N D w0 F G0 G L ((d,.int .i64 z) :: T) a' w->WL r P ops Q rest a' w):WL r P ops Q (⟨some d,.binOp .quo t x y yt,ty,pos,aM,g⟩ :: rest) a w:=by
 subst hz
 refine dZ (v:=.int .i64 (p.tdiv q)) (w':=w) hw O ?_ (k _ (H.put hd _ H.hp))
 simp [execOp,H.ev hx,H.ev hy,dB,eqGuard,binOp,Op.intDiv,hq,Aa h1 h2]
theorem Hw {op:BinOp} {t yt:TypeId} {fE:List (Nat × Bool)} (ho:op=.eql∨op=.neq) (he:Dp P t fE) {x y:Operand} {xs ys:Array ak} (H:St N D w0 F G0 G L T a w) (hw:Region.wanted ⟨some d,.binOp op t x y yt,ty,pos,aM,g⟩ (yielded ops a.tmps)=true) (hx:ev T x=some (.agg xs)) (hy:ev T y=some (.agg ys))
  (hi:fE.all (fun o=>(jy xs o).isSome && (jy ys o).isSome)=true) (hd:Nat.blt d N=true)
  (k:∀ a',St N D w0 F G0 G L ((d,.bool (if op=.eql then fE.all fun o=>jy xs o == jy ys o else !(fE.all fun o=>jy xs o == jy ys o))) :: T) a' w->WL r P ops Q rest a' w):WL r P ops Q (⟨some d,.binOp op t x y yt,ty,pos,aM,g⟩ :: rest) a w:=by
 have h1:=WA (P:=P) (w:=w) (d:=9998) (xs:=xs) (ys:=ys) _ he.ok (by rw [he.Ba];exact hi)
 rw [he.Ba] at h1
 rcases ho with rfl|rfl
 ·refine dZ (v:=_) (w':=w) hw O ?_ (k _ (H.put hd _ H.hp))
  simp only [execOp,H.ev hx,H.ev hy,dB,run_eqGuard_agg w .eql t x y xs ys he.guard,jH,run_eql_struct,run_equalIn_struct w 9999 t xs ys he.und he.held,h1]
  rfl
 ·refine dZ (v:=_) (w':=w) hw O ?_ (k _ (H.put hd _ H.hp))
  simp only [execOp,H.ev hx,H.ev hy,dB,run_eqGuard_agg w .neq t x y xs ys he.guard,jH,run_neq_struct,run_equalIn_struct w 9999 t xs ys he.und he.held,h1]
  rfl
end
end
theorem OH {α:Type} {p:α->Bool} {A:List α} {k:Nat} (hk:k < A.length) (h:(A.take k).findIdx? p=none) (hp:p A[k]=false):(A.take (k+1)).findIdx? p=none:=by
 rw [List.findIdx?_eq_none_iff] at h |-;rw [jq hk];intro x hx
 rcases tV.1 hx with hx|hx
 ·exact h x hx
 rw [uP.1 hx];exact hp
theorem J4 {α:Type} {p:α->Bool} {A:List α} {k:Nat} (hk:k < A.length) (h:(A.take k).findIdx? p=none) (hp:p A[k]=true):A.findIdx? p=some k:=by
 have e:A.findIdx? p=(A.take k++A.drop k).findIdx? p:=by rw [List.take_append_drop]
 rw [e,List.findIdx?_append,h,List.drop_eq_getElem_cons hk,List.findIdx?_cons,hp]
 simp;omega
theorem He {α:Type} {p:α->Bool} {A:List α} (h:(A.take A.length).findIdx? p=none):A.findIdx? p=none:=by rwa [qE] at h
theorem FZ:bL 28:=bN func28 O
theorem EK:sD prog 89 [(0,1),(1,1),(2,1),(3,1)] [.int .i64 0,.int .i64 0,.int .i64 0,.bool false]:=⟨Z,Z⟩
theorem lY:Ty prog 89 4 32 [.int .i64 0,.int .i64 0,.int .i64 0,.bool false] true:=⟨Z,Z⟩
theorem kW:Ty prog 4 1 1 [.bool false] false:=⟨Z,Z⟩
theorem D8:gL prog 89 0 0:=⟨Z⟩
theorem Db:Ty prog 154 1 8 [.nilFunc] false:=⟨Z,Z⟩
theorem lG:Ty prog 22 1 24 [.slice none 0 0] false:=⟨Z,Z⟩
theorem abK:bL 67:=bN func67 O
theorem abJ:bL 66:=bN func66 O
theorem TA:bL 65:=bN func65 O
theorem aho (G:GH) (w0:World) (hG:Hold G w0) (x:aD) (cs:List ak) (hv:aY G x.dat cs) (hz:iy x.dat<=4294967290) :
  Calls prog 67 #[.agg cs.toArray] w0 (bQ w0 G fun u G'=>u=vi (n1 x)):=by
 obtain ⟨pA,pn,pc,dA,dn,dc,yA,yn,yc,fA,fn,fc,rA,rn,rc,rfl,hh,hf,hr⟩:=hv.item;refine eN [(0,_)] func67 O ntmps67 O O hG ?_;intro a H;refine gU (fun _ K1=>?_);refine jQ (cs:=[_,_,_,_,_,_,_,_,_,_,_]) H wn O O O ?_;clear H;intro b1 a w hb1 H;refine kH H (av K1 O (SR fun _ K2=>?_));clear H K1;intro a H;refine bV fB (cs:=[_,_,_,_,_,_,_,_,_,_,_]) H wn O O (H.hp.bR 0 O O) O ?_;clear H;intro a H;refine eU iB fB [_,_,_,_,_,_,_,_,_,_,_] [_,_,_,_,_,_,_,_,_,_,_] H wn O O O O O (by intro i q h;match i,h with|0,h=>exact h|n+1,h=>simp at h) O O ?_;clear H;intro b7 a w Ed H;obtain ⟨G7,Bh,hr7,H⟩:=H.nu (sz:=11) (d:=x.dat) O hv;refine s_call FZ H wn O (Hl _ _ H.ro [x] _ hr7 (by simp only [cK,gV,tY,fM];omega)) rfl ?_;clear H;rintro v8 G8 a w ⟨rfl,rfl⟩ Ej H;rw [afi] at H;refine kH H (Rm O ?_);clear H;intro a H;(iterate 2 refine eZ H wn O O O ?_;clear H;intro a H);exact kH H (Ra O (av K2 O (SR fun _ K3=>Rm O (av K3 O (LR results67 O fun H=>H.rt O)))))
structure jD where
 kind:Int
 from_:Int
 dx:Int
 mark:Bool
theorem jD.eq_iff (a b:jD):(a.kind=b.kind∧a.from_=b.from_∧a.dx=b.dx∧a.mark=b.mark)↔a=b:=by
 cases a;cases b;simp
instance:DecidableEq jD:=fun a b=>decidable_of_iff _ (jD.eq_iff a b)
def qQ (fr at_:Int) (lo:Bool):List jD:=if fr=at_ then [] else [⟨if lo then 4 else 1,fr,at_,false⟩]
def pU:Int->Int->Bool->List aD->List jD
 | fr,at_,lo,[]=>qQ fr at_ lo
 | fr,at_,lo,x :: l =>
  if x.kind=2 then ⟨1,fr,at_+1,true⟩ :: pU (at_+1) (at_+n1 x) true l
  else if x.kind=7∨x.kind=3 then qQ fr at_ lo++⟨if x.kind=3 then 3 else 2,at_,at_+1,false⟩ :: pU (at_+1) (at_+n1 x) true l
  else pU fr (at_+n1 x) (lo && (decide (x.kind=8) || decide (n1 x=0))) l
def rO (a:jD):AP:=fun args _=>args=[.agg #[vi a.kind,vi a.from_,vi a.dx,.bool a.mark]]
theorem FM {fv:ak} {Gi:GH} {xs:List AP} {J:Nat->GH->OL->Prop} {Jx:GH->OL->Prop} (hcb:Ii prog fv Gi xs J Jx) {bf ba bl Mx:Nat} {fr at_:Int} {lo:Bool} {G:GH} {L:OL} {w0:World} {j:Nat} (hGi:∀ b o,Gi b=some o->G b=some o) (hJ:J j G L)
  (hO:jN G ((bf,.cells #[vi fr] 3 (0,0)) :: (ba,.cells #[vi at_] 3 (0,0)) :: (bl,.cells #[.bool lo] 4 (0,0)) :: L) w0) (hy:aS G Mx 0=some fv) (hx:∀ i a,(qQ fr at_ lo)[i]?=some a->xs[j+i]?=some (rO a)) :
  uK prog (.func (.func 66) #[] #[(aJ bf 0),(aJ ba 0),(aJ bl 0),(aJ Mx 0)]) [] w0
   (jO w0 G ((bf,.cells #[vi fr] 3 (0,0)) :: (ba,.cells #[vi at_] 3 (0,0)) :: (bl,.cells #[.bool lo] 4 (0,0)) :: L) fun u G' L'=>∃ b fr' lo' Lu,u=.bool b∧L'=(bf,.cells #[vi fr'] 3 (0,0)) :: (ba,.cells #[vi at_] 3 (0,0)) :: (bl,.cells #[.bool lo'] 4 (0,0)) :: Lu∧(b=true->J (j+(qQ fr at_ lo).length) G' Lu)∧(b=false->Jx G' Lu)):=by
 refine sI (caps:=[(aJ bf 0),(aJ ba 0),(aJ bl 0),(aJ Mx 0)]) (args:=[]) abJ ?_;refine mP (N:=18) (T:=[(0,_),(1,_),(2,_),(3,_)]) func66 O ntmps66 O O hO ?_;intro a H;refine kP H (SR fun _ K1=>av K1 O (SQ fun _ K2=>SR fun _ K3=>Ro aC 0 O (Ro aC 1 O (Rc O (Kz K3 (Cd O ?_ ?_)))))) <;> clear H K1 K3
 ·intro h8 a H
  try have p8:=dT h8
  exact kP H (SR fun _ K4=>av K4 O (LR results66 O fun H=>H.hp.dP ⟨true,_,_,L,O,O,fun _=>(by rw [qQ,aN p8];exact hJ),fun e=>(by cases e)⟩))
 intro h8 a H
 try have p8:=dF h8
 refine kP H (Kc K2 (SR fun _ K5=>Ro aC 0 O (Ro aC 1 O ?_)));clear H K2;intro a H;refine ku EK [_,_,_,_] H wn O O O O ?_;clear H;intro a H;refine gX lY H wn O ?_;clear H;intro b5 a w hb5 H;refine bg lY 0 (vs:=[_,_,_,_]) H wn O ?_;clear H;intro w H;refine K5 _ _ ?_;clear K5;refine kP H (SQ fun _ K6=>SR fun _ K7=>Ro kW 3 O (Kz K7 (Cd O ?_ ?_))) <;> clear H K7
 ·intro h12 a H
  try have oJ:=dT h12
  refine kP H (SC (Rf D8 O ?_));clear H;intro a H;refine bg aC 0 (vs:=[_]) H wn O ?_;clear H;intro w H;refine kH H (Kn K6 (SR fun _ K8=>Ro aC 2 O ?_));clear H K6;intro a H;refine bg aC 1 (vs:=[_]) H wn O ?_;clear H;intro w H;refine bg kW 3 (vs:=[_]) H wn O ?_;clear H;intro w H;refine K8 _ _ ?_;clear K8;refine kP H (SR fun _ K9=>Rg Db O (by assumption) ?_);clear H;intro a H;refine bV lY (cs:=[_,_,_,_]) H wn O O (H.hp.bR 0 O O) O ?_;clear H;intro a H;refine pF (Li:=[_,_,_,_]) (L:=L) H wn O O (hcb j _ _ _ _ ⟨rO ⟨if lo then 4 else 1,fr,at_,false⟩,hx 0 _ (by rw [qQ,aL p8];rfl),by unfold rO;rw [h12];rfl⟩ hGi hJ (Hp.owns (Li:=[_,_,_,_]) H.hp)) O ?_;clear H;rintro v17 vM Lu a w ⟨b17,rfl,hb1,hb2⟩ mE H;exact kH H (av K9 O (LR results66 O fun H=>H.hp.fK (L':=(bf,_) :: (ba,_) :: (bl,_) :: Lu) (List.Sublist.cons _ (fP _)) ⟨b17,_,_,Lu,O,O,fun e=>(by rw [qQ,aL p8];exact hb1 e),hb2⟩))
 intro h12 a H
 try have oJ:=dF h12
 refine kP H (Kc K6 (SR fun _ aP=>Ro aC 2 O ?_));clear H K6;intro a H;refine bg aC 1 (vs:=[_]) H wn O ?_;clear H;intro w H;refine bg kW 3 (vs:=[_]) H wn O ?_;clear H;intro w H;refine aP _ _ ?_;clear aP;refine kP H (SR fun _ aT=>Rg Db O (by assumption) ?_);clear H;intro a H;refine bV lY (cs:=[_,_,_,_]) H wn O O (H.hp.bR 0 O O) O ?_;clear H;intro a H;refine pF (Li:=[_,_,_,_]) (L:=L) H wn O O (hcb j _ _ _ _ ⟨rO ⟨if lo then 4 else 1,fr,at_,false⟩,hx 0 _ (by rw [qQ,aL p8];rfl),by unfold rO;rw [h12];rfl⟩ hGi hJ (Hp.owns (Li:=[_,_,_,_]) H.hp)) O ?_;clear H;rintro v17 vM Lu a w ⟨b17,rfl,hb1,hb2⟩ mE H;exact kH H (av aT O (LR results66 O fun H=>H.hp.fK (L':=(bf,_) :: (ba,_) :: (bl,_) :: Lu) (List.Sublist.cons _ (fP _)) ⟨b17,_,_,Lu,O,O,fun e=>(by rw [qQ,aL p8];exact hb1 e),hb2⟩))
theorem Now.up {α:Type} {xs:List AP} {P:α->AP} {J:Nat->GH->OL->Prop} {je j:Nat} {A:List α} {g g':GH} {L:OL} (h:Now xs P J je j A g L) (qH:Fg J) (hm:∀ b o,g b=some o->g' b=some o):Now xs P J je j A g' L:=⟨qH _ _ _ _ hm h.now,h.rem,h.len⟩
theorem Wm (fr at_:Int) (lo:Bool):(qQ fr at_ lo).length<=1:=by unfold qQ;split <;> simp
theorem FH:∀ (l:List aD) (fr at_:Int) (lo:Bool),(pU fr at_ lo l).length<=2*l.length+1
 | [],fr,at_,lo=>by rw [pU];exact Wm _ _ _
 | x :: l,fr,at_,lo=>by
  have h:=Wm fr at_ lo;rw [pU]
  split
  ·have:=FH l (at_+1) (at_+n1 x) true;simp only [ko];omega
  split
  ·have:=FH l (at_+1) (at_+n1 x) true;simp only [fQ,ko];omega
  have:=FH l fr (at_+n1 x) (lo && (decide (x.kind=8) || decide (n1 x=0)));simp only [ko];omega
set_option maxHeartbeats 1000000 in
theorem Zq {G:GH} {bd:Nat} {l:List aD} {v:ak} (hb:aS G bd 0=some v) (hv:aF G (.sl 11 (l.map aD.dat)) v) (hz:cK l<=4294967290) :
    Iter prog G (.func (.func 65) #[] #[(aJ bd 0)]) ((pU 0 0 true l).map rO):=by
  intro J Jx fv G1 L w0 JF hGi qH hJx hJ hO hcb;refine sI (caps:=[(aJ bd 0)]) TA ?_;obtain ⟨A,c,rfl,hc1,hc2,hg⟩:=hv.slice;rw [bJ] at *;have hll:=yj l;replace hb:=aK hGi hb;refine mP (N:=70) (T:=[(0,_),(1,_)]) func65 O ntmps65 O O hO ?_;intro a H;refine gU (fun _ K1=>?_);refine jQ (cs:=[fv]) H wn O JF O ?_;clear H;intro b2 a w hb2 H;refine K1 _ _ ?_;clear K1;refine gU (fun _ K2=>?_);refine gX aC H wn O ?_;clear H;intro b3 a w hb3 H;refine gX aC H wn O ?_;clear H;intro b4 a w hb4 H;refine gX kW H wn O ?_;clear H;intro b5 a w hb5 H;refine bg aC 2 (vs:=[_]) H wn O ?_;clear H;intro w H;refine bg aC 1 (vs:=[_]) H wn O ?_;clear H;intro w H;refine bg kW 0 (vs:=[_]) H wn O ?_;clear H;intro w H;refine K2 _ _ ?_;clear K2;refine gy (fun _ K3=>?_);have H:=H.dz (Pl:=[_,_,_,_]) (bZ:=[_,_,_,_]) [3,2,1,0] Y O;obtain ⟨Ga,hma,hb2,H⟩:=H.kE
  have hy:aS Ga b2 0=some fv:=by unfold aS;rw [hb2];rfl
  replace hb:=aK hma hb;refine rP ?_;refine Bw H wn O O ?_;clear H;intro a H;refine kH H (bO K3 O (SQ fun _ K4=>SR fun _ K5=>Rg lG O (by assumption) ?_));clear H K3;intro a H;refine kH H (Rl iB O (Rm O (Kz K5 (SB ?_))));clear H K5;intro a H;skip;refine dY (ι:=Nat × Int × Int × Bool × Nat × OL × GH) (Tc:=[(2,_),(3,_),(4,_),(5,_),(6,_),(12,_),(13,_)]) (Lc:=[]) (fun gh=>[(14,vi gh.1)]) (fun gh=>[(b3,.cells #[vi gh.2.1] 3 (0,0)),(b4,.cells #[vi gh.2.2.1] 3 (0,0)),(b5,.cells #[.bool gh.2.2.2.1] 4 (0,0))]++gh.2.2.2.2.2.1) (fun gh=>gh.2.2.2.2.2.2) (fun gh=>gh.1<=l.length∧(∀ b o,Ga b=some o->gh.2.2.2.2.2.2 b=some o)∧Now ((pU 0 0 true l).map rO) rO J (pU 0 0 true l).length gh.2.2.2.2.1 (pU gh.2.1 gh.2.2.1 gh.2.2.2.1 (l.drop gh.1)) gh.2.2.2.2.2.2 gh.2.2.2.2.2.1∧0<=gh.2.2.1∧gh.2.2.1+cK (l.drop gh.1)<=4294967290) (fun gh=>l.length - gh.1) ((0,0,0,true,0,L,Ga)) (by exact H.sub ⟨O,O,O,O,O,O,O,O,aI⟩) ?_ ?_
  · exact ⟨V,fun _ _ h=>h,⟨qH _ _ _ _ hma hJ,fun i a h=>by rw [eH,nM];rw [List.drop_zero] at h;rw [h];rfl,by simp⟩,Int.le_refl _,by simp;omega⟩
  clear H;rintro ⟨k,fr,at_,lo,j1,Lt,g⟩ a w hI H;dsimp only at hI H;obtain ⟨hk,hgm,dL,ajx,hat⟩:=hI;dsimp only [lca,bW] at H;refine kP H (SR fun _ K6=>Rc O (Kz K6 (SQ fun _ K7=>Cd O ?_ ?_))) <;> clear H K6
  · intro lC a H
    try have oK:=dT lC
    have hk2:k < l.length:=by omega
    obtain ⟨b,o,pA,pn,pc,dA,dn,dc,yA,yn,yc,fA,fn,fc,rA,rn,rc,rfl,hrow,hhd,hfl,hrw⟩:=zL hk2 hg;have oG:∀ b o,G b=some o->g b=some o:=fun b o h=>hgm b o (hma b o (hGi b o h));replace hrow:=fun j u hj=>aK oG (hrow j u hj);have hsz2:=BH (dV hk2);have hn1:=afC l[k];rw [List.drop_eq_getElem_cons hk2] at dL hat;rw [cK,gV,fM] at hat;rw [pU] at dL;refine kP H (Kc K7 (SQ fun _ K8=>SB (SR fun _ K9=>Ri iB fB O O ?_)));clear H K7;intro a H;refine bV fB (cs:=[_,_,_,_,_,_,_,_,_,_,_]) H wn O O (fun j v hj=>H.hp.aS (hrow j v hj)) O ?_;clear H;intro a H;refine gX fB H wn O ?_;clear H;intro b8 a w Gm H;refine bg fB 0 (vs:=[_,_,_,_,_,_,_,_,_,_,_]) H wn O ?_;clear H;intro w H;refine K9 _ _ ?_;clear K9;refine gU (fun _ aP=>?_);refine bV fB (cs:=[_,_,_,_,_,_,_,_,_,_,_]) H wn O O (H.hp.bR 0 O O) O ?_;clear H;intro a H;refine s_call abK H wn O (aho _ _ H.ro l[k] _ (aY.mkItem (hhd.mono oG) (hfl.mono oG) (hrw.mono oG)) V) O ?_;clear H;rintro v19 oP a w rfl iT H;replace dL:=dL.up qH iT;have zT:∀ b o,G1 b=some o->oP b=some o:=fun b o h=>iT b o (hgm b o (hma b o h));have zZ:=aK (fun b o h=>iT b o (hgm b o h)) hy;refine kH H (av aP O (SQ fun _ aT=>SR fun _ bH=>fG pq aC 0 O O (Kz bH (SB (SR fun _ bG=>Rc O (av bG O (Cd O ?_ ?_))))))) <;> clear H aP bH bG
    · intro h32 a H
      try have p32:=dT h32
      rw [aN p32] at dL;refine kP H (SQ fun _ bX=>SR fun _ dG=>Rg Db O (by assumption) ?_);clear H;intro a H;refine kH H (Ro aC 1 O (Ro aC 2 O (Rd O ?_)));clear H;intro a H;refine ku EK [_,_,_,_] H wn O O O O ?_;clear H;intro a H;refine pF (Li:=[_,_,_,_]) (L:=Lt) H wn O O (hcb j1 _ _ _ _ ⟨_,dL.head,O⟩ zT dL.now (Hp.owns (Li:=[_,_,_,_]) H.hp)) O ?_;clear H;rintro v39 YB wW a w ⟨vS,rfl,hb1,hb2⟩ UA H;have hy39:=aK UA zZ;refine kH H (Rn O (Kz dG (Cd O ?_ ?_))) <;> clear H dG
      · intro pY a H
        try have p40:=dT pY
        refine aU ?_;refine (leave0 H results65 ?_).1
        first
          | exact H.hp.fK (L':=wW) (by repeat (first|exact fP _|apply List.Sublist.cons)) (.inr (hb2 (by simpa using pY)))
          | exact H.hp.fK (L':=qC) (by repeat (first|exact fP _|apply List.Sublist.cons)) (.inr (hb2 (by simpa using aR)))
          | exact H.hp.fK (L':=qB) (by repeat (first|exact fP _|apply List.Sublist.cons)) (.inr (hb4 (by simpa using jP)))
          | (cases yF
             · exact H.hp.fK (L':=om) (by repeat (first|exact fP _|apply List.Sublist.cons)) (.inr (hb2 O))
             exact H.hp.fK (L':=om) (by repeat (first|exact fP _|apply List.Sublist.cons)) (.inl (by have:=dL.len;(try rw [bJ]);rw [<- this];exact hb1 O)))
      intro pY a H
      try have p40:=dF pY
      refine kP H (Kc bX (SC (Ro aC 2 O (Rd O ?_))));clear H bX;intro a H;refine bg aC 1 (vs:=[_]) H wn O ?_;clear H;intro w H;refine bg kW 3 (vs:=[_]) H wn O ?_;clear H;intro w H;refine kH H (Kn aT (SC (Ro aC 2 O (Rm O (Rd O ?_)))));clear H aT;intro a H;refine bg aC 2 (vs:=[_]) H wn O ?_;clear H;intro w H;refine kH H (Kn K8 (SC (Rd O (Rm O ?_))));clear H K8;intro a H;refine aj ?_;refine bE ((k+1,at_+1,at_+n1 l[k],true,j1+1,wW,YB)) (by exact (H.dz (Pl:=[_,_,_,_]) (bZ:=[_,_,_]) [1,2,3] Y O).sub ⟨O,O,O,O,O,O,O,O,aI⟩) ?_
      (try dsimp only);exact ⟨V,fun b o h=>UA b o (iT b o (hgm b o h)),dL.step (hb1 (by simpa using pY)),V,by show at_+(n1 l[k]:Int)+(fM ((l.drop (k+1)).map aD.dat):Nat)<=4294967290;omega⟩
    intro h32 a H
    try have p32:=dF h32
    refine kP H (SQ fun _ dR=>SR fun _ fu=>Rc O (av fu O (Cd O ?_ ?_))) <;> clear H fu
    · intro h43 a H
      try have p43:=dT h43
      have xD:l[k].kind=7∨l[k].kind=3:=by first|exact .inl p43|exact .inr p43
      rw [aL p32,aN xD] at dL;refine kP H (Kc dR (Ct O h43 (SR fun _ gF=>av gF O (SQ fun _ fU=>SR fun _ jd=>fG pq aC 0 O O (Rc O (Kz jd (Cd O ?_ ?_))))))) <;> clear H dR gF jd
      · intro h48 a H
        try have p48:=dT h48
        refine kP H (SC (bO fU O (SQ fun _ jf=>SR fun _ iF=>Rm O ?_)));clear H fU;intro a H;refine pF (Li:=[_]) (L:=(b3,_) :: (b4,_) :: (b5,_) :: Lt) H wn O O (FM hcb zT dL.now (Hp.owns (Li:=[_]) H.hp) zZ dL.part) O ?_;clear H;rintro v50 LG LH a w ⟨Ml,Nk,OM,qC,rfl,rfl,hb1,hb2⟩ sU H;dsimp only [lca,bW] at H;have OG:=aK sU zZ;refine kH H (Rn O (Rm O (Sp 52 O ?_ ?_))) <;> clear H
        · intro aR a H
          try have p52:=dT aR
          refine kH H (aV aR O (aV aR O (aO aR O (Pt aR O (Kz iF (Ct O O ?_))))));clear H iF;intro a H;refine aU ?_;refine (leave0 H results65 ?_).1
          first
            | exact H.hp.fK (L':=wW) (by repeat (first|exact fP _|apply List.Sublist.cons)) (.inr (hb2 (by simpa using pY)))
            | exact H.hp.fK (L':=qC) (by repeat (first|exact fP _|apply List.Sublist.cons)) (.inr (hb2 (by simpa using aR)))
            | exact H.hp.fK (L':=qB) (by repeat (first|exact fP _|apply List.Sublist.cons)) (.inr (hb4 (by simpa using jP)))
            | (cases yF
               · exact H.hp.fK (L':=om) (by repeat (first|exact fP _|apply List.Sublist.cons)) (.inr (hb2 O))
               exact H.hp.fK (L':=om) (by repeat (first|exact fP _|apply List.Sublist.cons)) (.inl (by have:=dL.len;(try rw [bJ]);rw [<- this];exact hb1 O)))
        intro aR a H
        try have p52:=dF aR
        have qM:=dL.jump (hb1 (by simpa using aR));refine kH H (YR Db aR O (by assumption) ?_);clear H;intro a H;refine kH H (YM aR O (YO aC 2 aR O (YO aC 2 aR O ?_)));clear H;intro a H;refine nQ _ H (wg H O O aR) O O O V V O ?_;clear H;intro a H;refine ku EK [_,_,_,_] H (wg H O O aR) O O O O ?_;clear H;intro a H;refine pF (Li:=[_,_,_,_]) (L:=qC) H (wg H O O aR) O O (hcb _ _ _ _ _ ⟨_,qM.head,by unfold rO;(first|rw [aN p48]|rw [aL p48]);rfl⟩ (fun b o h=>sU b o (zT b o h)) qM.now (Hp.owns (Li:=[_,_,_,_]) H.hp)) O ?_;clear H;rintro v59 zq qB a w ⟨Mq,rfl,hb3,hb4⟩ zV H;refine kH H (YN aR O (Pf aR O (Kz iF (Cd O ?_ ?_)))) <;> clear H iF
        · intro jP a H
          try have p61:=dT jP
          refine aU ?_;refine (leave0 H results65 ?_).1
          first
            | exact H.hp.fK (L':=wW) (by repeat (first|exact fP _|apply List.Sublist.cons)) (.inr (hb2 (by simpa using pY)))
            | exact H.hp.fK (L':=qC) (by repeat (first|exact fP _|apply List.Sublist.cons)) (.inr (hb2 (by simpa using aR)))
            | exact H.hp.fK (L':=qB) (by repeat (first|exact fP _|apply List.Sublist.cons)) (.inr (hb4 (by simpa using jP)))
            | (cases yF
               · exact H.hp.fK (L':=om) (by repeat (first|exact fP _|apply List.Sublist.cons)) (.inr (hb2 O))
               exact H.hp.fK (L':=om) (by repeat (first|exact fP _|apply List.Sublist.cons)) (.inl (by have:=dL.len;(try rw [bJ]);rw [<- this];exact hb1 O)))
        intro jP a H
        try have p61:=dF jP
        refine kP H (Kc jf (SC (Ro aC 2 O (Rd O ?_))));clear H jf;intro a H;refine bg aC 1 (vs:=[_]) H wn O ?_;clear H;intro w H;refine bg kW 3 (vs:=[_]) H wn O ?_;clear H;intro w H;refine kH H (Kn aT (SC (Ro aC 2 O (Rm O (Rd O ?_)))));clear H aT;intro a H;refine bg aC 2 (vs:=[_]) H wn O ?_;clear H;intro w H;refine kH H (Kn K8 (SC (Rd O (Rm O ?_))));clear H K8;intro a H;refine aj ?_;refine bE ((k+1,at_+1,at_+n1 l[k],true,j1+(qQ fr at_ lo).length+1,qB,zq)) (by exact (H.dz (Pl:=[_,_,_,_]) (bZ:=[_,_,_]) [1,2,3] Y O).sub ⟨O,O,O,O,O,O,O,O,aI⟩) ?_
        (try dsimp only);exact ⟨V,fun b o h=>zV b o (sU b o (iT b o (hgm b o h))),qM.step (hb3 (by simpa using jP)),V,by show at_+(n1 l[k]:Int)+(fM ((l.drop (k+1)).map aD.dat):Nat)<=4294967290;omega⟩
      intro h48 a H
      try have p48:=dF h48
      refine kP H (Kc fU (SQ fun _ jM=>SR fun _ iI=>Rm O ?_));clear H fU;intro a H;refine pF (Li:=[_]) (L:=(b3,_) :: (b4,_) :: (b5,_) :: Lt) H wn O O (FM hcb zT dL.now (Hp.owns (Li:=[_]) H.hp) zZ dL.part) O ?_;clear H;rintro v50 LG LH a w ⟨Ml,Nk,OM,qC,rfl,rfl,hb1,hb2⟩ sU H;dsimp only [lca,bW] at H;have OG:=aK sU zZ;refine kH H (Rn O (Rm O (Sp 52 O ?_ ?_))) <;> clear H
      · intro aR a H
        try have p52:=dT aR
        refine kH H (aV aR O (aV aR O (aO aR O (Pt aR O (Kz iI (Ct O O ?_))))));clear H iI;intro a H;refine aU ?_;refine (leave0 H results65 ?_).1
        first
          | exact H.hp.fK (L':=wW) (by repeat (first|exact fP _|apply List.Sublist.cons)) (.inr (hb2 (by simpa using pY)))
          | exact H.hp.fK (L':=qC) (by repeat (first|exact fP _|apply List.Sublist.cons)) (.inr (hb2 (by simpa using aR)))
          | exact H.hp.fK (L':=qB) (by repeat (first|exact fP _|apply List.Sublist.cons)) (.inr (hb4 (by simpa using jP)))
          | (cases yF
             · exact H.hp.fK (L':=om) (by repeat (first|exact fP _|apply List.Sublist.cons)) (.inr (hb2 O))
             exact H.hp.fK (L':=om) (by repeat (first|exact fP _|apply List.Sublist.cons)) (.inl (by have:=dL.len;(try rw [bJ]);rw [<- this];exact hb1 O)))
      intro aR a H
      try have p52:=dF aR
      have qM:=dL.jump (hb1 (by simpa using aR));refine kH H (YR Db aR O (by assumption) ?_);clear H;intro a H;refine kH H (YM aR O (YO aC 2 aR O (YO aC 2 aR O ?_)));clear H;intro a H;refine nQ _ H (wg H O O aR) O O O V V O ?_;clear H;intro a H;refine ku EK [_,_,_,_] H (wg H O O aR) O O O O ?_;clear H;intro a H;refine pF (Li:=[_,_,_,_]) (L:=qC) H (wg H O O aR) O O (hcb _ _ _ _ _ ⟨_,qM.head,by unfold rO;(first|rw [aN p48]|rw [aL p48]);rfl⟩ (fun b o h=>sU b o (zT b o h)) qM.now (Hp.owns (Li:=[_,_,_,_]) H.hp)) O ?_;clear H;rintro v59 zq qB a w ⟨Mq,rfl,hb3,hb4⟩ zV H;refine kH H (YN aR O (Pf aR O (Kz iI (Cd O ?_ ?_)))) <;> clear H iI
      · intro jP a H
        try have p61:=dT jP
        refine aU ?_;refine (leave0 H results65 ?_).1
        first
          | exact H.hp.fK (L':=wW) (by repeat (first|exact fP _|apply List.Sublist.cons)) (.inr (hb2 (by simpa using pY)))
          | exact H.hp.fK (L':=qC) (by repeat (first|exact fP _|apply List.Sublist.cons)) (.inr (hb2 (by simpa using aR)))
          | exact H.hp.fK (L':=qB) (by repeat (first|exact fP _|apply List.Sublist.cons)) (.inr (hb4 (by simpa using jP)))
          | (cases yF
             · exact H.hp.fK (L':=om) (by repeat (first|exact fP _|apply List.Sublist.cons)) (.inr (hb2 O))
             exact H.hp.fK (L':=om) (by repeat (first|exact fP _|apply List.Sublist.cons)) (.inl (by have:=dL.len;(try rw [bJ]);rw [<- this];exact hb1 O)))
      intro jP a H
      try have p61:=dF jP
      refine kP H (Kc jM (SC (Ro aC 2 O (Rd O ?_))));clear H jM;intro a H;refine bg aC 1 (vs:=[_]) H wn O ?_;clear H;intro w H;refine bg kW 3 (vs:=[_]) H wn O ?_;clear H;intro w H;refine kH H (Kn aT (SC (Ro aC 2 O (Rm O (Rd O ?_)))));clear H aT;intro a H;refine bg aC 2 (vs:=[_]) H wn O ?_;clear H;intro w H;refine kH H (Kn K8 (SC (Rd O (Rm O ?_))));clear H K8;intro a H;refine aj ?_;refine bE ((k+1,at_+1,at_+n1 l[k],true,j1+(qQ fr at_ lo).length+1,qB,zq)) (by exact (H.dz (Pl:=[_,_,_,_]) (bZ:=[_,_,_]) [1,2,3] Y O).sub ⟨O,O,O,O,O,O,O,O,aI⟩) ?_
      (try dsimp only);exact ⟨V,fun b o h=>zV b o (sU b o (iT b o (hgm b o h))),qM.step (hb3 (by simpa using jP)),V,by show at_+(n1 l[k]:Int)+(fM ((l.drop (k+1)).map aD.dat):Nat)<=4294967290;omega⟩
    intro h43 a H
    try have p43:=dF h43
    first
      | (have hn7:¬ l[k].kind=7:=p43)
      | (have hn3:¬ l[k].kind=3:=p43)
    refine kP H (SC (Rc O (bO dR O (Cd O ?_ ?_)))) <;> clear H dR
    · intro h43 a H
      try have p43:=dT h43
      have xD:l[k].kind=7∨l[k].kind=3:=by first|exact .inl p43|exact .inr p43
      rw [aL p32,aN xD] at dL;refine kP H (SR fun _ lJ=>av lJ O (SQ fun _ lK=>SR fun _ oh=>fG pq aC 0 O O (Rc O (Kz oh (Cd O ?_ ?_))))) <;> clear H lJ oh
      · intro h48 a H
        try have p48:=dT h48
        refine kP H (SC (bO lK O (SQ fun _ jE=>SR fun _ mM=>Rm O ?_)));clear H lK;intro a H;refine pF (Li:=[_]) (L:=(b3,_) :: (b4,_) :: (b5,_) :: Lt) H wn O O (FM hcb zT dL.now (Hp.owns (Li:=[_]) H.hp) zZ dL.part) O ?_;clear H;rintro v50 LG LH a w ⟨Ml,Nk,OM,qC,rfl,rfl,hb1,hb2⟩ sU H;dsimp only [lca,bW] at H;have OG:=aK sU zZ;refine kH H (Rn O (Rm O (Sp 52 O ?_ ?_))) <;> clear H
        · intro aR a H
          try have p52:=dT aR
          refine kH H (aV aR O (aV aR O (aO aR O (Pt aR O (Kz mM (Ct O O ?_))))));clear H mM;intro a H;refine aU ?_;refine (leave0 H results65 ?_).1
          first
            | exact H.hp.fK (L':=wW) (by repeat (first|exact fP _|apply List.Sublist.cons)) (.inr (hb2 (by simpa using pY)))
            | exact H.hp.fK (L':=qC) (by repeat (first|exact fP _|apply List.Sublist.cons)) (.inr (hb2 (by simpa using aR)))
            | exact H.hp.fK (L':=qB) (by repeat (first|exact fP _|apply List.Sublist.cons)) (.inr (hb4 (by simpa using jP)))
            | (cases yF
               · exact H.hp.fK (L':=om) (by repeat (first|exact fP _|apply List.Sublist.cons)) (.inr (hb2 O))
               exact H.hp.fK (L':=om) (by repeat (first|exact fP _|apply List.Sublist.cons)) (.inl (by have:=dL.len;(try rw [bJ]);rw [<- this];exact hb1 O)))
        intro aR a H
        try have p52:=dF aR
        have qM:=dL.jump (hb1 (by simpa using aR));refine kH H (YR Db aR O (by assumption) ?_);clear H;intro a H;refine kH H (YM aR O (YO aC 2 aR O (YO aC 2 aR O ?_)));clear H;intro a H;refine nQ _ H (wg H O O aR) O O O V V O ?_;clear H;intro a H;refine ku EK [_,_,_,_] H (wg H O O aR) O O O O ?_;clear H;intro a H;refine pF (Li:=[_,_,_,_]) (L:=qC) H (wg H O O aR) O O (hcb _ _ _ _ _ ⟨_,qM.head,by unfold rO;(first|rw [aN p48]|rw [aL p48]);rfl⟩ (fun b o h=>sU b o (zT b o h)) qM.now (Hp.owns (Li:=[_,_,_,_]) H.hp)) O ?_;clear H;rintro v59 zq qB a w ⟨Mq,rfl,hb3,hb4⟩ zV H;refine kH H (YN aR O (Pf aR O (Kz mM (Cd O ?_ ?_)))) <;> clear H mM
        · intro jP a H
          try have p61:=dT jP
          refine aU ?_;refine (leave0 H results65 ?_).1
          first
            | exact H.hp.fK (L':=wW) (by repeat (first|exact fP _|apply List.Sublist.cons)) (.inr (hb2 (by simpa using pY)))
            | exact H.hp.fK (L':=qC) (by repeat (first|exact fP _|apply List.Sublist.cons)) (.inr (hb2 (by simpa using aR)))
            | exact H.hp.fK (L':=qB) (by repeat (first|exact fP _|apply List.Sublist.cons)) (.inr (hb4 (by simpa using jP)))
            | (cases yF
               · exact H.hp.fK (L':=om) (by repeat (first|exact fP _|apply List.Sublist.cons)) (.inr (hb2 O))
               exact H.hp.fK (L':=om) (by repeat (first|exact fP _|apply List.Sublist.cons)) (.inl (by have:=dL.len;(try rw [bJ]);rw [<- this];exact hb1 O)))
        intro jP a H
        try have p61:=dF jP
        refine kP H (Kc jE (SC (Ro aC 2 O (Rd O ?_))));clear H jE;intro a H;refine bg aC 1 (vs:=[_]) H wn O ?_;clear H;intro w H;refine bg kW 3 (vs:=[_]) H wn O ?_;clear H;intro w H;refine kH H (Kn aT (SC (Ro aC 2 O (Rm O (Rd O ?_)))));clear H aT;intro a H;refine bg aC 2 (vs:=[_]) H wn O ?_;clear H;intro w H;refine kH H (Kn K8 (SC (Rd O (Rm O ?_))));clear H K8;intro a H;refine aj ?_;refine bE ((k+1,at_+1,at_+n1 l[k],true,j1+(qQ fr at_ lo).length+1,qB,zq)) (by exact (H.dz (Pl:=[_,_,_,_]) (bZ:=[_,_,_]) [1,2,3] Y O).sub ⟨O,O,O,O,O,O,O,O,aI⟩) ?_
        (try dsimp only);exact ⟨V,fun b o h=>zV b o (sU b o (iT b o (hgm b o h))),qM.step (hb3 (by simpa using jP)),V,by show at_+(n1 l[k]:Int)+(fM ((l.drop (k+1)).map aD.dat):Nat)<=4294967290;omega⟩
      intro h48 a H
      try have p48:=dF h48
      refine kP H (Kc lK (SQ fun _ nI=>SR fun _ lM=>Rm O ?_));clear H lK;intro a H;refine pF (Li:=[_]) (L:=(b3,_) :: (b4,_) :: (b5,_) :: Lt) H wn O O (FM hcb zT dL.now (Hp.owns (Li:=[_]) H.hp) zZ dL.part) O ?_;clear H;rintro v50 LG LH a w ⟨Ml,Nk,OM,qC,rfl,rfl,hb1,hb2⟩ sU H;dsimp only [lca,bW] at H;have OG:=aK sU zZ;refine kH H (Rn O (Rm O (Sp 52 O ?_ ?_))) <;> clear H
      · intro aR a H
        try have p52:=dT aR
        refine kH H (aV aR O (aV aR O (aO aR O (Pt aR O (Kz lM (Ct O O ?_))))));clear H lM;intro a H;refine aU ?_;refine (leave0 H results65 ?_).1
        first
          | exact H.hp.fK (L':=wW) (by repeat (first|exact fP _|apply List.Sublist.cons)) (.inr (hb2 (by simpa using pY)))
          | exact H.hp.fK (L':=qC) (by repeat (first|exact fP _|apply List.Sublist.cons)) (.inr (hb2 (by simpa using aR)))
          | exact H.hp.fK (L':=qB) (by repeat (first|exact fP _|apply List.Sublist.cons)) (.inr (hb4 (by simpa using jP)))
          | (cases yF
             · exact H.hp.fK (L':=om) (by repeat (first|exact fP _|apply List.Sublist.cons)) (.inr (hb2 O))
             exact H.hp.fK (L':=om) (by repeat (first|exact fP _|apply List.Sublist.cons)) (.inl (by have:=dL.len;(try rw [bJ]);rw [<- this];exact hb1 O)))
      intro aR a H
      try have p52:=dF aR
      have qM:=dL.jump (hb1 (by simpa using aR));refine kH H (YR Db aR O (by assumption) ?_);clear H;intro a H;refine kH H (YM aR O (YO aC 2 aR O (YO aC 2 aR O ?_)));clear H;intro a H;refine nQ _ H (wg H O O aR) O O O V V O ?_;clear H;intro a H;refine ku EK [_,_,_,_] H (wg H O O aR) O O O O ?_;clear H;intro a H;refine pF (Li:=[_,_,_,_]) (L:=qC) H (wg H O O aR) O O (hcb _ _ _ _ _ ⟨_,qM.head,by unfold rO;(first|rw [aN p48]|rw [aL p48]);rfl⟩ (fun b o h=>sU b o (zT b o h)) qM.now (Hp.owns (Li:=[_,_,_,_]) H.hp)) O ?_;clear H;rintro v59 zq qB a w ⟨Mq,rfl,hb3,hb4⟩ zV H;refine kH H (YN aR O (Pf aR O (Kz lM (Cd O ?_ ?_)))) <;> clear H lM
      · intro jP a H
        try have p61:=dT jP
        refine aU ?_;refine (leave0 H results65 ?_).1
        first
          | exact H.hp.fK (L':=wW) (by repeat (first|exact fP _|apply List.Sublist.cons)) (.inr (hb2 (by simpa using pY)))
          | exact H.hp.fK (L':=qC) (by repeat (first|exact fP _|apply List.Sublist.cons)) (.inr (hb2 (by simpa using aR)))
          | exact H.hp.fK (L':=qB) (by repeat (first|exact fP _|apply List.Sublist.cons)) (.inr (hb4 (by simpa using jP)))
          | (cases yF
             · exact H.hp.fK (L':=om) (by repeat (first|exact fP _|apply List.Sublist.cons)) (.inr (hb2 O))
             exact H.hp.fK (L':=om) (by repeat (first|exact fP _|apply List.Sublist.cons)) (.inl (by have:=dL.len;(try rw [bJ]);rw [<- this];exact hb1 O)))
      intro jP a H
      try have p61:=dF jP
      refine kP H (Kc nI (SC (Ro aC 2 O (Rd O ?_))));clear H nI;intro a H;refine bg aC 1 (vs:=[_]) H wn O ?_;clear H;intro w H;refine bg kW 3 (vs:=[_]) H wn O ?_;clear H;intro w H;refine kH H (Kn aT (SC (Ro aC 2 O (Rm O (Rd O ?_)))));clear H aT;intro a H;refine bg aC 2 (vs:=[_]) H wn O ?_;clear H;intro w H;refine kH H (Kn K8 (SC (Rd O (Rm O ?_))));clear H K8;intro a H;refine aj ?_;refine bE ((k+1,at_+1,at_+n1 l[k],true,j1+(qQ fr at_ lo).length+1,qB,zq)) (by exact (H.dz (Pl:=[_,_,_,_]) (bZ:=[_,_,_]) [1,2,3] Y O).sub ⟨O,O,O,O,O,O,O,O,aI⟩) ?_
      (try dsimp only);exact ⟨V,fun b o h=>zV b o (sU b o (iT b o (hgm b o h))),qM.step (hb3 (by simpa using jP)),V,by show at_+(n1 l[k]:Int)+(fM ((l.drop (k+1)).map aD.dat):Nat)<=4294967290;omega⟩
    intro h43 a H
    try have p43:=dF h43
    first
      | (have hn7:¬ l[k].kind=7:=p43)
      | (have hn3:¬ l[k].kind=3:=p43)
    refine kP H (SC (Ro kW 3 O (Rm O (Sp 23 O ?_ ?_)))) <;> clear H
    · intro h23 a H
      try have CS:=dT h23
      refine kH H (YF pq h23 O (YO aC 0 h23 O (YC h23 O (YM h23 O (Sp 27 O ?_ ?_))))) <;> clear H
      · intro h27 a H
        try have p27:=dT h27
        refine kH H (aO h27 O (PT h23 h27 O (Pt h23 O ?_)));clear H;intro a H;refine bg kW 3 (vs:=[_]) H wn O ?_;clear H;intro w H;refine kH H (Kn aT (SC (Ro aC 2 O (Rm O (Rd O ?_)))));clear H aT;intro a H;refine bg aC 2 (vs:=[_]) H wn O ?_;clear H;intro w H;refine kH H (Kn K8 (SC (Rd O (Rm O ?_))));clear H K8;intro a H;refine aj ?_;refine bE ((k+1,fr,at_+n1 l[k],true,j1,Lt,oP)) (by exact (H.dz (Pl:=[_,_,_,_]) (bZ:=[_,_,_]) [1,2,3] Y O).sub ⟨O,O,O,O,O,O,O,O,aI⟩) ?_
        (try dsimp only);exact ⟨V,fun b o h=>iT b o (hgm b o h),by rw [aL p32,aZ,h23,wZ p27] at dL;exact dL,V,by show at_+(n1 l[k]:Int)+(fM ((l.drop (k+1)).map aD.dat):Nat)<=4294967290;omega⟩
      intro h27 a H
      try have p27:=dF h27
      refine kH H (YM h27 O (YC h27 O (PF h23 h27 O (Pt h23 O ?_))));clear H;intro a H;refine bg kW 3 (vs:=[_]) H wn O ?_;clear H;intro w H;refine kH H (Kn aT (SC (Ro aC 2 O (Rm O (Rd O ?_)))));clear H aT;intro a H;refine bg aC 2 (vs:=[_]) H wn O ?_;clear H;intro w H;refine kH H (Kn K8 (SC (Rd O (Rm O ?_))));clear H K8;intro a H;refine aj ?_;refine bE ((k+1,fr,at_+n1 l[k],decide ((n1 l[k]:Int)=0),j1,Lt,oP)) (by exact (H.dz (Pl:=[_,_,_,_]) (bZ:=[_,_,_]) [1,2,3] Y O).sub ⟨O,O,O,O,O,O,O,O,aI⟩) ?_
      (try dsimp only);exact ⟨V,fun b o h=>iT b o (hgm b o h),by rw [aL p32,aZ,h23,zy p27,Bool.true_and,Bool.false_or,show decide (n1 l[k]=0)=decide ((n1 l[k]:Int)=0) by simp] at dL;exact dL,V,by show at_+(n1 l[k]:Int)+(fM ((l.drop (k+1)).map aD.dat):Nat)<=4294967290;omega⟩
    intro h23 a H
    try have CS:=dF h23
    refine kH H (aO h23 O (aO h23 O (Ku O (Ku O (Ks h23 O (Pf h23 O ?_))))));clear H;intro a H;refine bg kW 3 (vs:=[_]) H wn O ?_;clear H;intro w H;refine kH H (Kn aT (SC (Ro aC 2 O (Rm O (Rd O ?_)))));clear H aT;intro a H;refine bg aC 2 (vs:=[_]) H wn O ?_;clear H;intro w H;refine kH H (Kn K8 (SC (Rd O (Rm O ?_))));clear H K8;intro a H;refine aj ?_;refine bE ((k+1,fr,at_+n1 l[k],false,j1,Lt,oP)) (by exact (H.dz (Pl:=[_,_,_,_]) (bZ:=[_,_,_]) [1,2,3] Y O).sub ⟨O,O,O,O,O,O,O,O,aI⟩) ?_
    (try dsimp only);exact ⟨V,fun b o h=>iT b o (hgm b o h),by rw [aL p32,aZ,h23] at dL;exact dL,V,by show at_+(n1 l[k]:Int)+(fM ((l.drop (k+1)).map aD.dat):Nat)<=4294967290;omega⟩
  intro lC a H
  try have oK:=dF lC
  refine dJ ?_;refine K4 _ _ ?_;clear K4;rw [List.drop_of_length_le V,pU] at dL;have hyg:=aK hgm hy;refine kP H (SC (Rm O ?_));clear H;intro a H;refine pF (Li:=[]) (L:=(b3,_) :: (b4,_) :: (b5,_) :: Lt) H wn O O (FM hcb (fun b o h=>hgm b o (hma b o h)) dL.now (Hp.owns (Li:=[]) H.hp) hyg dL.rem) O ?_;clear H;rintro v69 YH L69 a w ⟨yF,ajq,akj,om,rfl,rfl,hb1,hb2⟩ UE H;refine aj ?_;refine (leave0 H results65 ?_).2
  first
    | exact H.hp.fK (L':=wW) (by repeat (first|exact fP _|apply List.Sublist.cons)) (.inr (hb2 (by simpa using pY)))
    | exact H.hp.fK (L':=qC) (by repeat (first|exact fP _|apply List.Sublist.cons)) (.inr (hb2 (by simpa using aR)))
    | exact H.hp.fK (L':=qB) (by repeat (first|exact fP _|apply List.Sublist.cons)) (.inr (hb4 (by simpa using jP)))
    | (cases yF
       · exact H.hp.fK (L':=om) (by repeat (first|exact fP _|apply List.Sublist.cons)) (.inr (hb2 O))
       exact H.hp.fK (L':=om) (by repeat (first|exact fP _|apply List.Sublist.cons)) (.inl (by have:=dL.len;(try rw [bJ]);rw [<- this];exact hb1 O)))
theorem Na:bL 68:=bN func68 O
def fE:Nat->List aD->List (Nat × aD)
 | _,[]=>[]
 | o,x :: l=>(o,x) :: fE (o+lH x) l
def Er (a:Nat × aD):AP:=fun args g=>∃ cs,args=[vi a.1,.agg cs.toArray]∧aY g a.2.dat cs
theorem J5 {A:List (Nat × aD)} {k:Nat} {args:List ak} {g:GH} (h:uJ (A.map Er) k args g):∃ (hk:k < A.length) (cs:List ak),args=[vi A[k].1,.agg cs.toArray]∧aY g A[k].2.dat cs:=by
 obtain ⟨p,hp,hargs⟩:=h;rw [nM] at hp;obtain ⟨q,hq,rfl⟩:=mZ.1 hp;obtain ⟨hk,rfl⟩:=gN.1 hq;obtain ⟨cs,h1,h2⟩:=hargs;exact ⟨hk,cs,h1,h2⟩
theorem OX:∀ (l:List aD) (o:Nat),(fE o l).length=l.length
 | [],_=>rfl
 | x :: l,o=>by simp [fE,OX l]
theorem KX (x:aD):lH x < iy x.dat:=by
 have:=oO x;have h2:=MK x.text
 unfold lH;split <;> omega
set_option maxHeartbeats 1000000 in
theorem aeX {G:GH} {bd:Nat} {l:List aD} {v:ak} (hb:aS G bd 0=some v) (hv:aF G (.sl 11 (l.map aD.dat)) v) (hz:cK l<=4294967290) :
  Iter prog G (.func (.func 68) #[] #[(aJ bd 0)]) ((fE 0 l).map Er):=by
 intro J Jx fv G1 L w0 JF hGi qH hJx hJ hO hcb;refine sI (caps:=[(aJ bd 0)]) Na ?_;obtain ⟨A,c,rfl,hc1,hc2,hg⟩:=hv.slice;rw [bJ] at *;have hll:=yj l;replace hb:=aK hGi hb;refine mP (N:=28) (T:=[(0,_),(1,_)]) func68 O ntmps68 O O hO ?_;intro a H;refine kP H (SR fun _ K1=>av K1 O (SR fun _ K2=>Rg lG O (by assumption) ?_));clear H K1;intro a H;refine kH H (Rl iB O (Rm O (Kz K2 (SB ?_))));clear H K2;intro a H;skip;refine dY (ι:=Nat × Nat × Nat × OL × GH) (Tc:=[(0,_),(8,_),(9,_)]) (Lc:=[]) (fun gh=>[(3,vi gh.2.1),(10,vi gh.1)]) (fun gh=>[]++gh.2.2.2.1) (fun gh=>gh.2.2.2.2) (fun gh=>gh.1<=l.length∧(∀ b o,G1 b=some o->gh.2.2.2.2 b=some o)∧Now ((fE 0 l).map Er) Er J (fE 0 l).length gh.2.2.1 (fE gh.2.1 (l.drop gh.1)) gh.2.2.2.2 gh.2.2.2.1∧gh.2.1+cK (l.drop gh.1)<=4294967290) (fun gh=>l.length - gh.1) ((0,0,0,L,G1)) (by exact H.sub ⟨O,O,O,O,O,aI⟩) ?_ ?_
 ·exact ⟨V,fun _ _ h=>h,⟨hJ,fun i a h=>by rw [eH,nM];rw [List.drop_zero] at h;rw [h];rfl,by simp⟩,by simp;omega⟩
 clear H;rintro ⟨k,at_,j1,Lt,g⟩ a w hI H;dsimp only at hI H;obtain ⟨hk,hgm,dL,hat⟩:=hI;dsimp only [lca,bW] at H;refine gy (fun _ K3=>?_);skip;refine kP H (SC (Rc O (Kn K3 (SQ fun _ K4=>Cd O ?_ ?_)))) <;> clear H K3
 ·intro h11 a H
  try have oI:=dT h11
  have hk2:k < l.length:=by omega
  obtain ⟨b,o,pA,pn,pc,dA,dn,dc,yA,yn,yc,fA,fn,fc,rA,rn,rc,rfl,hrow,hhd,hfl,hrw⟩:=zL hk2 hg;have oG:∀ b o,G b=some o->g b=some o:=fun b o h=>hgm b o (hGi b o h);replace hrow:=fun j u hj=>aK oG (hrow j u hj);have hsz2:=BH (dV hk2);have hn1:=KX l[k];have hzi:=oO l[k];rw [List.drop_eq_getElem_cons hk2] at dL hat;rw [cK,gV,fM] at hat;rw [fE] at dL;refine kP H (Kc K4 (SQ fun _ K5=>SB (SR fun _ K6=>Ri iB fB O O ?_)));clear H K4;intro a H;refine bV fB (cs:=[_,_,_,_,_,_,_,_,_,_,_]) H wn O O (fun j v hj=>H.hp.aS (hrow j v hj)) O ?_;clear H;intro a H;refine gX fB H wn O ?_;clear H;intro b5 a w hb5 H;refine bg fB 0 (vs:=[_,_,_,_,_,_,_,_,_,_,_]) H wn O ?_;clear H;intro w H;refine K6 _ _ ?_;clear K6;refine kP H (SQ fun _ K7=>SR fun _ K8=>Rm O (Rm O ?_));clear H;intro a H;refine bV fB (cs:=[_,_,_,_,_,_,_,_,_,_,_]) H wn O O (H.hp.bR 0 O O) O ?_;clear H;intro a H;refine pF (Li:=[_]) (L:=Lt) H wn O O (hcb j1 _ _ _ _ ⟨_,dL.head,_,O,aY.mkItem (hhd.mono oG) (hfl.mono oG) (hrw.mono oG)⟩ hgm dL.now (Hp.owns (Li:=[_]) H.hp)) O ?_;clear H;rintro v17 vM LV a w ⟨b17,rfl,hb1,hb2⟩ mE H;refine kH H (Rn O (Kz K8 (Cd O ?_ ?_))) <;> clear H K8
  ·intro h18 a H
   try have nY:=dT h18
   refine aU ?_;refine (leave0 H results68 ?_).1
   first
    | exact H.hp.fK (L':=LV) (by repeat (first|exact fP _|apply List.Sublist.cons)) (.inr (hb2 (by simpa using h18)))
    | exact H.hp.dP (.inl (by have:=dL.len;rw [List.drop_of_length_le V] at this;simp only [fE,List.length_nil,qD] at this;(try rw [bJ]);rw [<- this];exact dL.now))
  intro h18 a H
  try have nY:=dF h18
  refine lV ?_;refine K7 _ _ ?_;clear K7;refine gU (fun _ K9=>?_);refine bV fB (cs:=[_,_,_,_,_,_,_,_,_,_,_]) H wn O O (H.hp.bR 0 O O) O ?_;clear H;intro a H;refine s_call I9 H wn O (KY _ _ H.ro _ _ _ _ _ _ _ _ _ _ V) O ?_;clear H;rintro v21 _ a w ⟨rfl,rfl⟩ - H;refine kH H (Rm O ?_);clear H;intro a H;(iterate 2 refine eZ H wn O O O ?_;clear H;intro a H);refine kH H (Ra O (av K9 O (SC (Rm O (Rm O (Rd O (bO K5 O (SC (Rd O (Rm O ?_))))))))));clear H K9 K5;intro a H;refine aj ?_;refine bE ((k+1,at_+lH l[k],j1+1,LV,vM)) (by exact (H.dz (Pl:=[_]) (bZ:=[]) [] Y O).sub ⟨O,O,O,O,O,aI⟩) ?_
  (try dsimp only);exact ⟨V,fun b o h=>mE b o (hgm b o h),dL.step (hb1 (by simpa using h18)),by show at_+lH l[k]+fM ((l.drop (k+1)).map aD.dat)<=4294967290;omega⟩
 intro h11 a H
 try have oI:=dF h11
 refine dJ ?_;refine (leave0 H results68 ?_).2
 first
  | exact H.hp.fK (L':=LV) (by repeat (first|exact fP _|apply List.Sublist.cons)) (.inr (hb2 (by simpa using h18)))
  | exact H.hp.dP (.inl (by have:=dL.len;rw [List.drop_of_length_le V] at this;simp only [fE,List.length_nil,qD] at this;(try rw [bJ]);rw [<- this];exact dL.now))
theorem Vj (G:GH) (w0:World) (hG:Hold G w0) (l:List aD) (v:ak) (hv:aF G (.sl 11 (l.map aD.dat)) v) (hz:cK l<=4294967290) :
  Calls prog 47 #[v] w0 (bQ w0 G fun u G'=>∃ bd,u=.func (.func 68) #[] #[(aJ bd 0)]∧Iter prog G' u ((fE 0 l).map Er)):=by
 obtain ⟨A,c,rfl,hc1,hc2,hg⟩:=hv.slice;refine eN [(0,_)] func47 O ntmps47 O O hG ?_;intro a H;refine gU (fun _ K1=>?_);refine jQ (cs:=[_]) H wn O O O ?_;clear H;intro b1 a w hb1 H;refine kH H (av K1 O (SR fun _ K2=>?_));clear H K1;intro a H;refine Bw H wn O O ?_;clear H;intro a H;refine kH H (av K2 O ?_);clear H K2;intro a H;refine aU ?_;obtain ⟨G2,hm2,hb1,H⟩:=H.kE;refine lv H results47 O ?_;exact H.rt ⟨b1,O,aeX (by unfold aS;rw [hb1];rfl) (hv.mono hm2) hz⟩
section
def Qb (l:List Oper) (bU:List (List Nat)) (B:List Nat):Bool :=
 B.all (fun b=>Nat.blt b l.length && (List.range l.length).all fun i=>B.contains i || (bU.getD b []).contains i) &&
 (List.range l.length).all fun i=>B.contains i || (bU.getD i []).all fun j=>!B.contains j
section
variable {N:Nat} {D:List Deferred} {w0:World} {F:Nat->Prop} {G0 G G1 G2:GH} {L L1 L2:OL} {T Xs:List (Nat × ak)}
variable {r:Option Nat} {P:Program} {Q:Exit->Act->World->Prop} {l:List Oper} {a a':Act} {w w':World}
theorem BS {x y:Nat} (h:x≠y):Nat.beq x y=false:=by
 cases h':Nat.beq x y with
 | false=>rfl
 | true=>exact absurd (vQ h') h
theorem AZ {i e:Nat} (h:eT l i=some e):i < l.length:=by
 unfold eT at h
 by_cases hl:i < l.length
 ·exact hl
 ·rw [List.getElem?_eq_none V] at h;cases h
theorem ZE {id:Nat} (hm:P.follows .mixedOrders=true) (bU:List (List Nat)) (B:List Nat) (hk:vW l bU=true) (hB:Qb l bU B=true) (pr:Nat->ak->GH->Prop)
  (qq:(Nat->Bool)->Act->World->Prop) (H:St N D w0 F G0 G L T a w)
  (hstep:allI (fun i o=>∀ S a w G1,B.contains i=false->S i=false->(∀ j∈bU.getD i [],S j=true)->(∀ k o,G k=some o->G1 k=some o)->St N D w0 F G0 G1 L T a w->(∀ i d,S i=true->eT l i=some d->∃ v,a.tmps[d]?=some v∧pr i v G1) ->
   WL r P l.toArray (fun e a' w'=>e=.normal∧DX N D w0 F G0 G L T l pr (fq S i) a' w') [o] a w) 0 l)
  (hmid:∀ S a w G1,(∀ k o,G k=some o->G1 k=some o)->St N D w0 F G0 G1 L T a w->(∀ i d,B.contains i=false->eT l i=some d->∃ v,a.tmps[d]?=some v∧pr i v G1)->(∀ i,B.contains i=true->S i=false)->qq S a w)
  (aeM:allI (fun i o=>∀ S a w,B.contains i=true->S i=false->(∀ j∈bU.getD i [],S j=true)->(∀ j,j < l.length->i∈bU.getD j []->S j=false)->qq S a w->WL r P l.toArray (fun e a' w'=>e=.normal∧qq (fq S i) a' w') [o] a w) 0 l)
  (hend:∀ S a w,(∀ i,i < l.length->S i=true)->qq S a w->Q .normal a w):WP r P (.region id l.toArray true) Q a w:=by
 simp only [Qb,iG,gW,rF,Bool.or_eq_true,uO] at hB
 have hB1:∀ b∈B,b < l.length∧∀ i,i < l.length->i∉B->i∈bU.getD b []:=fun b hb=>⟨Eq.mp Nat.blt_eq (hB.1 b hb).1,fun i hi hn=>((hB.1 b hb).2 i hi).resolve_left hn⟩
 refine FK hm bU hk (fun S a w=>((∀ i,B.contains i=true->S i=false)∧DX N D w0 F G0 G L T l pr S a w)∨((∀ i,i < l.length->B.contains i=false->S i=true)∧qq S a w))
  (.inl ⟨fun _ _=>rfl,G,fun _ _ h=>h,H.move H.hp.drew,fun _ _ h=>by cases h⟩) ?_ ?_
 ·intro i o S a w ho hX ah mU hdesc
  have hil:i < l.length:=(gN.1 ho).1
  by_cases hbi:B.contains i=true
  ·have Uo:i∈B:=by simpa using hbi
   have hall:∀ j,j < l.length->B.contains j=false->S j=true:=fun j hj hb=>mU j ((hB1 i Uo).2 j hj (by simpa using hb))
   have hY:qq S a w:=by
    rcases hX with ⟨h1,G1,hG,HS,hv⟩|⟨_,hY⟩
    ·exact hmid S a w G1 hG HS (fun j e hb he=>hv j e (hall j (AZ he) hb) he) h1
    ·exact hY
   have h2:=zC aeM i o ho
   rw [eH] at h2
   refine rZ (fun e a' w' ⟨he,hD⟩=>⟨he,.inr ⟨fun j hj hb=>?_,hD⟩⟩) (h2 S a w hbi ah mU hdesc hY)
   unfold fq;split
   ·rfl
   ·exact hall j hj hb
  ·have xH:B.contains i=false:=by cases h:B.contains i with|false=>rfl|true=>exact absurd h hbi
   rcases hX with ⟨h1,G1,hG,HS,hv⟩|⟨h0,_⟩
   ·have h2:=zC hstep i o ho
    rw [eH] at h2
    refine rZ (fun e a' w' ⟨he,hD⟩=>⟨he,.inl ⟨fun j hj=>?_,hD⟩⟩) (h2 S a w G1 xH ah mU hG HS hv)
    unfold fq
    rw [aL (by rintro rfl;rw [xH] at hj;cases hj)]
    exact h1 j hj
   ·rw [h0 i hil xH] at ah;cases ah
 ·intro S a w hall hX
  rcases hX with ⟨h1,G1,hG,HS,hv⟩|⟨_,hY⟩
  ·exact hend S a w hall (hmid S a w G1 hG HS (fun j e _ he=>hv j e (hall j (AZ he)) he) h1)
  ·exact hend S a w hall hY
theorem I6 {pr:Nat->ak->GH->Prop} {S:Nat->Bool} {i:Nat} (hi:eT l i=none) (HT:St N D w0 F G0 G1 L T a w) (hG:∀ k o,G k=some o->G1 k=some o) (hv:∀ i d,S i=true->eT l i=some d->∃ v,a.tmps[d]?=some v∧pr i v G1)
  (H:St N D w0 F G0 G1 L (Xs++full N a) a w'):DX N D w0 F G0 G L T l pr (fq S i) a w' :=
 ⟨G1,hG,HT.move H.hp,fun j e hj he=>hv j e (by
  unfold fq at hj
  by_cases hji:j=i
  ·subst hji;rw [hi] at he;cases he
  ·rwa [aL hji] at hj) he⟩
theorem oL (A B C D':OL):(A++(B++(C++D'))).Perm ((A++(B++D'))++C):=by
 rw [oU A,oU B]
 exact List.Perm.append_left A (List.Perm.append_left B List.perm_append_comm)
theorem Ev (A B C D':OL):A++(B++(C++D'))=(A++(B++C))++D':=by simp
theorem EH:∀ (vs c:List ak) (o:Nat),o+vs.length<=c.length->setRow c o vs=c.take o++vs++c.drop (o+vs.length)
 | [],c,o,_=>by simp [setRow]
 | v :: vs,c,o,h=>by
  simp only [ko] at h
  rw [setRow,EH vs (c.set o v) (o+1) (by simp;omega),List.take_set,List.drop_set,aN V,jq V]
  have e:((c.take o++[c[o]]).set o v)=c.take o++[v]:=by
   have hl:(c.take o).length=o:=by simp;omega
   rw [List.set_append,aL V,hl,Nat.sub_self];rfl
  rw [e,ko,show o+1+vs.length=o+(vs.length+1) by omega]
  simp
theorem aW.over {e sz n b cap:Nat} {cur:Array ak} {xs zc news:List ak} (h:aW e sz (.slice (some ⟨b,0,none⟩) (n+1) cap) (n+1) (xs++zc) [(b,.cells cur e (0,0))]) (hx:xs.length=n*sz) (hn:news.length=sz) :
  n*sz+news.length<=cur.toList.length∧aW e sz (.slice (some ⟨b,0,none⟩) (n+1) cap) (n+1) (xs++news) [(b,.cells (setRow cur.toList (n*sz) news).toArray e (0,0))]:=by
 rcases h.2 with ⟨h1,_⟩|⟨b',cap',cur',h1,h2,h3,h4,h5,h6⟩
 ·cases h1
 ·cases h1
  cases h2
  have e1:(n+1)*sz=n*sz+sz:=Nat.succ_mul n sz
  have hle:n*sz+news.length<=cur.toList.length:=by
   rw [hn,<- e1,BP,h5];exact Nat.mul_le_mul_right _ h3
  have hlz:(xs++zc).length=(n+1)*sz:=h.1
  refine ⟨hle,by simp [hx,hn,e1],.inr ⟨b,cap,_,O,O,h3,h4,by simp [KG,h5],?_⟩⟩
  have h7:cur.toList.take (n*sz)=xs:=by
   have:=gZ (List.take (n*sz)) h6
   rw [List.take_take,Nat.min_eq_left V,List.take_left' hx] at this
   exact this
  rw [List.toList_toArray,EH _ _ _ hle,e1,h7,hn]
  exact List.take_left' (by simp [hx,hn])
theorem St.weak (h:St N D w0 F G0 G L Xs a w) (hs:∀ t v,lk T t=some v->lk Xs t=some v):St N D w0 F G0 G L T a w:=⟨h.jU,fun t v ht=>h.get t v (hs t v ht),h.oz,h.hp⟩
theorem St.uS {s:Nat} {v:ak} (h:St N D w0 F G0 G L ((s,v) :: T) a w) (hs:lk T s=none):St N D w0 F G0 G L T a w:=h.weak fun t u ht=>by
 rw [fJ (fun e=>by subst e;rw [hs] at ht;cases ht)];exact ht
abbrev Iy (tS tE s0 s1 s2 s3 s4 s5 p0 p1:Nat) (zv:ak) (y0 y1 y2 y3 y4 y5 y6 y7:TypeId) (q0 q1 q2 q3 q4 q5 q6 q7:String) (f0 f1 f2 f3 f4 f5 f6 f7:Array Edge):List Oper :=
  [⟨some s0,.load tS (.tmp p0),y0,q0,f0,none⟩,⟨some s1,.load tE (.tmp p1),y1,q1,f1,none⟩,⟨some s2,.call { callee:=.builtin .len,args:=#[.tmp s0],argTypes:=#[tS] },y2,q2,f2,none⟩,
   ⟨some s3,.buildSlice tS 1 #[(0,.const zv)],y3,q3,f3,none⟩,⟨some s4,.call { callee:=.builtin .append,args:=#[.tmp s0,.tmp s3],argTypes:=#[tS,tS] },y4,q4,f4,none⟩,
   ⟨some s5,.indexAddr tS (.tmp s4) (.tmp s2),y5,q5,f5,none⟩,⟨none,.store tE (.tmp s5) (.tmp s1),y6,q6,f6,none⟩,⟨none,.store tS (.tmp p0) (.tmp s4),y7,q7,f7,none⟩]
abbrev Rw:List (List Nat):=[[],[],[0],[],[0,1,2,3],[0,1,2,3,4],[0,1,2,3,4,5],[0,1,2,3,4]]
set_option maxHeartbeats 1000000 in
theorem R6 {id tS tE s0 s1 s2 s3 s4 s5 p0 p1 i0 i1 bp bx n c0 sz bytes szS:Nat} {A0:Option Addr} {zero ajg xs news:List ak} {zv:ak} {Li Lo:OL} {y0 y1 y2 y3 y4 y5 y6 y7:TypeId} {q0 q1 q2 q3 q4 q5 q6 q7:String} {f0 f1 f2 f3 f4 f5 f6 f7:Array Edge}
  (hm:P.follows .mixedOrders=true) (hk:vW (Iy tS tE s0 s1 s2 s3 s4 s5 p0 p1 zv y0 y1 y2 y3 y4 y5 y6 y7 q0 q1 q2 q3 q4 q5 q6 q7 f0 f1 f2 f3 f4 f5 f6 f7) Rw=true)
  (hs:P.underlying tS=some (.slice tE)) (UZ:Ty P tS 1 szS ajg false) (ht:Ty P tE sz bytes zero true) (hsz0:Nat.blt 0 sz=true) (hsz1:Nat.ble sz 1000=true) (hzl:Nat.beq zero.length sz=true) (hzc:zv.cells.toList=zero) (hz1:zero.all Value.oneCell'=true)
  (hok:MQ (Iy tS tE s0 s1 s2 s3 s4 s5 p0 p1 zv y0 y1 y2 y3 y4 y5 y6 y7 q0 q1 q2 q3 q4 q5 q6 q7 f0 f1 f2 f3 f4 f5 f6 f7) T=true) (hsl:[s0,s1,s2,s3,s4,s5].all (fun s=>(lk T s).isNone && Nat.blt s N)=true) (hnd:[s0,s1,s2,s3,s4,s5].Nodup)
  (H:St N D w0 F G0 G (Li++Lo) T a w) (hp0:lk T p0=some (aJ bp 0)) (hp1:lk T p1=some (aJ bx 0))
  (hi0:Li[i0]?=some (bp,.cells #[.slice A0 n c0] tS (0,0))) (hi1:Li[i1]?=some (bx,.cells news.toArray tE (0,0))) (hnl:news.length=sz) (hn1:news.all Value.oneCell'=true)
  (hrow:aW tE sz (.slice A0 n c0) n xs Lo) (h63:n+1<=maxLen) (hb':(n+1)*bytes<=140737488355328)
  (hend:∀ v' jg G1 a' w',(∀ k o,G k=some o->G1 k=some o)->aW tE sz v' (n+1) (xs++news) jg->St N D w0 F G0 G1 (Li.set i0 (bp,.cells #[v'] tS (0,0))++jg) T a' w'->Q .normal a' w') :
  WP r P (.region id (Iy tS tE s0 s1 s2 s3 s4 s5 p0 p1 zv y0 y1 y2 y3 y4 y5 y6 y7 q0 q1 q2 q3 q4 q5 q6 q7 f0 f1 f2 f3 f4 f5 f6 f7).toArray true) Q a w:=by
 have hb0:i0 < Li.length:=(gN.1 hi0).1
 have hb1:i1 < Li.length:=(gN.1 hi1).1
 simp only [List.all_cons,List.all_nil,Bool.and_true,iG,Option.isNone_iff_eq_none] at hsl
 obtain ⟨⟨l0,b0⟩,⟨l1,b1⟩,⟨l2,b2⟩,⟨l3,b3⟩,⟨l4,b4⟩,⟨l5,b5⟩⟩:=hsl
 simp only [List.nodup_cons,nT,List.not_mem_nil,or_false,not_or,not_false_eq_true,List.nodup_nil,and_true] at hnd
 obtain ⟨⟨Hr,Ht,OQ,Ka,VK⟩,⟨n12,n13,n14,n15⟩,⟨n23,n24,n25⟩,⟨n34,n35⟩,n45⟩:=hnd
 have Vg:zero.length=sz:=vQ hzl
 have akh:sz<=1000:=Nat.le_of_ble_eq_true hsz1
 obtain ⟨pr,hpr⟩:∃ pr:Nat->ak->GH->Prop,pr=(fun i v G=>match i with
   | 0=>v=.slice A0 n c0|1=>v=.agg news.toArray|2=>v=.int .i64 (n:Int)|3=>∃ b,v=.slice (some ⟨b,0,none⟩) 1 1∧G b=some (.cells zero.toArray tE (0,0))|_=>True):=⟨_,O⟩
 have jh:∀ i v (G G':GH),(∀ k o,G k=some o->G' k=some o)->pr i v G->pr i v G':=by
  intro i v G G' hm h
  subst hpr
  match i,h with
  | 0,h=>exact h
  | 1,h=>exact h
  | 2,h=>exact h
  | 3,h=>obtain ⟨b,h1,h2⟩:=h;exact ⟨b,h1,hm _ _ h2⟩
  | _+4,h=>exact trivial
 have hset:Li.set i0 (bp,.cells #[.slice A0 n c0] tS (0,0))=Li:=by
  have e:=(gN.1 hi0).2
  rw [<- e];exact List.set_getElem_self _
 have adA:(Li++Lo)[i0]?=some (bp,Obj.cells #[.slice A0 n c0] tS (0,0)):=by rw [rH hb0];exact hi0
 have adB:(Li++Lo)[i1]?=some (bx,Obj.cells news.toArray tE (0,0)):=by rw [rH hb1];exact hi1
 refine ZE hm Rw [4,5,6,7] hk (by simp [Qb,Iy,List.range,List.range.loop]) pr
  (fun S a w=>∃ G1 v jg xs',(∀ k o,G k=some o->G1 k=some o)∧St N D w0 F G0 G1 (Li.set i0 (bp,.cells #[if S 7 then v else .slice A0 n c0] tS (0,0))++jg) T a w∧a.tmps[s0]?=some (.slice A0 n c0)∧a.tmps[s1]?=some (.agg news.toArray)∧a.tmps[s2]?=some (.int .i64 (n:Int)) ∧
   (S 4=false->v=.slice A0 n c0∧jg=Lo∧S 7=false∧∃ b,a.tmps[s3]?=some (.slice (some ⟨b,0,none⟩) 1 1)∧G1 b=some (.cells zero.toArray tE (0,0))) ∧
   (S 4=true->aW tE sz v (n+1) xs' jg∧xs'=xs++(if S 6 then news else zero)∧a.tmps[s4]?=some v∧(S 5=true->∃ b c,v=.slice (some ⟨b,0,none⟩) (n+1) c∧a.tmps[s5]?=some (aJ b (n*sz))))) H ?_ ?_ ?_ ?_
 ·refine eB ?_ (eB ?_ (eB ?_ (eB ?_ (eB ?_ (eB ?_ (eB ?_ (eB ?_ fD)))))))
  ·intro S a w G1 _ ah hc hG HT hv
   have Hb:=HT.full
   refine iU UZ Hb wn (by show lk _ _=_;rw [Bl,hp0]) (Hb.hp.gK i0 adA O) b0 ?_
   intro a' H
   refine aj ⟨O,?_⟩
   exact oD (I7 hok (by show _ < 8;decide)) jh rfl rfl HT Hb hG hv (fun _ _ h=>h) (by subst hpr;rfl) H
  ·intro S a w G1 _ ah hc hG HT hv
   have Hb:=HT.full
   refine bV ht (cs:=news) Hb wn (by show lk _ _=_;rw [Bl,hp1]) hnl (Hb.hp.bR i1 adB (by simp)) b1 ?_
   intro a' H
   refine aj ⟨O,?_⟩
   exact oD (I7 hok (by show _ < 8;decide)) jh rfl rfl HT Hb hG hv (fun _ _ h=>h) (by subst hpr;rfl) H
  ·intro S a w G1 _ ah hc hG HT hv
   obtain ⟨u,hu,hpu⟩:=hv 0 s0 (hc 0 Y) O
   obtain rfl:u=.slice A0 n c0:=by subst hpr;exact hpu
   have Hb:=(HT.eP hu).full
   refine EF hs Hb wn (by show lk _ _=_;rw [Bl,jX]) b2 ?_
   intro a' H
   refine aj ⟨O,?_⟩
   exact oD (I7 hok (by show _ < 8;decide)) jh rfl rfl HT Hb hG hv (fun _ _ h=>h) (by subst hpr;rfl) H
  ·intro S a w G1 _ ah hc hG HT hv
   have Hb:=HT.full
   have hzz:((List.range (1*sz)).map (fun i=>zero[i % zero.length]!)).length=sz:=by simp
   refine eU (xs:=[(0,.const zv)]) (vs:=[(0,zv)]) (vs':=[(0,zero)]) hs ht _ zero Hb wn O (by simp [hzc]) (by rw [Nat.one_mul];exact hsz1) (by rw [Nat.one_mul];exact BS (by have:0 < sz:=Eq.mp Nat.blt_eq hsz0;omega)) rfl (fun i q h=>by match i,h with|0,h=>exact h|n+1,h=>simp at h) ?_ b3 ?_
   ·have e1:Nat.beq zero.length sz=true:=hzl
    have e2:Nat.ble (0*sz+zero.length) ((List.range (1*sz)).map (fun i=>zero[i % zero.length]!)).length=true:=by rw [hzz,Vg,Nat.zero_mul,eH];exact Eq.mpr Nat.ble_eq (bS _)
    have e3:∀ z:List ak,Nat.ble (0*sz+zero.length) z.length=true->z.length=sz->uY ((List.range 1).map fun i=>(i*sz,sz)) z [(0,zero)]=some zero:=by
     intro z h1 h2
     have h3:((List.range 1).map fun i=>(i*sz,sz))[0]?=some (0*sz,sz):=rfl
     simp only [uY,h3,e1,h1,Bool.and_self,cond_true]
     rw [EH _ _ _ V,Nat.zero_mul,List.take_zero,uN,eH,List.drop_of_length_le V,lU]
    exact e3 _ e2 hzz
   ·intro b a' w' hbs H
    obtain ⟨G2,hm2,hb,H⟩:=H.kE
    refine aj ⟨O,?_⟩
    exact oD (I7 hok (by show _ < 8;decide)) jh rfl rfl HT Hb hG hv hm2 (by subst hpr;exact ⟨b,O,hb⟩) H
  ·intro _ _ _ _ hB;exact absurd hB Y
  ·intro _ _ _ _ hB;exact absurd hB Y
  ·intro _ _ _ _ hB;exact absurd hB Y
  ·intro _ _ _ _ hB;exact absurd hB Y
 ·intro S a w G1 hG HS hv hB
  obtain ⟨u0,hu0,aeo⟩:=hv 0 s0 Y O
  obtain ⟨u1,hu1,hp1'⟩:=hv 1 s1 Y O
  obtain ⟨u2,hu2,aep⟩:=hv 2 s2 Y O
  obtain ⟨u3,hu3,aer⟩:=hv 3 s3 Y O
  subst hpr
  obtain rfl:u0=.slice A0 n c0:=aeo
  obtain rfl:u1=.agg news.toArray:=hp1'
  obtain rfl:u2=.int .i64 (n:Int):=aep
  obtain ⟨b,rfl,hb⟩:∃ b,u3=.slice (some ⟨b,0,none⟩) 1 1∧G1 b=some (.cells zero.toArray tE (0,0)):=aer
  have h7:=hB 7 Y
  have h4:=hB 4 Y
  refine ⟨G1,_,Lo,xs,hG,?_,hu0,hu1,hu2,fun _=>⟨O,O,h7,b,hu3,hb⟩,fun h=>by rw [h4] at h;cases h⟩
  rw [h7,aL Y,hset];exact HS
 ·refine eB ?_ (eB ?_ (eB ?_ (eB ?_ (eB ?_ (eB ?_ (eB ?_ (eB ?_ fD)))))))
  ·intro _ _ _ hB;exact absurd hB Y
  ·intro _ _ _ hB;exact absurd hB Y
  ·intro _ _ _ hB;exact absurd hB Y
  ·intro _ _ _ hB;exact absurd hB Y
  ·rintro S a w - h4 - hd ⟨G1,v,jg,xs',hG,HS,h0,h1,h2,hA,-⟩
   obtain ⟨rfl,rfl,h7,b,h3,hb⟩:=hA h4
   rw [h7,aL Y] at HS
   have H:=(((HS.eP h0).eP h1).eP h2).eP h3
   refine dX (news:=zero) hs ht hzl hsz0 H wn (by show lk _ _=_;rw [fJ (Ne.symm OQ),fJ (Ne.symm Ht),fJ (Ne.symm Hr),jX]) (by show lk _ _=_;rw [jX]) hrow (by rw [Nat.one_mul];exact Vg) (fun j u hj=>H.hp.aS (by unfold aS;rw [hb];simpa using hj)) hz1 h63 hb' b4 ?_
   intro v' YU a' w' hrow' H'
   refine aj ⟨O,G1,v',YU,xs++zero,hG,?_,?_,?_,?_,fun h=>?_,fun _=>⟨hrow',?_,?_,fun h=>?_⟩⟩
   ·rw [show (fq S 4) 7=false from h7,aL Y]
    exact ((((H'.uS (by rw [fJ n34,fJ n24,fJ n14,fJ Ka];exact l4)).uS (by rw [fJ n23,fJ n13,fJ OQ];exact l3)).uS (by rw [fJ n12,fJ Ht];exact l2)).uS (by rw [fJ Hr];exact l1)).uS l0
   ·exact H'.get s0 _ (by rw [fJ (Ne.symm Ka),fJ (Ne.symm OQ),fJ (Ne.symm Ht),fJ (Ne.symm Hr),jX])
   ·exact H'.get s1 _ (by rw [fJ (Ne.symm n14),fJ (Ne.symm n13),fJ (Ne.symm n12),jX])
   ·exact H'.get s2 _ (by rw [fJ (Ne.symm n24),fJ (Ne.symm n23),jX])
   ·exact absurd h (by simp [fq])
   ·rw [show (fq S 4) 6=false from hd 6 (show 6 < 8 by decide) Y];rfl
   ·exact H'.get s4 _ (jX _ _ _)
   ·exact absurd h (by rw [show (fq S 4) 5=S 5 from rfl,hd 5 (show 5 < 8 by decide) Y];decide)
  ·rintro S a w - h5 hc hd ⟨G1,v,jg,xs',hG,HS,h0,h1,h2,-,hA⟩
   obtain ⟨hrow',hxs,hs4,-⟩:=hA (hc 4 Y)
   obtain ⟨b,cap,hv,-⟩:∃ b cap,v=.slice (some ⟨b,0,none⟩) (n+1) cap∧True:=by
    rcases hrow'.2 with ⟨_,h,_⟩|⟨b,cap,cur,h,_⟩
    ·cases h
    ·exact ⟨b,cap,h,aI⟩
   subst hv
   have H:=(((HS.eP h0).eP h1).eP h2).eP hs4
   refine bD hs ht n H wn (by show lk _ _=_;rw [jX]) (by show lk _ _=_;rw [fJ (Ne.symm n24),jX]) O (Nat.lt_succ_self n) b5 ?_
   intro a' H'
   rw [eH] at H'
   refine aj ⟨O,G1,_,jg,xs',hG,?_,?_,?_,?_,fun h=>?_,fun _=>⟨hrow',hxs,?_,fun h=>⟨b,cap,O,?_⟩⟩⟩
   ·exact ((((H'.uS (by rw [fJ n45,fJ n25,fJ n15,fJ VK];exact l5)).uS (by rw [fJ n24,fJ n14,fJ Ka];exact l4)).uS (by rw [fJ n12,fJ Ht];exact l2)).uS (by rw [fJ Hr];exact l1)).uS l0
   ·exact H'.get s0 _ (by rw [fJ (Ne.symm VK),fJ (Ne.symm Ka),fJ (Ne.symm Ht),fJ (Ne.symm Hr),jX])
   ·exact H'.get s1 _ (by rw [fJ (Ne.symm n15),fJ (Ne.symm n14),fJ (Ne.symm n12),jX])
   ·exact H'.get s2 _ (by rw [fJ (Ne.symm n25),fJ (Ne.symm n24),jX])
   ·exact absurd h (by rw [show (fq S 5) 4=S 4 from rfl,hc 4 Y];decide)
   ·exact H'.get s4 _ (by rw [fJ (Ne.symm n45),jX])
   ·exact H'.get s5 _ (jX _ _ _)
  ·rintro S a w - h6 hc hd ⟨G1,v,jg,xs',hG,HS,h0,h1,h2,-,hA⟩
   obtain ⟨hrow',hxs,hs4,h5⟩:=hA (hc 4 Y)
   obtain ⟨b,cap,rfl,hs5⟩:=h5 (hc 5 Y)
   rw [h6,aL Y] at hxs
   subst hxs
   obtain ⟨cur,hLo⟩:∃ cur,jg=[(b,.cells cur tE (0,0))]:=by
    rcases hrow'.2 with ⟨h,_⟩|⟨b',cap',cur,h,h',_⟩
    ·cases h
    ·cases h;exact ⟨cur,h'⟩
   subst hLo
   obtain ⟨hle,hov⟩:=hrow'.over hrow.1 hnl
   have H:=(HS.eP h1).eP hs5
   refine ql ht Li.length (b:=b) (o:=n*sz) (c:=cur.toList) (e:=tE) (vs:=news) _ H wn (by show lk _ _=_;rw [jX]) (by rw [sG (by simp),List.length_set,Nat.sub_self];simp) (by show lk _ _=_;rw [fJ (Ne.symm n15),jX]) O (by rw [hnl];exact Nat.beq_refl sz) hn1 (Eq.mpr Nat.ble_eq hle) O ?_
   intro w' H'
   refine aj ⟨O,G1,_,_,_,hG,?_,h0,h1,h2,fun h=>?_,fun _=>⟨hov,?_,hs4,fun _=>⟨b,cap,O,hs5⟩⟩⟩
   ·have H2:=(H'.uS (by rw [fJ n15];exact l5)).uS l1
    rw [List.set_append_right _ _ (by simp),List.length_set,Nat.sub_self] at H2
    exact H2
   ·exact absurd h (by rw [show (fq S 6) 4=S 4 from rfl,hc 4 Y];decide)
   ·rw [show (fq S 6) 6=true from rfl];rfl
  ·rintro S a w - h7 hc hd ⟨G1,v,jg,xs',hG,HS,h0,h1,h2,-,hA⟩
   obtain ⟨hrow',hxs,hs4,h5⟩:=hA (hc 4 Y)
   obtain ⟨A',cap,rfl,-,-⟩:=hrow'.shape
   rw [h7,aL Y,hset] at HS
   have H:=HS.eP hs4
   refine ql UZ i0 (c:=[.slice A0 n c0]) (vs:=[.slice A' (n+1) cap]) _ H wn (by show lk _ _=_;rw [fJ (fun e=>by subst e;rw [hp0] at l4;cases l4)];exact hp0) (by rw [rH hb0];exact hi0) (by show lk _ _=_;rw [jX]) O O O O O ?_
   intro w' H'
   refine aj ⟨O,G1,_,jg,xs',hG,?_,h0,h1,h2,fun h=>?_,fun _=>⟨hrow',hxs,hs4,h5⟩⟩
   ·have H2:=H'.uS l4
    rw [List.set_append_left _ _ hb0] at H2
    rw [show (fq S 7) 7=true from rfl]
    exact H2
   ·exact absurd h (by rw [show (fq S 7) 4=S 4 from rfl,hc 4 Y];decide)
 ·rintro S a w hall ⟨G1,v,jg,xs',hG,HS,h0,h1,h2,-,hA⟩
  obtain ⟨hrow',hxs,hs4,h5⟩:=hA (hall 4 (show 4 < 8 by decide))
  rw [hall 6 (show 6 < 8 by decide)] at hxs
  rw [hall 7 (show 7 < 8 by decide)] at HS
  subst hxs
  exact hend v jg G1 a w hG hrow' HS
end
end
theorem Tt:bL 47:=bN func47 O
def xw (t:Int) (a:Nat × aD):Bool:=decide ((a.1:Int)+lH a.2<=t)
def lA (t:Int) (A:List (Nat × aD)):List aD:=(A.filter (xw t)).map (·.2)
def rA (t:Int) (A:List (Nat × aD)):List aD:=(A.filter fun a=>!xw t a).map (·.2)
theorem afd {t:Int} {A:List (Nat × aD)} {k:Nat} (hk:k < A.length) (h:xw t A[k]=true):lA t (A.take (k+1))=lA t (A.take k)++[A[k].2]∧rA t (A.take (k+1))=rA t (A.take k):=by
 rw [jq hk];simp only [lA,rA,List.filter_append,jw];simp [h]
theorem afc {t:Int} {A:List (Nat × aD)} {k:Nat} (hk:k < A.length) (h:xw t A[k]=false):lA t (A.take (k+1))=lA t (A.take k)∧rA t (A.take (k+1))=rA t (A.take k)++[A[k].2]:=by
 rw [jq hk];simp only [lA,rA,List.filter_append,jw];simp [h]
theorem afb (t:Int) (A:List (Nat × aD)):(lA t A).length<=A.length:=by simp only [lA,bJ];exact List.length_filter_le _ _
theorem agb (t:Int) (A:List (Nat × aD)):(rA t A).length<=A.length:=by simp only [rA,bJ];exact List.length_filter_le _ _
def uE (t:Int) (l:List aD):List aD:=lA t (fE 0 l)
def yU (t:Int) (l:List aD):List aD:=rA t (fE 0 l)
theorem OY:∀ {l:List aD} {o:Nat} {a:Nat × aD},a∈fE o l->a.2∈l∧a.1+iy a.2.dat<=o+cK l
 | [],_,_,h=>by cases h
 | x :: l,o,a,h=>by
  rw [fE] at h;have hu:=KX x
  rcases nT.1 h with rfl|h
  ·exact ⟨nN,by simp only [cK,gV,fM];omega⟩
  obtain ⟨h1,h2⟩:=OY h;exact ⟨tZ _ h1,by simp only [cK,gV,fM] at *;omega⟩
theorem SV (G:GH) (w0:World) (hG:Hold G w0) (l:List aD) (t:Int) (v:ak) (hv:aF G (.sl 11 (l.map aD.dat)) v) (hz:cK l<=1073741824) (hcut:∀ a∈fE 0 l,xw t a=true∨t<=a.1) :
  Calls prog 84 #[v,vi t] w0 (bQ w0 G fun u G'=>∃ x y,u=.tuple #[x,y]∧aF G' (.sl 11 ((uE t l).map aD.dat)) x∧aF G' (.sl 11 ((yU t l).map aD.dat)) y):=by
 have hml:4294967297<=maxLen:=by decide
 have hll:=yj l;have hol:=OX l 0;obtain ⟨A,hA⟩:∃ A,A=fE 0 l:=⟨_,O⟩;refine eN [(0,_),(1,_)] func84 O ntmps84 O O hG ?_;intro a H;refine gU (fun _ K1=>?_);refine jQ (cs:=[_]) H wn O O O ?_;clear H;intro b3 a w hb3 H;refine gX lG H wn O ?_;clear H;intro b4 a w hb4 H;refine gX lG H wn O ?_;clear H;intro b5 a w hb5 H;refine K1 _ _ ?_;clear K1;refine kP H (SQ fun _ K2=>SR fun _ K3=>Rm O ?_);clear H;intro a H;refine s_call Tt H wn O (Vj _ _ H.ro l v hv V) O ?_;clear H;rintro v14 Ik a w ⟨bd,rfl,hit⟩ Gw H;rw [<- hA] at hit hcut hol;refine K3 _ _ ?_;clear K3;refine xk ?_;skip;refine IV (ι:=ak × ak × List ak × List ak × OL × OL) (κ:=Empty) (Lc:=[(_,_)]) (fun (k:Nat) (gh:ak × ak × List ak × List ak × OL × OL)=>[(b4,.cells #[gh.1] 22 (0,0)),(b5,.cells #[gh.2.1] 22 (0,0))]) (fun (k:Nat) (gh:ak × ak × List ak × List ak × OL × OL)=>gh.2.2.2.2.1++gh.2.2.2.2.2) (fun (k:Nat) (gh:ak × ak × List ak × List ak × OL × OL) (g:GH)=>aW 58 11 gh.1 (lA t (A.take k)).length gh.2.2.1 gh.2.2.2.2.1∧cO g 11 ((lA t (A.take k)).map aD.dat) gh.2.2.1∧aW 58 11 gh.2.1 (rA t (A.take k)).length gh.2.2.2.1 gh.2.2.2.2.2∧cO g 11 ((rA t (A.take k)).map aD.dat) gh.2.2.2.1) (fun x=>x.elim) (fun x=>x.elim) (fun x=>x.elim) (fun x=>x.elim) ((.slice none 0 0,.slice none 0 0,[],[],[],[])) (by exact (H.VP (A:=[_,_,_])).dz (Pl:=[_,_,_]) (bZ:=[_,_,_]) [2,1,0] Y O) O Na (hit) (fun _ _ h=>h) O (fun k args g h=>by obtain ⟨_,_,rfl,_⟩:=J5 h;rfl) (fun k i G G' hm h=>⟨h.1,h.2.1.mono hm,h.2.2.1,h.2.2.2.mono hm⟩) (fun x=>x.elim) (⟨aW.nil,cO.nil,aW.nil,cO.nil⟩) ?_ ?_ ?_
 ·clear H;intro l2 yT vU bk k args gh G2 w2 F2 B2 a hk2 hm2 hI Gn El UY H;obtain ⟨vl,vr,xl,xr,Ll,Lr⟩:=gh;dsimp only at hI H;obtain ⟨hk,cs,rfl,hcs⟩:=J5 hk2;obtain ⟨-,hza⟩:=OY (l:=l) (o:=0) (a:=A[k]) (by rw [<- hA];exact dV hk);have hzi:=oO A[k].2;have hun:=KX A[k].2;have hlk:=afb t (A.take k);have En:=agb t (A.take k);rw [List.length_take] at hlk En;obtain ⟨pA,pn,pc,dA,dn,dc,yA,yn,yc,fA,fn,fc,Kk,rn,rc,rfl,hh,hf,hr⟩:=hcs.item;dsimp only [uQ,List.cons_append,List.nil_append] at H;obtain ⟨hrl,hcl,hrr,hcr⟩:=hI;refine kP H (SR fun _ K4=>av K4 O (SC ?_));clear H K4;intro a H;refine gX fB H wn O ?_;clear H;intro b7 a w Ed H;refine bg fB 0 (vs:=[_,_,_,_,_,_,_,_,_,_,_]) H wn O ?_;clear H;intro w H;refine aj ?_;refine Gn _ _ _ _ _ _ (by exact H.dz (Pl:=[_,_,_,_,_]) (bZ:=[_,_,_,_,_]) [1,0,2,3,4] Y O) ?_;clear H;intro w H;refine xk ?_;refine gU (fun _ K5=>?_);refine bV fB (cs:=[_,_,_,_,_,_,_,_,_,_,_]) H wn O O (H.hp.bR 1 O O) O ?_;clear H;intro a H;refine s_call I9 H wn O (KY _ _ H.ro A[k].2 _ _ _ _ _ _ _ _ _ V) O ?_;clear H;rintro v19 _ a w ⟨rfl,rfl⟩ - H;refine kH H (Rm O ?_);clear H;intro a H;(iterate 2 refine eZ H wn O O O ?_;clear H;intro a H);refine kH H (Ra O (av K5 O (SB (SR fun _ K6=>Rm O (Rm O (Rd O (Ro aC 2 O (Rc O (av K6 O (Cd O ?_ ?_)))))))))) <;> clear H K5 K6
  ·intro h50 a H
   try have p50:=dT h50
   have hfit:xw t A[k]=true:=h50;obtain ⟨e1,e2⟩:=afd hk hfit;obtain ⟨vA,vc,rfl,-,-⟩:=hrl.shape;have H:=H.perm (oL [_,_,_,_,_] bk Ll Lr);refine R6 (i0:=3) (i1:=1) hmx Z iB lG fB O O O O O Z O Y H O O O O O O hrl V V ?_;clear H;intro vl Ll vL a w rT UR H;have H:St _ _ _ _ _ _ ([_,_,_,_,_]++(bk++(Ll++Lr))) _ _ _:=H.perm (oL [_,_,_,_,_] bk Ll Lr).symm;dsimp only [lca,bW] at H;obtain ⟨xl,hxl⟩:∃ x,x=xl++[vi A[k].2.kind,vi A[k].2.code,vi A[k].2.id,.string A[k].2.text,.slice pA pn pc,vi A[k].2.head.marks.ins,vi A[k].2.head.marks.move,.slice dA dn dc,.slice yA yn yc,.slice fA fn fc,.slice Kk rn rc]:=⟨_,O⟩;rw [<- hxl] at UR
   have hI:aW 58 11 vl (lA t (A.take (k+1))).length xl Ll∧cO vL 11 ((lA t (A.take (k+1))).map aD.dat) xl∧aW 58 11 vr (rA t (A.take (k+1))).length xr Lr∧cO vL 11 ((rA t (A.take (k+1))).map aD.dat) xr:=by
    rw [e1,e2,fQ,jw];exact ⟨UR,by rw [hxl];exact (hcl.mono rT).snoc (hcs.mono rT) O,hrr,hcr.mono rT⟩
   refine El ((vl,vr,xl,xr,Ll,Lr)) _ _ _ _ _ (by exact H.dz (Pl:=[_,_,_,_,_]) (bZ:=[_,_,_,_]) [0,2,3,4] Y O) ?_;exact hI
  intro h50 a H
  try have p50:=dF h50
  have hfit:xw t A[k]=false:=h50;obtain ⟨e1,e2⟩:=afc hk hfit;refine kP H (SR fun _ K7=>Rm O (Ro aC 2 O (Rc O (av K7 O (Cd O ?_ ?_))))) <;> clear H K7
  ·intro kK a H
   try have p62:=dT kK
   obtain ⟨vA,vc,rfl,-,-⟩:=hrr.shape;have H:=H.cast (Ev [_,_,_,_,_] bk Ll Lr);refine R6 (i0:=4) (i1:=1) hmx Z iB lG fB O O O O O Z O Y H O O O O O O hrr V V ?_;clear H;intro vr Lr vL a w rT UU H;have H:St _ _ _ _ _ _ ([_,_,_,_,_]++(bk++(Ll++Lr))) _ _ _:=H.cast (Ev [_,_,_,_,_] bk Ll Lr).symm;dsimp only [lca,bW] at H;obtain ⟨xr,Ve⟩:∃ x,x=xr++[vi A[k].2.kind,vi A[k].2.code,vi A[k].2.id,.string A[k].2.text,.slice pA pn pc,vi A[k].2.head.marks.ins,vi A[k].2.head.marks.move,.slice dA dn dc,.slice yA yn yc,.slice fA fn fc,.slice Kk rn rc]:=⟨_,O⟩;rw [<- Ve] at UU
   have hI:aW 58 11 vl (lA t (A.take (k+1))).length xl Ll∧cO vL 11 ((lA t (A.take (k+1))).map aD.dat) xl∧aW 58 11 vr (rA t (A.take (k+1))).length xr Lr∧cO vL 11 ((rA t (A.take (k+1))).map aD.dat) xr:=by
    rw [e1,e2,fQ,jw];exact ⟨hrl,hcl.mono rT,UU,by rw [Ve];exact (hcr.mono rT).snoc (hcs.mono rT) O⟩
   refine El ((vl,vr,xl,xr,Ll,Lr)) _ _ _ _ _ (by exact H.dz (Pl:=[_,_,_,_,_]) (bZ:=[_,_,_,_]) [0,2,3,4] Y O) ?_;exact hI
  intro kK a H
  try have p62:=dF kK
  exact absurd (hcut _ (dV hk)) (by rw [hfit];simp only [yD,false_or];omega)
 ·clear H;intro QG gh QO a w hm2 hI H;obtain ⟨vl,vr,xl,xr,Ll,Lr⟩:=gh;dsimp only at hI H;dsimp only [lca,bW] at H;obtain ⟨hrl,hcl,hrr,hcr⟩:=hI;rw [show A.take (A.map Er).length=A by rw [bJ,qE]] at hrl hcl hrr hcr;obtain ⟨lA0,lc0,rfl,-,-⟩:=hrl.shape;obtain ⟨Wd,Wh,rfl,-,-⟩:=hrr.shape;refine K2 _ _ ?_;clear K2;refine gy (fun _ K8=>?_);refine dI hmx [[],[],[0],[0,1,2]] [] Z [.slice lA0 (lA t A).length lc0,.slice Wd (rA t A).length Wh] H (aH (Z0 O (Ro lG 2 O)) (Z0 O (Ro lG 3 O)) ?_ ?_ fD) ?_
  ·intro ay a w G1 _ ah hc hG HT hv;have H:=HT;clear ah;have H:=H.au (hv 0 72 (hc 0 Y) O) O;have Hb:=H.full;have H:=Hb;clear hc;refine bg lG 2 (vs:=[_]) H wn O ?_;clear H;intro w H;refine aj ⟨O,?_⟩;exact I6 O HT hG hv H
  ·intro ay a w G1 _ ah hc hG HT hv;have H:=HT;clear ah;have H:=H.au (hv 1 73 (hc 1 Y) O) O;have Hb:=H.full;have H:=Hb;clear hc;refine bg lG 3 (vs:=[_]) H wn O ?_;clear H;intro w H;refine aj ⟨O,?_⟩;exact I6 O HT hG hv H
  clear H;intro a w G Jt H hv;clear hv;refine aj ⟨O,?_⟩;refine K8 _ _ ?_;clear K8;refine aU ?_;obtain ⟨zm,Cv,hgr,H⟩:=St.kF (Li:=[_,_,_,_]++Ll) (St.un (A:=[_,_,_,_]) H) hrr (rows:=(rA t A).map aD.dat) (by simp) (hcr.mono Jt);obtain ⟨Au,qL,hgl,H⟩:=St.kF (Li:=[_,_,_,_]) H hrl (rows:=(lA t A).map aD.dat) (by simp) ((hcl.mono Jt).mono Cv);replace hgr:=hgr.mono qL;refine (Es H 0 O ?_).1;clear H;intro a w H;dsimp only [List.eraseIdx_cons_succ,List.eraseIdx_cons_zero] at H;refine (bK H results84 (.cons (qR lG H O (H.hp.gK 1 O O)) (.cons (qR lG H O (H.hp.gK 2 O O)) .nil)) ?_).1;exact H.rt ⟨_,_,O,by rw [uE,<- hA];exact hgl,by rw [yU,<- hA];exact hgr⟩
 intro Dk x;exact x.elim

def LZ (fv:ak) (G:GH) (d:List Dat) (b:Bool):Prop:=∀ (G1:GH) (w1:World) (cs:List ak),(∀ b o,G b=some o->G1 b=some o)->Hold G1 w1->aY G1 d cs ->
 uK prog fv [.agg cs.toArray] w1 (bQ w1 G1 fun u G'=>u=.bool b)
def CP (o:Option Nat):Int:=match o with|some i=>i|none=>-1

section
structure Dv (P:Program) (t:TypeId):Prop where
 h:(P.info? t).map (fun j=>j.size == 0)=some false
theorem Dv.parts {P:Program} {t:TypeId} (h:Dv P t):∃ j,P.info? t=some j∧j.size≠0:=by
 obtain ⟨j,h1,h2⟩:=mZ.1 h.h
 exact ⟨j,h1,by simpa using h2⟩
structure U8 (P:Program) (e:TypeId):Prop where
 h:(P.info? e).map (fun i=>(i.zero,i.size,i.bytes))=some (some (.int .u8 0),1,1)
section
variable {N:Nat} {D:List Deferred} {w0:World} {F:Nat->Prop} {G0 G:GH} {L Li Lo:OL} {T:List (Nat × ak)}
variable {r:Option Nat} {P:Program} {ops:Array Oper} {Q:Exit->Act->World->Prop} {rest:List Oper} {a:Act} {w:World}
variable {d:Nat} {ty:TypeId} {pos:String} {aM:Array Edge} {g:Option (Nat × Bool)}
theorem Hp.shape (h:Hp w0 F G0 G L w) {i b:Nat} {c:Array ak} {e:TypeId} {fz:Nat × Nat} (hi:L[i]?=some (b,.cells c e fz)):w.shape? b=some (e,c.size):=by
 have:=h.own _ (kg hi)
 simp only at this
 simp [World.shape?,this]
theorem agY {t u te e:TypeId} {x:Operand} {b o:Nat} {c:Array ak} {fz:Nat × Nat} (hs:P.underlying t=some (.pointer te)) (hu:P.underlying u=some .unsafePointer) (hj:Dv P te) (H:St N D w0 F G0 G L T a w) (hw:Region.wanted ⟨some d,.convert t u x,ty,pos,aM,g⟩ (yielded ops a.tmps)=true)
  (hx:ev T x=some (aJ b o)) (i:Nat) (hi:L[i]?=some (b,.cells c e fz)) (ho:Nat.blt o c.size=true) (hd:Nat.blt d N=true)
  (k:∀ a',St N D w0 F G0 G L ((d,(aJ b o)) :: T) a' w->WL r P ops Q rest a' w):WL r P ops Q (⟨some d,.convert t u x,ty,pos,aM,g⟩ :: rest) a w:=by
 obtain ⟨j,h1,h2⟩:=hj.parts
 refine dZ (v:=(aJ b o)) (w':=w) hw O ?_ (k _ (H.put hd _ H.hp))
 have h:=Lib.run_to_unsafe (P:=P) w ⟨b,o,none⟩ hs hu h1 h2 (H.hp.shape hi) (Eq.mp Nat.blt_eq ho)
 simp only [execOp,H.ev hx,dB,h,jH,mh]
theorem agH {t u te e:TypeId} {x:Operand} {b o:Nat} {c:Array ak} {fz:Nat × Nat} (hs:P.underlying t=some .unsafePointer) (hu:P.underlying u=some (.pointer te)) (hj:Dv P te) (H:St N D w0 F G0 G L T a w) (hw:Region.wanted ⟨some d,.convert t u x,ty,pos,aM,g⟩ (yielded ops a.tmps)=true)
  (hx:ev T x=some (aJ b o)) (i:Nat) (hi:L[i]?=some (b,.cells c e fz)) (hl:liesAt P P.depth e (c.size / P.cellsOf e) o te 1=true) (hd:Nat.blt d N=true)
  (k:∀ a',St N D w0 F G0 G L ((d,(aJ b o)) :: T) a' w->WL r P ops Q rest a' w):WL r P ops Q (⟨some d,.convert t u x,ty,pos,aM,g⟩ :: rest) a w:=by
 obtain ⟨j,h1,h2⟩:=hj.parts
 refine dZ (v:=(aJ b o)) (w':=w) hw O ?_ (k _ (H.put hd _ H.hp))
 have h:=Lib.run_from_unsafe (P:=P) w ⟨b,o,none⟩ hs hu h1 (H.hp.shape hi) hl
 simp only [execOp,H.ev hx,dB,h,jH,mh]
theorem agQ {f:FuncId} {xs:List Operand} {v:ak} {ts:Array TypeId} (hcf:∀ (w:World),(callFunc f #[v]).run P w=.ok (.value v) w) (H:St N D w0 F G0 G L T a w) (hw:Region.wanted ⟨some d,.call { callee:=.value (.func f),args:=xs.toArray,argTypes:=ts },ty,pos,aM,g⟩ (yielded ops a.tmps)=true)
  (hx:evs T xs=some [v]) (hd:Nat.blt d N=true)
  (k:∀ a',St N D w0 F G0 G L ((d,v) :: T) a' w->WL r P ops Q rest a' w):WL r P ops Q (⟨some d,.call { callee:=.value (.func f),args:=xs.toArray,argTypes:=ts },ty,pos,aM,g⟩ :: rest) a w:=by
 refine dZ (v:=v) (w':=w) hw O ?_ (k _ (H.put hd _ H.hp))
 have h1:=H.evs hx
 simp [execOp,resolve,Act.eval,Deferred.ofValue,invoke,dB,h1,hcf]
theorem agt {f:FuncId} {fn:Func} (hf:P.funcs[f]?=some fn) (hname:(fn.name == "runtime.NumGoroutine")=false) (hb:fn.body.isNone=true) (hn:Extern.findNext fn=none) (he:Extern.find fn=some Extern.AbiNoEscape.same) (v:ak) (w:World):(callFunc f #[v]).run P w=.ok (.value v) w:=by
 rw [run_callFunc_extern hf hname hb hn he,Lib.run_noEscape]
 rfl
theorem WQ {t u te:TypeId} (hs:P.underlying t=some (.pointer te)) {x:Operand} {p:Option Addr} (H:St N D w0 F G0 G L T a w) (hw:Region.wanted ⟨some d,.binOp .eql t x (.const (.pointer none)) u,ty,pos,aM,g⟩ (yielded ops a.tmps)=true) (hx:ev T x=some (.pointer p)) (hd:Nat.blt d N=true)
  (k:∀ a',St N D w0 F G0 G L ((d,.bool p.isNone) :: T) a' w->WL r P ops Q rest a' w):WL r P ops Q (⟨some d,.binOp .eql t x (.const (.pointer none)) u,ty,pos,aM,g⟩ :: rest) a w:=by
 refine dZ (v:=.bool p.isNone) (w':=w) hw O ?_ (k _ (H.put hd _ H.hp))
 have h1:(Op.equal t (.pointer p) (.pointer none)).run P w=.ok p.isNone w:=by
  show (Op.equalIn (9999+1) t (.pointer p) (.pointer none)).run P w=_
  rw [Op.equalIn.eq_2,dB,lF hs]
  cases p <;> simp
 have h2:(do eqGuard .eql t x (.const (.pointer none)) (.pointer p) (.pointer none);binOp .eql t (.pointer p) (.pointer none):Sem ak).run P w=.ok (.bool p.isNone) w:=by
  have e:(do eqGuard .eql t x (.const (.pointer none)) (.pointer p) (.pointer none);binOp .eql t (.pointer p) (.pointer none):Sem ak)=(do pure (.bool (<- Op.equal t (.pointer p) (.pointer none))):Sem ak):=rfl
  rw [e,dB,h1];rfl
 have e0:execOp a.eval ⟨some d,.binOp .eql t x (.const (.pointer none)) u,ty,pos,aM,g⟩=(do pure (.value (<- (do eqGuard .eql t x (.const (.pointer none)) (.pointer p) (.pointer none);binOp .eql t (.pointer p) (.pointer none):Sem ak))):Sem Next):=by
  simp only [execOp,H.ev hx];rfl
 rw [e0,dB,h2]
 rfl
theorem agO {t u te:TypeId} (hs:P.underlying t=some (.pointer te)) (hj:Dv P te) {x y:Operand} {p:Addr} (H:St N D w0 F G0 G L T a w) (hw:Region.wanted ⟨some d,.binOp .neq t x y u,ty,pos,aM,g⟩ (yielded ops a.tmps)=true) (hx:ev T x=some (.pointer (some p))) (hy:ev T y=some (.pointer (some p))) (hd:Nat.blt d N=true)
  (k:∀ a',St N D w0 F G0 G L ((d,.bool false) :: T) a' w->WL r P ops Q rest a' w):WL r P ops Q (⟨some d,.binOp .neq t x y u,ty,pos,aM,g⟩ :: rest) a w:=by
 obtain ⟨j,h1,h2⟩:=hj.parts
 refine dZ (v:=.bool false) (w':=w) hw O ?_ (k _ (H.put hd _ H.hp))
 have h:=Lib.run_neq_ptr_same (P:=P) (w:=w) p hs h1
 simp only [execOp,H.ev hx,H.ev hy]
 simp [dB,eqGuard,h]
theorem agB {t u e:TypeId} (hs:P.underlying t=some (.slice e)) (hu:P.underlying u=some .string) (ht:U8 P e) {x y:Operand} {v:ak} {n:Nat} {xs:List ak} {s:ByteArray} (H:St N D w0 F G0 G (Li++Lo) T a w)
  (hw:Region.wanted ⟨some d,.call { callee:=.builtin .append,args:=#[x,y],argTypes:=#[t,u] },ty,pos,aM,g⟩ (yielded ops a.tmps)=true) (hx:ev T x=some v) (hy:ev T y=some (.string s)) (hrow:aW e 1 v n xs Lo)
  (h63:n+s.size<=140737488355328) (hd:Nat.blt d N=true)
  (k:∀ v' jg a' w',aW e 1 v' (n+s.size) (xs++Lib.strCells s) jg->(v=.slice none 0 0->s.size=0->v'=.slice none 0 0)->St N D w0 F G0 G (Li++jg) ((d,v') :: T) a' w'->WL r P ops Q rest a' w') :
  WL r P ops Q (⟨some d,.call { callee:=.builtin .append,args:=#[x,y],argTypes:=#[t,u] },ty,pos,aM,g⟩ :: rest) a w:=by
 obtain ⟨i,hi,hz⟩:=mZ.1 ht.h
 simp only [gY] at hz
 have hown:=hrow.owns H.hp
 obtain ⟨v',w2,hrun,r1,r2,r3⟩:=Lib.run_append_own_string (P:=P) (w:=w) 0 t u ty e i hs hu hi hz.1 hz.2.1 hz.2.2 v n xs hown s (by simp only [maxLen];omega) h63 (fC _)
 have hxl:xs.length=n:=by simpa using hrow.1
 have hb:v'.ownBlock=v.ownBlock∨v'.ownBlock=some w.heap.size:=by
  rcases hown.2 with ⟨hv,hn⟩|⟨g,cap,cur,hv,_,hg,hnc,hcm,hcs,_⟩
  ·subst hv
   by_cases hm:s.size=0
   ·left;rw [r3.2 ⟨O,hm⟩]
   ·right
    have hr:=run_append_nil_string (P:=P) w t u ty e i (.int .u8 0) hs hu hi hz.1 s V V (by rw [hz.2.2];omega)
    rw [hrun] at hr
    injection hr with h1 h2
    rw [h1];rfl
  ·subst hv
   by_cases hroom:n+s.size<=cap
   ·left
    have hcs':cur.size=cap:=by simpa using hcs
    have hr:=Lib.run_append_room_string (P:=P) (w:=w) t u ty e i hs hu hi hz.2.1 g n cap cur hg s hroom V
    rw [hrun] at hr
    injection hr with h1 h2
    rw [h1];rfl
   ·right
    have holds:∀ j u,xs[j]?=some u->w.cell? ((⟨g,0,none⟩:Addr).add j)=some u:=hown.cells (g:=g) O
    have hr:=Lib.run_append_grow_string (P:=P) (w:=w) t u ty e i (.int .u8 0) hs hu hi hz.1 ⟨g,0,none⟩ n cap xs (by rw [hz.2.1];simpa using hxl) holds s V V (by rw [hz.2.2];exact growslice_fits V V)
    rw [hrun] at hr
    injection hr with h1 h2
    rw [h1];rfl
 obtain ⟨jg,hr,hch⟩:=Sg hrow H.hp.owns r1 r2 hb
 refine dZ (v:=v') (w':=w2) hw O ?_ (k v' jg _ w2 hr (fun h1 h2=>r3.2 ⟨h1,h2⟩) (H.put hd v' (H.hp.change hch)))
 simp [execOp,resolve,invoke,builtin,H.ev hx,H.ev hy,dB,hrun]
theorem agW {t:TypeId} {x:Operand} {p:Addr} {n c:Nat} (H:St N D w0 F G0 G L T a w) (hw:Region.wanted ⟨some d,.call { callee:=.builtin .unsafeSliceData,args:=#[x],argTypes:=#[t] },ty,pos,aM,g⟩ (yielded ops a.tmps)=true) (hx:ev T x=some (.slice (some p) n c)) (hc:c≠0) (hd:Nat.blt d N=true)
  (k:∀ a',St N D w0 F G0 G L ((d,.pointer (some p)) :: T) a' w->WL r P ops Q rest a' w):WL r P ops Q (⟨some d,.call { callee:=.builtin .unsafeSliceData,args:=#[x],argTypes:=#[t] },ty,pos,aM,g⟩ :: rest) a w:=by
 refine dZ (v:=.pointer (some p)) (w':=w) hw O ?_ (k _ (H.put hd _ H.hp))
 have h:=Lib.run_unsafeSliceData_row (P:=P) (w:=w) #[t] ty p n c hc
 simp [execOp,resolve,invoke,builtin,H.ev hx,dB,h]
theorem aiy {w:World} {b n:Nat} {c:Array ak} {e:TypeId} {fz:Nat × Nat} (h:w.heap[b]?=some (.cells c e fz)) (hn:n≠0):∃ F9,sF b (.cells c e F9) w (w.freeze ⟨b,0,none⟩ n):=by
 unfold World.freeze
 rw [aL hn]
 refine ⟨if fz.1 == fz.2 then (0,0+n) else (min fz.1 0,max fz.2 (0+n)),O,O,O,by simp,?_,fun k hk=>?_⟩
 ·simp [Array.getElem?_modify,h]
 ·simp [Array.getElem?_modify,Ne.symm hk]
theorem WZ {pt it e:TypeId} {x y:Operand} {b i:Nat} {cur:Array ak} {fz:Nat × Nat} (l:List UInt8) (hp:P.underlying pt=some (.pointer e)) (hc:P.cellsOf e=1) (h0:l≠[]) (h63:l.length<=9223372036854775807) (H:St N D w0 F G0 G L T a w)
  (hw:Region.wanted ⟨some d,.call { callee:=.builtin .unsafeString,args:=#[x,y],argTypes:=#[pt,it] },ty,pos,aM,g⟩ (yielded ops a.tmps)=true) (hx:ev T x=some (aJ b 0)) (hy:ev T y=some (.int .i64 (l.length:Int)))
  (hi:L[i]?=some (b,.cells cur e fz)) (hl:cur.toList.take l.length=Lib.byteCells l) (hd:Nat.blt d N=true)
  (k:∀ F9 a' w',St N D w0 F G0 G (L.set i (b,.cells cur e F9)) ((d,.string ⟨l.toArray⟩) :: T) a' w'->WL r P ops Q rest a' w'):WL r P ops Q (⟨some d,.call { callee:=.builtin .unsafeString,args:=#[x,y],argTypes:=#[pt,it] },ty,pos,aM,g⟩ :: rest) a w:=by
 have hb:=H.hp.own _ (kg hi)
 simp only at hb
 have hlen:l.length<=cur.size:=by
  have:=gZ List.length hl
  simp only [List.length_take,Lib.byteCells_length,BP] at this
  omega
 obtain ⟨F9,hu⟩:=aiy (n:=l.length) hb (by simpa using h0)
 have h:=Lib.run_unsafeString_row (P:=P) w pt it ty e hp hc b cur.size (H.hp.shape hi) l h0 hlen h63 (fun j x hj=>by
  rw [add_lit,eH]
  simp only [World.cell?,hb]
  have h2:(cur.toList.take l.length)[j]?=some (.int .u8 x.toNat):=by rw [hl];simp [Lib.byteCells,hj]
  rw [tX] at h2
  split at h2
  ·simpa using h2
  ·cases h2)
 refine dZ (v:=.string ⟨l.toArray⟩) (w':=w.freeze ⟨b,0,none⟩ l.length) hw O ?_ (k F9 _ _ (H.put hd _ (H.hp.upd hi hu)))
 simp [execOp,resolve,invoke,builtin,H.ev hx,H.ev hy,dB,h]
theorem TL (sz n:Nat):∀ (css:List (List ak)) (k:Nat) (pre z:List ak),pre.length=k*sz->z.length=css.length*sz->(∀ c∈css,c.length=sz)->k+css.length=n ->
  uY ((List.range n).map fun i=>(i*sz,sz)) (pre++z) ((css.zipIdx k).map fun p=>(p.2,p.1))=some (pre++css.flatten)
 | [],k,pre,z,_,hz,_,_=>by
  have:z=[]:=List.eq_nil_of_length_eq_zero (by simpa using hz)
  subst this
  simp [uY]
 | c :: css,k,pre,z,hp,hz,hc,hn=>by
  have hcl:=hc c nN
  simp only [ko] at hz hn
  have hpl:((List.range n).map fun i=>(i*sz,sz))[k]?=some (k*sz,sz):=by
   rw [nM,List.getElem?_range V];rfl
  have hz1:z.length=sz+css.length*sz:=by rw [hz,Nat.add_mul,Nat.one_mul,Nat.add_comm]
  have hle:k*sz+c.length<=(pre++z).length:=by rw [fQ,hp,hcl];omega
  have e1:Nat.beq c.length sz=true:=by rw [hcl];exact Nat.beq_refl sz
  have e2:Nat.ble (k*sz+c.length) (pre++z).length=true:=Eq.mpr Nat.ble_eq hle
  rw [List.zipIdx_cons,gV]
  simp only [uY,hpl,e1,e2,Bool.and_self,cond_true]
  have e3:setRow (pre++z) (k*sz) c=(pre++c)++z.drop sz:=by
   rw [EH _ _ _ hle,<- hp,List.take_left' O,List.drop_append,List.drop_of_length_le V,uN,hcl]
   congr 2;omega
  rw [e3,TL sz n css (k+1) (pre++c) (z.drop sz) (by rw [fQ,hp,hcl,Nat.succ_mul]) (by rw [List.length_drop];omega) (fun q hq=>hc q (tZ _ hq)) V]
  simp
theorem KE {t e:TypeId} {sz bytes:Nat} {zero:List ak} {agg:Bool} (hs:P.underlying t=some (.slice e)) (ht:Ty P e sz bytes zero agg) {n:Nat} {xs:List (Nat × Operand)} {vs:List (Nat × ak)} (css:List (List ak)) (H:St N D w0 F G0 G L T a w) (hw:Region.wanted ⟨some d,.buildSlice t n xs.toArray,ty,pos,aM,g⟩ (yielded ops a.tmps)=true)
  (hx:pts T xs=some vs) (hv:vs.map (fun x=>(x.1,x.2.cells.toList))=(css.zipIdx 0).map fun p=>(p.2,p.1)) (hl:css.all (fun c=>Nat.beq c.length sz)=true) (hcn:Nat.beq css.length n=true) (hn:Nat.ble (n*sz) 1000=true) (hn0:Nat.beq (n*sz) 0=false) (hd:Nat.blt d N=true)
  (k:∀ b a' w',w0.heap.size<=b->St N D w0 F G0 G ((b,.cells css.flatten.toArray e (0,0)) :: L) ((d,.slice (some ⟨b,0,none⟩) n n) :: T) a' w'->WL r P ops Q rest a' w'):WL r P ops Q (⟨some d,.buildSlice t n xs.toArray,ty,pos,aM,g⟩ :: rest) a w:=by
 have hcn':css.length=n:=vQ hcn
 refine eU (vs':=(css.zipIdx 0).map fun p=>(p.2,p.1)) hs ht ((List.range (n*sz)).map (fun i=>zero[i % zero.length]!)) css.flatten H hw hx hv hn hn0 O (fun i q h=>?_) ?_ hd k
 ·rw [nM] at h
  obtain ⟨j,hj,rfl⟩:=mZ.1 h
  obtain ⟨h1,h2⟩:=gN.1 hj
  rw [List.getElem_range] at h2
  rw [h2]
 ·have h:=TL sz n css 0 [] ((List.range (n*sz)).map (fun i=>zero[i % zero.length]!)) (by simp) (by simp [hcn']) (fun c hc=>vQ (gW.1 hl c hc)) V
  simpa using h
end
end
section
structure L9 (P:Program) (s n off:Nat):Prop where
 h:(match P.underlying s with|some (.struct fs)=>(fs[n]?).bind fun f=>((P.underlying f.type).map (fun|.struct _=>true|.array _ _=>true|_=>false)).map fun g=>(f.offset,g)|_=>none)=some (off,false)
theorem L9.parts {P:Program} {s n off:Nat} (h:L9 P s n off):∃ fs fl u,P.underlying s=some (.struct fs)∧fs[n]?=some fl∧P.underlying fl.type=some u∧(match u with|.struct _=>true|.array _ _=>true|_=>false)=false∧fl.offset=off:=by
 obtain ⟨h⟩:=h
 split at h
 ·rename_i fs hs
  obtain ⟨fl,hf,h2⟩:=Option.bind_eq_some_iff.1 h
  obtain ⟨b,hb,h3⟩:=mZ.1 h2
  obtain ⟨u,hu,h4⟩:=mZ.1 hb
  simp only [gY] at h3
  refine ⟨fs,fl,u,hs,hf,hu,?_,h3.1⟩
  rw [<- h3.2,<- h4]
  cases u <;> rfl
 ·cases h
def Ad (s:ByteArray) (p:Nat):List ak:=if p < s.size then [.bool true,.int .i64 p,.int .i32 (Utf8.decode s p).1] else [.bool false]
def Eu (s:ByteArray) (p:Nat):Nat:=if p < s.size then p+(Utf8.decode s p).2 else p
theorem afH {s:ByteArray} {p:Nat}:(Ad s p)[0]?=some (.bool (decide (p < s.size))):=by
 unfold Ad;split <;> simp_all
theorem VO {s:ByteArray} {p:Nat} (h:p < s.size):Ad s p=[.bool true,.int .i64 p,.int .i32 (Utf8.decode s p).1]:=aN h
theorem VN {s:ByteArray} {p:Nat} (h:p < s.size):Eu s p=p+(Utf8.decode s p).2:=aN h
theorem aav (s:ByteArray) (p:Nat):1<=(Utf8.decode s p).2:=by
 simp only [Utf8.decode]
 repeat' split
 all_goals simp
def kT (s:ByteArray):Nat->Nat->List (Nat × Nat)
 | 0,_=>[]
 | f+1,p=>if p < s.size then (p,(Utf8.decode s p).1) :: kT s f (p+(Utf8.decode s p).2) else []
def iD (s:ByteArray):List (Nat × Nat):=kT s s.size 0
theorem Ew (s:ByteArray):∀ f p,(kT s f p).length<=f
 | 0,_=>by simp [kT]
 | f+1,p=>by
  rw [kT];split
  ·rw [ko];have:=Ew s f (p+(Utf8.decode s p).2);omega
  ·simp
theorem WE (s:ByteArray):∀ f p acc,Conv.runesFrom s f p acc=acc++((kT s f p).map fun x=>Value.int .i32 (x.2:Int)).toArray
 | 0,p,acc=>by simp [Conv.runesFrom,kT]
 | f+1,p,acc=>by
  rw [Conv.runesFrom,kT]
  split
  ·show Conv.runesFrom s f (p+(Utf8.decode s p).2) (acc.push (.int .i32 (Int.ofNat (Utf8.decode s p).1)))=_
   rw [WE s f];simp
  ·simp
section
variable {N:Nat} {D:List Deferred} {w0:World} {F:Nat->Prop} {G0 G:GH} {L Li Lo:OL} {T:List (Nat × ak)}
variable {r:Option Nat} {P:Program} {ops:Array Oper} {Q:Exit->Act->World->Prop} {rest:List Oper} {a:Act} {w:World}
variable {d:Nat} {ty:TypeId} {pos:String} {aM:Array Edge} {g:Option (Nat × Bool)}
theorem CY {t yt:TypeId} {x y:Operand} {p q:Int} (z:Int) (H:St N D w0 F G0 G L T a w) (hw:Region.wanted ⟨some d,.binOp .rem t x y yt,ty,pos,aM,g⟩ (yielded ops a.tmps)=true) (hx:ev T x=some (.int .i64 p)) (hy:ev T y=some (.int .i64 q)) (hq:¬ q=0) (hz:p.tmod q=z) (hd:Nat.blt d N=true)
  (k:∀ a',St N D w0 F G0 G L ((d,.int .i64 z) :: T) a' w->WL r P ops Q rest a' w):WL r P ops Q (⟨some d,.binOp .rem t x y yt,ty,pos,aM,g⟩ :: rest) a w:=by
 subst hz
 refine dZ (v:=.int .i64 (p.tmod q)) (w':=w) hw O ?_ (k _ (H.put hd _ H.hp))
 simp [execOp,H.ev hx,H.ev hy,eqGuard,binOp,Op.intDiv,hq]
theorem aha {s:TypeId} {x:Operand} {n off:Nat} {cs:Array ak} {v:ak} (hs:L9 P s n off) (H:St N D w0 F G0 G L T a w) (hw:Region.wanted ⟨some d,.field s x n,ty,pos,aM,g⟩ (yielded ops a.tmps)=true) (hx:ev T x=some (.agg cs)) (hv:cs[off]?=some v) (hd:Nat.blt d N=true)
  (k:∀ a',St N D w0 F G0 G L ((d,v) :: T) a' w->WL r P ops Q rest a' w):WL r P ops Q (⟨some d,.field s x n,ty,pos,aM,g⟩ :: rest) a w:=by
 obtain ⟨fs,fl,u,h1,h2,h3,h4,h5⟩:=hs.parts
 have ha:(isAgg fl.type).run P w=.ok false w:=by
  unfold isAgg
  simp only [dB,lF h3,jH]
  cases u <;> simp_all
 refine dZ (v:=v) (w':=w) hw O ?_ (k _ (H.put hd _ H.hp))
 subst h5
 simp [execOp,Instr.field,part,asAgg,dB,H.ev hx,lF h1,h2,ha,hv]
theorem agS {t:TypeId} {x:Operand} {s:ByteArray} (ht:P.underlying t=some .string) (H:St N D w0 F G0 G L T a w) (hw:Region.wanted ⟨some d,.range t x,ty,pos,aM,g⟩ (yielded ops a.tmps)=true) (hx:ev T x=some (.string s)) (hd:Nat.blt d N=true)
  (k:∀ b a' w',w0.heap.size<=b->St N D w0 F G0 G ((b,.stringIter s 0) :: L) ((d,(aJ b 0)) :: T) a' w'->WL r P ops Q rest a' w'):WL r P ops Q (⟨some d,.range t x,ty,pos,aM,g⟩ :: rest) a w:=by
 refine dZ (v:=(aJ w.heap.size 0)) (w':=w.iter s 0) hw O ?_ (k _ _ _ H.hp.size (H.put hd _ (H.hp.alloc _)))
 simp only [execOp,H.ev hx,dB,run_range_string w t s ht,jH,mh]
theorem aiz {w:World} {b p p':Nat} {s:ByteArray} (h:w.heap[b]?=some (.stringIter s p)):sF b (.stringIter s p') w (w.iterAt b s p'):=by
 have hlt:b < w.heap.size:=(Array.getElem?_eq_some_iff.1 h).1
 refine ⟨O,O,O,by simp [World.iterAt],by simp [World.iterAt,hlt],fun k hk=>?_⟩
 simp only [World.iterAt]
 rw [Array.getElem?_setIfInBounds_ne (Ne.symm hk)]
theorem agP {x:Operand} {s:ByteArray} {b p i:Nat} (H:St N D w0 F G0 G L T a w) (hw:Region.wanted ⟨some d,.next x true,ty,pos,aM,g⟩ (yielded ops a.tmps)=true) (hx:ev T x=some (aJ b 0)) (hi:L[i]?=some (b,.stringIter s p)) (hd:Nat.blt d N=true)
  (k:∀ a' w',St N D w0 F G0 G (L.set i (b,.stringIter s (Eu s p))) ((d,.tuple (Ad s p).toArray) :: T) a' w'->WL r P ops Q rest a' w'):WL r P ops Q (⟨some d,.next x true,ty,pos,aM,g⟩ :: rest) a w:=by
 have ho:w.heap[b]?=some (.stringIter s p):=H.hp.own _ (kg hi)
 by_cases h:p < s.size
 ·have k2:=k (a.put (some d) (.tuple (Ad s p).toArray)) (w.iterAt b s (Eu s p)) (H.put hd _ (H.hp.upd hi (aiz ho)))
  refine dZ (v:=.tuple (Ad s p).toArray) (w':=w.iterAt b s (Eu s p)) hw O ?_ k2
  rw [VO h,VN h]
  simp only [execOp,H.ev hx,dB,Lib.run_next_any_at w b s p _ ho h,jH,mh]
 ·have e:Eu s p=p:=aL h
  have hs:L.set i (b,.stringIter s (Eu s p))=L:=by
   rw [e];apply List.ext_getElem?;intro j
   rw [List.getElem?_set]
   split
   ·rename_i hij;subst hij
    split
    ·exact hi.symm
    ·rename_i hj;rw [List.getElem?_eq_none V]
   ·rfl
  have k2:=k (a.put (some d) (.tuple (Ad s p).toArray)) w (by rw [hs];exact H.put hd _ H.hp)
  refine dZ (v:=.tuple (Ad s p).toArray) (w':=w) hw O ?_ k2
  rw [show Ad s p=[.bool false] from aL h]
  simp only [execOp,H.ev hx,dB,Lib.run_next_end_at w b s p _ ho h,jH,mh]
theorem agT {t u e:TypeId} {x:Operand} {s:ByteArray} (ht:P.underlying t=some .string) (hu:P.underlying u=some (.slice e)) (he:P.underlying e=some (.int .i32)) (H:St N D w0 F G0 G L T a w) (hw:Region.wanted ⟨some d,.convert t u x,ty,pos,aM,g⟩ (yielded ops a.tmps)=true) (hx:ev T x=some (.string s)) (hz:s.size<=4294967296) (hd:Nat.blt d N=true)
  (k:∀ v Lo a' w',aW e 1 v (iD s).length ((iD s).map fun x=>Value.int .i32 (x.2:Int)) Lo->St N D w0 F G0 G (Lo++L) ((d,v) :: T) a' w'->WL r P ops Q rest a' w'):WL r P ops Q (⟨some d,.convert t u x,ty,pos,aM,g⟩ :: rest) a w:=by
 have hr:=WE s s.size 0 #[]
 have hl:=Ew s s.size 0
 have hsz:(Conv.runesFrom s s.size 0 #[]).size=(iD s).length:=by rw [hr];simp [iD]
 have hc:=run_runes_of_string (P:=P) w t u e s ht hu he (by rw [hsz];unfold iD;omega)
 have hge:=grownCap_ge w (iD s).length 0 e
 have hml:(iD s).length<=maxLen:=by
  have:maxLen=9223372036854775807:=rfl
  unfold iD;omega
 rw [hsz] at hc
 have hrow:aW e 1 (.slice (some ⟨w.heap.size,0,none⟩) (iD s).length (grownCap w (iD s).length 0 e)) (iD s).length ((iD s).map fun x=>Value.int .i32 (x.2:Int)) [(w.heap.size,.cells (Conv.runesFrom s s.size 0 #[]++Array.replicate (grownCap w (iD s).length 0 e - (iD s).length) (.int .i32 0)) e (0,0))]:=by
  refine ⟨by simp,.inr ⟨_,_,_,O,O,hge,grownCap_le_maxLen w _ 0 e hml,?_,?_⟩⟩
  ·simp only [Array.size_append,hsz,Array.size_replicate];omega
  ·rw [hr,Array.toList_append,Nat.mul_one]
   simp only [Array.empty_append,iD]
   rw [List.take_left' (by simp)]
 have k2:=k _ _ _ _ hrow (H.put hd _ (H.hp.drew.alloc _))
 refine dZ (v:=.slice (some ⟨w.heap.size,0,none⟩) (iD s).length (grownCap w (iD s).length 0 e)) (w':=w.drew.alloc _) hw O ?_ k2
 simp only [execOp,H.ev hx,dB,hc,jH,mh]
theorem agR {t u e:TypeId} {x:Operand} {b o n c:Nat} (zs:List Int) (ht:P.underlying t=some (.slice e)) (he:P.underlying e=some (.int .i32)) (hu:P.underlying u=some .string) (H:St N D w0 F G0 G L T a w) (hw:Region.wanted ⟨some d,.convert t u x,ty,pos,aM,g⟩ (yielded ops a.tmps)=true) (hx:ev T x=some (.slice (some ⟨b,o,none⟩) n c)) (hn:zs.length=n)
  (hc:∀ j (h:j < zs.length),w.cell? ⟨b,o+j,none⟩=some (.int .i32 zs[j])) (hd:Nat.blt d N=true)
  (k:∀ a',St N D w0 F G0 G L ((d,.string (runesBytes zs)) :: T) a' w->WL r P ops Q rest a' w):WL r P ops Q (⟨some d,.convert t u x,ty,pos,aM,g⟩ :: rest) a w:=by
 have hr:=run_convert_runes (P:=P) w t u e ⟨b,o,none⟩ n c zs V ht he hu (fun j hj=>by
  have h:=hc j hj
  rw [List.getD_eq_getElem?_getD,iR hj,add_lit]
  exact h)
 rw [gG V] at hr
 refine dZ (v:=.string (runesBytes zs)) (w':=w) hw O ?_ (k _ (H.put hd _ H.hp))
 simp only [execOp,H.ev hx,dB,hr,jH,mh]
theorem WY {t:TypeId} {x y z:Operand} {s:ByteArray} {ky kz:IntKind} {p q:Int} (lo hi:Nat) (ht:P.underlying t=some .string) (H:St N D w0 F G0 G L T a w) (hw:Region.wanted ⟨some d,.slice t x (some y) (some z) none,ty,pos,aM,g⟩ (yielded ops a.tmps)=true) (hx:ev T x=some (.string s)) (hy:ev T y=some (.int ky p)) (hz:ev T z=some (.int kz q)) (hp:p=(lo:Int)) (hq:q=(hi:Int)) (h1:lo<=hi) (h2:hi<=s.size) (hd:Nat.blt d N=true)
  (k:∀ a',St N D w0 F G0 G L ((d,.string (s.extract lo hi)) :: T) a' w->WL r P ops Q rest a' w):WL r P ops Q (⟨some d,.slice t x (some y) (some z) none,ty,pos,aM,g⟩ :: rest) a w:=by
 subst hp;subst hq
 have hr:=run_slice_string (P:=P) w t s ky kz (lo:Int) (hi:Int) ht V V V
 rw [Int.toNat_natCast,Int.toNat_natCast] at hr
 refine dZ (v:=.string (s.extract lo hi)) (w':=w) hw O ?_ (k _ (H.put hd _ H.hp))
 simp only [execOp,H.ev hx,rJ,Option.map_none,H.ev hy,H.ev hz,dB,run_sliceAt_string w t _ _ _ _ ht,hr,jH,mh]
theorem WX {t:TypeId} {x y:Operand} {s:ByteArray} {ky:IntKind} {p:Int} (lo:Nat) (ht:P.underlying t=some .string) (H:St N D w0 F G0 G L T a w) (hw:Region.wanted ⟨some d,.slice t x (some y) none none,ty,pos,aM,g⟩ (yielded ops a.tmps)=true) (hx:ev T x=some (.string s)) (hy:ev T y=some (.int ky p)) (hp:p=(lo:Int)) (h1:lo<=s.size) (hd:Nat.blt d N=true)
  (k:∀ a',St N D w0 F G0 G L ((d,.string (s.extract lo s.size)) :: T) a' w->WL r P ops Q rest a' w):WL r P ops Q (⟨some d,.slice t x (some y) none none,ty,pos,aM,g⟩ :: rest) a w:=by
 subst hp
 have hr:=run_slice_string_l (P:=P) w t s ht ky (lo:Int) V V
 rw [Int.toNat_natCast] at hr
 refine dZ (v:=.string (s.extract lo s.size)) (w':=w) hw O ?_ (k _ (H.put hd _ H.hp))
 simp only [execOp,H.ev hx,rJ,Option.map_none,H.ev hy,dB,run_sliceAt_string w t _ _ _ _ ht,hr,jH,mh]
theorem WV {t e:TypeId} {sz bytes:Nat} {zero:List ak} {agg:Bool} (hs:P.underlying t=some (.slice e)) (ht:Ty P e sz bytes zero agg) {x y:Operand} {A:Option Addr} {n c:Nat} (lo:Nat) {p:Int} (H:St N D w0 F G0 G L T a w)
  (hw:Region.wanted ⟨some d,.slice t x (some y) none none,ty,pos,aM,g⟩ (yielded ops a.tmps)=true) (hx:ev T x=some (.slice A n c)) (hy:ev T y=some (.int .i64 p)) (hp:p=(lo:Int)) (h1:lo<=n) (hd:Nat.blt d N=true)
  (k:∀ a',St N D w0 F G0 G L ((d,.slice (if c=lo then A else A.map (·.add (lo*sz))) (n - lo) (c - lo)) :: T) a' w->WL r P ops Q rest a' w):WL r P ops Q (⟨some d,.slice t x (some y) none none,ty,pos,aM,g⟩ :: rest) a w:=by
 subst hp
 refine dZ (v:=.slice (if c=lo then A else A.map (·.add (lo*sz))) (n - lo) (c - lo)) (w':=w) hw O ?_ (k _ (H.put hd _ H.hp))
 simp [execOp,H.ev hx,H.ev hy,Instr.sliceAt,Instr.slice,Instr.sliceBounds,Instr.sliceBound,dB,lF hs,ht.wC,asIntOf,h1]
theorem WJ {t e:TypeId} {n sz bytes:Nat} {zero z:List ak} {agg:Bool} (hs:P.underlying t=some (.array n e)) (ht:Ty P e sz bytes zero agg) (hz:(P.info? t).map (fun i=>i.zero.map fun z=>z.cells.toList)=some (some z)) {xs:List (Nat × Operand)} {vs:List (Nat × ak)} {vs':List (Nat × List ak)} (cs:List ak) (H:St N D w0 F G0 G L T a w) (hw:Region.wanted ⟨some d,.build t xs.toArray,ty,pos,aM,g⟩ (yielded ops a.tmps)=true)
  (hx:pts T xs=some vs) (hv:vs.map (fun x=>(x.1,x.2.cells.toList))=vs') (hpl:∀ i q,((List.range n).map fun i=>(i*sz,sz))[i]?=some q->(some (i*sz,sz):Option (Nat × Nat))=some q) (hf:uY ((List.range n).map fun i=>(i*sz,sz)) z vs'=some cs) (hd:Nat.blt d N=true)
  (k:∀ a',St N D w0 F G0 G L ((d,.agg cs.toArray) :: T) a' w->WL r P ops Q rest a' w):WL r P ops Q (⟨some d,.build t xs.toArray,ty,pos,aM,g⟩ :: rest) a w:=by
 refine dZ (v:=.agg cs.toArray) (w':=w) hw O ?_ (k _ (H.put hd _ H.hp))
 obtain ⟨i,hi,hi2⟩:=mZ.1 hz
 obtain ⟨z0,hz0,hz1⟩:=mZ.1 hi2
 have hzv:(zeroValue t).run P w=.ok z0 w:=by simp [zeroValue,dB,Bt hi,hz0]
 have hzc:z0.cells=z.toArray:=by rw [<- hz1]
 have Gp:=fill_eq (fun i=>some (i*sz,sz)) _ hpl vs vs' z cs hv hf
 simp only [execOp,List.map_toArray,H.pts hx,Instr.build,dB,hzv,lF hs,jH,ht.wC,hzc,Gp,mh]
end
end
structure Io where
 num:Int
 Ug:Int
 low:Int
 high:Int
 std:Int
 name:ByteArray
def Io.dat (x:Io):List Dat:=[li x.num,li x.Ug,li x.low,li x.high,li x.std,.lf (.string x.name)]
def Io.cells (x:Io):List ak:=[vi x.num,vi x.Ug,vi x.low,vi x.high,vi x.std,.string x.name]
def mg.cells (x:mg):List ak:=[vi x.key,vi x.value]
theorem V3 {G:GH} {x:mg} {cs:List ak} (h:aY G x.dat cs):cs=x.cells:=by
 simp only [mg.dat,aY,aF] at h
 obtain ⟨v1,_,rfl,⟨rfl,-⟩,v2,_,rfl,⟨rfl,-⟩,rfl⟩:=h
 rfl
theorem acz:Dp prog 215 [(0,false),(1,false)]:=⟨Z,Z,Z,Z,Z⟩
theorem acA:Dp prog 218 [(0,false),(1,false)]:=⟨Z,Z,Z,Z,Z⟩
theorem acB:Dp prog 221 [(0,false),(1,false),(2,false),(3,true)]:=⟨Z,Z,Z,Z,Z⟩
theorem aaW:bL 117:=bN func117 O
theorem TJ:gL prog 53 0 0:=⟨Z⟩
theorem TK:gL prog 53 1 1:=⟨Z⟩
theorem aaX:bL 118:=bN func118 O
theorem aaY:bL 119:=bN func119 O
abbrev lI.cells (x:lI):List ak:=[vi x.rev,vi x.move]
abbrev lQ.cells (x:lQ):List ak:=[vi x.rev,vi x.key,vi x.before,.bool x.had]
theorem SN {G:GH} {x:lI} {cs:List ak} (h:aY G x.dat cs):cs=x.cells:=by
 simp only [lI.dat,aY,aF] at h
 obtain ⟨_,_,rfl,⟨rfl,_⟩,_,_,rfl,⟨rfl,_⟩,rfl⟩:=h
 rfl
theorem Vu {G:GH} {x:lQ} {cs:List ak} (h:aY G x.dat cs):cs=x.cells:=by
 simp only [lQ.dat,aY,aF] at h
 obtain ⟨_,_,rfl,⟨rfl,_⟩,_,_,rfl,⟨rfl,_⟩,_,_,rfl,⟨rfl,_⟩,_,_,rfl,⟨rfl,_⟩,rfl⟩:=h
 rfl
theorem mg.eq_iff (a b:mg):(a.key=b.key∧a.value=b.value)↔a=b:=by cases a;cases b;simp
theorem lI.eq_iff (a b:lI):(a.rev=b.rev∧a.move=b.move)↔a=b:=by cases a;cases b;simp
theorem lQ.eq_iff (a b:lQ):(a.rev=b.rev∧a.key=b.key∧a.before=b.before∧a.had=b.had)↔a=b:=by cases a;cases b;simp
instance:DecidableEq mg:=fun a b=>decidable_of_iff _ (mg.eq_iff a b)
instance:DecidableEq lI:=fun a b=>decidable_of_iff _ (lI.eq_iff a b)
instance:DecidableEq lQ:=fun a b=>decidable_of_iff _ (lQ.eq_iff a b)
theorem afF (a b:mg):(!([(0,false),(1,false)].all fun o=>jy #[vi a.key,vi a.value] o == jy #[vi b.key,vi b.value] o))=!decide (a=b):=by
 have h:=mg.eq_iff a b;rw [Bool.eq_iff_iff]
 simp only [Bool.not_eq_true',pQ]
 rw [<- h]
 simp [jy]
theorem afD (a b:lI):(!([(0,false),(1,false)].all fun o=>jy #[vi a.rev,vi a.move] o == jy #[vi b.rev,vi b.move] o))=!decide (a=b):=by
 have h:=lI.eq_iff a b;rw [Bool.eq_iff_iff]
 simp only [Bool.not_eq_true',pQ]
 rw [<- h]
 simp [jy]
theorem afE (a b:lQ):(!([(0,false),(1,false),(2,false),(3,true)].all fun o=>jy #[vi a.rev,vi a.key,vi a.before,.bool a.had] o == jy #[vi b.rev,vi b.key,vi b.before,.bool b.had] o))=!decide (a=b):=by
 have h:=lQ.eq_iff a b;rw [Bool.eq_iff_iff]
 simp only [Bool.not_eq_true',pQ]
 rw [<- h]
 simp [jy]
theorem acv (G:GH) (w0:World) (hG:Hold G w0) (A B:List mg) (v u:ak) (hv:aF G (.sl 2 (A.map mg.dat)) v) (hu:aF G (.sl 2 (B.map mg.dat)) u) :
  Calls prog 117 #[v,u] w0 (bQ w0 G fun r G'=>r=.bool (decide (A=B))):=by
 obtain ⟨vA,vc,rfl,hc1,hc2,hg⟩:=hv.slice;obtain ⟨uA,uc,rfl,hd1,hd2,hh⟩:=hu.slice;have hml:maxLen=9223372036854775807:=rfl;(iterate 2 rw [bJ] at *);refine eN [(0,_),(1,_)] func117 O ntmps117 O O hG ?_;intro a H;refine kP H (SR fun _ K1=>av K1 O (SQ fun _ K2=>SR fun _ K3=>Rm O (Rl wK O (Rm O (Rl wK O (Rc O (Kz K3 (Cd O ?_ ?_)))))))) <;> clear H K1 K3
 ·intro h10 a H
  try have mG:=dT h10
  exact kP H (SR fun _ K4=>av K4 O (LR results117 O fun H=>H.rt (jK (zy fun e=>absurd (gZ List.length e) V).symm)))
 intro h10 a H
 try have mG:=dF h10
 refine kP H (Kc K2 (SQ fun _ K5=>SR fun _ K6=>Rm O (Rl wK O (Rm O (Kz K6 (SB ?_))))));clear H K2 K6;intro a H;skip;refine dY (ι:=Nat × GH) (Tc:=[(0,_),(1,_),(12,_)]) (Lc:=[]) (fun gh=>[(13,vi gh.1)]) (fun gh=>[]) (fun gh=>gh.2) (fun gh=>gh.1<=A.length∧A.take gh.1=B.take gh.1∧(∀ b o,G b=some o->gh.2 b=some o)) (fun gh=>A.length - gh.1) ((0,G)) (by exact H.sub ⟨O,O,O,O,aI⟩) ?_ ?_
 ·exact ⟨V,O,fun _ _ h=>h⟩
 clear H;rintro ⟨k,g⟩ a w hI H;dsimp only at hI H;obtain ⟨hk,hsame,hgm⟩:=hI;dsimp only [lca,bW] at H;refine kP H (SR fun _ K7=>Rc O (Kz K7 (SQ fun _ K8=>Cd O ?_ ?_))) <;> clear H K7
 ·intro eD a H
  try have jC:=dT eD
  have hk2:k < A.length:=by omega
  have hk3:k < B.length:=by omega
  obtain ⟨b1,o1,cs1,rfl,NU,xM,hr1⟩:=hg k A[k].dat (by simp [hk2]);obtain rfl:=V3 hr1;obtain ⟨b2,o2,cs2,rfl,zP,hrow2,hr2⟩:=hh k B[k].dat (by simp [hk3]);obtain rfl:=V3 hr2;refine kP H (Kc K8 (SQ fun _ K9=>SB (SR fun _ aP=>Rm O (av aP O (SQ fun _ aT=>?_)))));clear H K8 aP;intro a H;refine dI hmx [[],[],[0,1],[0,1,2],[],[],[4,5],[4,5,6],ra 0 8] [] Z [_,_,_,.agg A[k].cells.toArray,_,_,_,.agg B[k].cells.toArray,.bool (!decide (A[k]=B[k]))] H (aH (Z0 O (Rm O)) (Z0 O (Rm O)) (Z2 0 16 1 17 O (Ri wK Dc O O)) ?_ (aH (Z0 O (Rm O)) (Z0 O (Rm O)) (Z2 4 20 5 21 O (Ri wK Dc O O)) ?_ (eB ?_ fD))) ?_
  ·refine pK 2 18 O O fun _ a w G1 hG HT H fin=>?_;refine bV Dc (cs:=A[k].cells) H wn O O (fun j v hj=>H.hp.aS (aK hG (aK hgm (xM j v hj)))) O ?_;clear H;intro a H;exact fin H iJ O
  ·refine pK 6 22 O O fun _ a w G1 hG HT H fin=>?_;refine bV Dc (cs:=B[k].cells) H wn O O (fun j v hj=>H.hp.aS (aK hG (aK hgm (hrow2 j v hj)))) O ?_;clear H;intro a H;exact fin H iJ O
  ·refine oQ 3 19 7 23 O O fun _ a w G1 hG HT H fin=>?_;refine Hw (.inr O) acz H wn O O O O ?_;clear H;intro a H;exact fin H iJ (jK (afF A[k] B[k]))
  clear H;intro a w G qb H hv;have H:=H.au (hv 8 24 O O) O;clear hv;refine aj ⟨O,?_⟩;refine aT _ _ ?_;clear aT;refine ou H O ?_ ?_
  ·intro aQ
   exact kP H (SR fun _ bH=>av bH O (LR results117 O fun H=>H.rt (jK (zy fun e=>absurd aQ (by subst e;simp)).symm)))
  intro aQ
  try have gP:=dF aQ
  have hsm:A[k]=B[k]:=by simpa using aQ
  refine kP H (Kc K9 (SC (Rd O (Rm O ?_))));clear H K9;intro a H;refine aj ?_;refine bE ((k+1,G)) (by exact H.sub ⟨O,O,O,O,aI⟩) ?_
  (try dsimp only);exact ⟨V,by rw [jq hk2,jq hk3,hsame,hsm],fun b o h=>qb b o (hgm b o h)⟩
 intro eD a H
 try have jC:=dF eD
 refine dJ ?_;refine K5 _ _ ?_;clear K5;exact kP H (SR fun _ bG=>av bG O (LR results117 O fun H=>H.rt (jK (wZ (by rw [gG V,gG V] at hsame;exact hsame)).symm)))
theorem acs (G:GH) (w0:World) (hG:Hold G w0) (A B:List lI) (v u:ak) (hv:aF G (.sl 2 (A.map lI.dat)) v) (hu:aF G (.sl 2 (B.map lI.dat)) u) :
  Calls prog 118 #[v,u] w0 (bQ w0 G fun r G'=>r=.bool (decide (A=B))):=by
 obtain ⟨vA,vc,rfl,hc1,hc2,hg⟩:=hv.slice;obtain ⟨uA,uc,rfl,hd1,hd2,hh⟩:=hu.slice;have hml:maxLen=9223372036854775807:=rfl;(iterate 2 rw [bJ] at *);refine eN [(0,_),(1,_)] func118 O ntmps118 O O hG ?_;intro a H;refine kP H (SR fun _ K1=>av K1 O (SQ fun _ K2=>SR fun _ K3=>Rm O (Rl wL O (Rm O (Rl wL O (Rc O (Kz K3 (Cd O ?_ ?_)))))))) <;> clear H K1 K3
 ·intro h10 a H
  try have mG:=dT h10
  exact kP H (SR fun _ K4=>av K4 O (LR results118 O fun H=>H.rt (jK (zy fun e=>absurd (gZ List.length e) V).symm)))
 intro h10 a H
 try have mG:=dF h10
 refine kP H (Kc K2 (SQ fun _ K5=>SR fun _ K6=>Rm O (Rl wL O (Rm O (Kz K6 (SB ?_))))));clear H K2 K6;intro a H;skip;refine dY (ι:=Nat × GH) (Tc:=[(0,_),(1,_),(12,_)]) (Lc:=[]) (fun gh=>[(13,vi gh.1)]) (fun gh=>[]) (fun gh=>gh.2) (fun gh=>gh.1<=A.length∧A.take gh.1=B.take gh.1∧(∀ b o,G b=some o->gh.2 b=some o)) (fun gh=>A.length - gh.1) ((0,G)) (by exact H.sub ⟨O,O,O,O,aI⟩) ?_ ?_
 ·exact ⟨V,O,fun _ _ h=>h⟩
 clear H;rintro ⟨k,g⟩ a w hI H;dsimp only at hI H;obtain ⟨hk,hsame,hgm⟩:=hI;dsimp only [lca,bW] at H;refine kP H (SR fun _ K7=>Rc O (Kz K7 (SQ fun _ K8=>Cd O ?_ ?_))) <;> clear H K7
 ·intro eD a H
  try have jC:=dT eD
  have hk2:k < A.length:=by omega
  have hk3:k < B.length:=by omega
  obtain ⟨b1,o1,cs1,rfl,NU,xM,hr1⟩:=hg k A[k].dat (by simp [hk2]);obtain rfl:=SN hr1;obtain ⟨b2,o2,cs2,rfl,zP,hrow2,hr2⟩:=hh k B[k].dat (by simp [hk3]);obtain rfl:=SN hr2;refine kP H (Kc K8 (SQ fun _ K9=>SB (SR fun _ aP=>Rm O (av aP O (SQ fun _ aT=>?_)))));clear H K8 aP;intro a H;refine dI hmx [[],[],[0,1],[0,1,2],[],[],[4,5],[4,5,6],ra 0 8] [] Z [_,_,_,.agg A[k].cells.toArray,_,_,_,.agg B[k].cells.toArray,.bool (!decide (A[k]=B[k]))] H (aH (Z0 O (Rm O)) (Z0 O (Rm O)) (Z2 0 16 1 17 O (Ri wL Df O O)) ?_ (aH (Z0 O (Rm O)) (Z0 O (Rm O)) (Z2 4 20 5 21 O (Ri wL Df O O)) ?_ (eB ?_ fD))) ?_
  ·refine pK 2 18 O O fun _ a w G1 hG HT H fin=>?_;refine bV Df (cs:=A[k].cells) H wn O O (fun j v hj=>H.hp.aS (aK hG (aK hgm (xM j v hj)))) O ?_;clear H;intro a H;exact fin H iJ O
  ·refine pK 6 22 O O fun _ a w G1 hG HT H fin=>?_;refine bV Df (cs:=B[k].cells) H wn O O (fun j v hj=>H.hp.aS (aK hG (aK hgm (hrow2 j v hj)))) O ?_;clear H;intro a H;exact fin H iJ O
  ·refine oQ 3 19 7 23 O O fun _ a w G1 hG HT H fin=>?_;refine Hw (.inr O) acA H wn O O O O ?_;clear H;intro a H;exact fin H iJ (jK (afD A[k] B[k]))
  clear H;intro a w G qb H hv;have H:=H.au (hv 8 24 O O) O;clear hv;refine aj ⟨O,?_⟩;refine aT _ _ ?_;clear aT;refine ou H O ?_ ?_
  ·intro aQ
   exact kP H (SR fun _ bH=>av bH O (LR results118 O fun H=>H.rt (jK (zy fun e=>absurd aQ (by subst e;simp)).symm)))
  intro aQ
  try have gP:=dF aQ
  have hsm:A[k]=B[k]:=by simpa using aQ
  refine kP H (Kc K9 (SC (Rd O (Rm O ?_))));clear H K9;intro a H;refine aj ?_;refine bE ((k+1,G)) (by exact H.sub ⟨O,O,O,O,aI⟩) ?_
  (try dsimp only);exact ⟨V,by rw [jq hk2,jq hk3,hsame,hsm],fun b o h=>qb b o (hgm b o h)⟩
 intro eD a H
 try have jC:=dF eD
 refine dJ ?_;refine K5 _ _ ?_;clear K5;exact kP H (SR fun _ bG=>av bG O (LR results118 O fun H=>H.rt (jK (wZ (by rw [gG V,gG V] at hsame;exact hsame)).symm)))
theorem acu (G:GH) (w0:World) (hG:Hold G w0) (A B:List lQ) (v u:ak) (hv:aF G (.sl 4 (A.map lQ.dat)) v) (hu:aF G (.sl 4 (B.map lQ.dat)) u) :
  Calls prog 119 #[v,u] w0 (bQ w0 G fun r G'=>r=.bool (decide (A=B))):=by
 obtain ⟨vA,vc,rfl,hc1,hc2,hg⟩:=hv.slice;obtain ⟨uA,uc,rfl,hd1,hd2,hh⟩:=hu.slice;have hml:maxLen=9223372036854775807:=rfl;(iterate 2 rw [bJ] at *);refine eN [(0,_),(1,_)] func119 O ntmps119 O O hG ?_;intro a H;refine kP H (SR fun _ K1=>av K1 O (SQ fun _ K2=>SR fun _ K3=>Rm O (Rl wM O (Rm O (Rl wM O (Rc O (Kz K3 (Cd O ?_ ?_)))))))) <;> clear H K1 K3
 ·intro h10 a H
  try have mG:=dT h10
  exact kP H (SR fun _ K4=>av K4 O (LR results119 O fun H=>H.rt (jK (zy fun e=>absurd (gZ List.length e) V).symm)))
 intro h10 a H
 try have mG:=dF h10
 refine kP H (Kc K2 (SQ fun _ K5=>SR fun _ K6=>Rm O (Rl wM O (Rm O (Kz K6 (SB ?_))))));clear H K2 K6;intro a H;skip;refine dY (ι:=Nat × GH) (Tc:=[(0,_),(1,_),(12,_)]) (Lc:=[]) (fun gh=>[(13,vi gh.1)]) (fun gh=>[]) (fun gh=>gh.2) (fun gh=>gh.1<=A.length∧A.take gh.1=B.take gh.1∧(∀ b o,G b=some o->gh.2 b=some o)) (fun gh=>A.length - gh.1) ((0,G)) (by exact H.sub ⟨O,O,O,O,aI⟩) ?_ ?_
 ·exact ⟨V,O,fun _ _ h=>h⟩
 clear H;rintro ⟨k,g⟩ a w hI H;dsimp only at hI H;obtain ⟨hk,hsame,hgm⟩:=hI;dsimp only [lca,bW] at H;refine kP H (SR fun _ K7=>Rc O (Kz K7 (SQ fun _ K8=>Cd O ?_ ?_))) <;> clear H K7
 ·intro eD a H
  try have jC:=dT eD
  have hk2:k < A.length:=by omega
  have hk3:k < B.length:=by omega
  obtain ⟨b1,o1,cs1,rfl,NU,xM,hr1⟩:=hg k A[k].dat (by simp [hk2]);obtain rfl:=Vu hr1;obtain ⟨b2,o2,cs2,rfl,zP,hrow2,hr2⟩:=hh k B[k].dat (by simp [hk3]);obtain rfl:=Vu hr2;refine kP H (Kc K8 (SQ fun _ K9=>SB (SR fun _ aP=>Rm O (av aP O (SQ fun _ aT=>?_)))));clear H K8 aP;intro a H;refine dI hmx [[],[],[0,1],[0,1,2],[],[],[4,5],[4,5,6],ra 0 8] [] Z [_,_,_,.agg A[k].cells.toArray,_,_,_,.agg B[k].cells.toArray,.bool (!decide (A[k]=B[k]))] H (aH (Z0 O (Rm O)) (Z0 O (Rm O)) (Z2 0 16 1 17 O (Ri wM Dg O O)) ?_ (aH (Z0 O (Rm O)) (Z0 O (Rm O)) (Z2 4 20 5 21 O (Ri wM Dg O O)) ?_ (eB ?_ fD))) ?_
  ·refine pK 2 18 O O fun _ a w G1 hG HT H fin=>?_;refine bV Dg (cs:=A[k].cells) H wn O O (fun j v hj=>H.hp.aS (aK hG (aK hgm (xM j v hj)))) O ?_;clear H;intro a H;exact fin H iJ O
  ·refine pK 6 22 O O fun _ a w G1 hG HT H fin=>?_;refine bV Dg (cs:=B[k].cells) H wn O O (fun j v hj=>H.hp.aS (aK hG (aK hgm (hrow2 j v hj)))) O ?_;clear H;intro a H;exact fin H iJ O
  ·refine oQ 3 19 7 23 O O fun _ a w G1 hG HT H fin=>?_;refine Hw (.inr O) acB H wn O O O O ?_;clear H;intro a H;exact fin H iJ (jK (afE A[k] B[k]))
  clear H;intro a w G qb H hv;have H:=H.au (hv 8 24 O O) O;clear hv;refine aj ⟨O,?_⟩;refine aT _ _ ?_;clear aT;refine ou H O ?_ ?_
  ·intro aQ
   exact kP H (SR fun _ bH=>av bH O (LR results119 O fun H=>H.rt (jK (zy fun e=>absurd aQ (by subst e;simp)).symm)))
  intro aQ
  try have gP:=dF aQ
  have hsm:A[k]=B[k]:=by simpa using aQ
  refine kP H (Kc K9 (SC (Rd O (Rm O ?_))));clear H K9;intro a H;refine aj ?_;refine bE ((k+1,G)) (by exact H.sub ⟨O,O,O,O,aI⟩) ?_
  (try dsimp only);exact ⟨V,by rw [jq hk2,jq hk3,hsame,hsm],fun b o h=>qb b o (hgm b o h)⟩
 intro eD a H
 try have jC:=dF eD
 refine dJ ?_;refine K5 _ _ ?_;clear K5;exact kP H (SR fun _ bG=>av bG O (LR results119 O fun H=>H.rt (jK (wZ (by rw [gG V,gG V] at hsame;exact hsame)).symm)))
theorem jZ.eq_iff (a b:jZ):(((a.props=b.props∧a.marks.ins=b.marks.ins)∧a.marks.move=b.marks.move)∧a.marks.ni=b.marks.ni)∧a.marks.layers=b.marks.layers↔a=b:=by
 obtain ⟨p,i,m,d,l⟩:=a;obtain ⟨p2,i2,m2,d2,l2⟩:=b
 simp [and_assoc]
instance:DecidableEq jZ:=fun a b=>decidable_of_iff _ (jZ.eq_iff a b)
abbrev Ee (h:jZ) (p d l:ak):ak:=.agg #[p,vi h.marks.ins,vi h.marks.move,d,l]
theorem TG (G:GH) (w0:World) (hG:Hold G w0) (x y:jZ) (p d l p2 d2 l2:ak) (hx:og G x p d l) (hy:og G y p2 d2 l2) :
  Calls prog 102 #[Ee x p d l,Ee y p2 d2 l2] w0 (bQ w0 G fun r G'=>r=.bool (decide (x=y))):=by
 obtain ⟨pA,pc,rfl,-,-,-⟩:=hx.props.slice;obtain ⟨dA,dc,rfl,-,-,-⟩:=hx.ni.slice;obtain ⟨lA,lc,rfl,-,-,-⟩:=hx.layers.slice;obtain ⟨pA2,pc2,rfl,-,-,-⟩:=hy.props.slice;obtain ⟨dA2,dc2,rfl,-,-,-⟩:=hy.ni.slice;obtain ⟨lA2,lc2,rfl,-,-,-⟩:=hy.layers.slice;have he:=jZ.eq_iff x y;refine eN [(0,_),(1,_)] func102 O ntmps102 O O hG ?_;intro a H;refine gU (fun _ K1=>?_);refine jQ (cs:=[_,_,_,_,_]) H wn O O O ?_;clear H;intro b2 a w hb2 H;refine jQ (cs:=[_,_,_,_,_]) H wn O O O ?_;clear H;intro b3 a w hb3 H;refine kH H (av K1 O (SR fun _ K2=>fG Ci Dh 1 O O (fG Ci Dh 0 O O ?_)));clear H K1;intro a H;refine s_call aaW H wn O (acv _ _ H.ro x.props y.props _ _ hx.props hy.props) O ?_;clear H;rintro v9 G9 a w rfl zW H;refine kH H (Rm O (Sp 10 O ?_ ?_)) <;> clear H
 ·intro h10 a H
  try have mG:=dT h10
  refine kH H (YF pW h10 O (YF TJ h10 O (YO aC 1 h10 O (YF pW h10 O (YF TJ h10 O (YO aC 0 h10 O (YC h10 O (Pt h10 O (Rm O (Sp 19 O ?_ ?_)))))))))) <;> clear H
  ·intro h19 a H
   try have Bo:=dT h19
   refine kH H (YF pW h19 O (YF TK h19 O (YO aC 1 h19 O (YF pW h19 O (YF TK h19 O (YO aC 0 h19 O (YC h19 O (Pt h19 O (Rm O (Sp 28 O ?_ ?_)))))))))) <;> clear H
   ·intro fI a H
    try have p28:=dT fI
    refine kH H (YF pW fI O (YF Cg fI O (YO Di 1 fI O (YF pW fI O (YF Cg fI O (YO Di 0 fI O ?_))))));clear H;intro a H;refine s_call aaX H (wg H O O fI) O (acs _ _ H.ro x.marks.ni y.marks.ni _ _ (hx.ni.mono zW) (hy.ni.mono zW)) O ?_;clear H;rintro v35 QK a w rfl Gx H;refine kH H (Pt fI O (Rm O (Sp 37 O ?_ ?_))) <;> clear H
    ·intro h37 a H
     try have p37:=dT h37
     refine kH H (YF pW h37 O (YF Ch h37 O (YO Dj 1 h37 O (YF pW h37 O (YF Ch h37 O (YO Dj 0 h37 O ?_))))));clear H;intro a H;refine s_call aaY H (wg H O O h37) O (acu _ _ H.ro x.marks.layers y.marks.layers _ _ ((hx.layers.mono zW).mono Gx) ((hy.layers.mono zW).mono Gx)) O ?_;clear H;rintro v44 YD a w rfl N8 H;exact kH H (Pt h37 O (av K2 O (LR results102 O fun H=>H.rt (jK (by simp_all)))))
    intro h37 a H
    try have p37:=dF h37
    exact kH H (aV h37 O (aO h37 O (aO h37 O (Pf h37 O (av K2 O (LR results102 O fun H=>H.rt (jK (by simp_all))))))))
   intro fI a H
   try have p28:=dF fI
   exact kH H (aV fI O (aO fI O (aO fI O (Pf fI O (Rm O (aV O O (aO O O (aO O O (Pf O O (av K2 O (LR results102 O fun H=>H.rt (jK (by simp_all)))))))))))))
  intro h19 a H
  try have Bo:=dF h19
  exact kH H (aV h19 O (aO h19 O (aO h19 O (Pf h19 O (Rm O (aV O O (aO O O (aO O O (Pf O O (Rm O (aV O O (aO O O (aO O O (Pf O O (av K2 O (LR results102 O fun H=>H.rt (jK (by simp_all))))))))))))))))))
 intro h10 a H
 try have mG:=dF h10
 exact kH H (aV h10 O (aO h10 O (aO h10 O (Pf h10 O (Rm O (aV O O (aO O O (aO O O (Pf O O (Rm O (aV O O (aO O O (aO O O (Pf O O (Rm O (aV O O (aO O O (aO O O (Pf O O (av K2 O (LR results102 O fun H=>H.rt (jK (by simp_all)))))))))))))))))))))))
section
section
variable {N:Nat} {D:List Deferred} {w0:World} {F:Nat->Prop} {G0 G:GH} {L:OL} {T:List (Nat × ak)}
variable {r:Option Nat} {P:Program} {ops:Array Oper} {Q:Exit->Act->World->Prop} {rest:List Oper} {a:Act} {w:World}
variable {d:Nat} {ty:TypeId} {pos:String} {aM:Array Edge} {g:Option (Nat × Bool)}
theorem agL {t:TypeId} (H:St N D w0 F G0 G L T a w) (hw:Region.wanted ⟨some d,.makeMap t none,ty,pos,aM,g⟩ (yielded ops a.tmps)=true) (hd:Nat.blt d N=true)
  (k:∀ b a' w',w0.heap.size<=b->St N D w0 F G0 G ((b,.map #[] 0) :: L) ((d,.map (some b)) :: T) a' w'->WL r P ops Q rest a' w'):WL r P ops Q (⟨some d,.makeMap t none,ty,pos,aM,g⟩ :: rest) a w:=by
 refine dZ (v:=.map (some w.heap.size)) (w':=w.alloc (.map #[] 0)) hw O ?_ (k _ _ _ H.hp.size (H.put hd _ (H.hp.alloc _)))
 simp [execOp,Instr.makeMap,newObj,Sem.run,dB]
def Ab (an:Option (Nat × ak)) (zv:ak):ak × Bool:=match an with|some (_,v)=>(v,true)|none=>(zv,false)
theorem agK {t kt et:TypeId} {kd:TypeDesc} {x y:Operand} {b i clock:Nat} {es:Array MapEntry} {ky zv:ak} (an:Option (Nat × ak)) (hm:P.underlying t=some (.map kt et)) (hk:P.underlying kt=some kd) (hz:(P.info? et).map (fun i=>i.zero)=some (some zv)) (H:St N D w0 F G0 G L T a w)
  (hw:Region.wanted ⟨some d,.lookup t x y true,ty,pos,aM,g⟩ (yielded ops a.tmps)=true) (hx:ev T x=some (.map (some b))) (hy:ev T y=some ky) (hi:L[i]?=some (b,.map es clock)) (hky:MapKept.IsKey kd ky) (hf:Instr.findNow kd ky es.toList 0=some an) (hd:Nat.blt d N=true)
  (k:∀ a',St N D w0 F G0 G L ((d,.tuple #[(Ab an zv).1,.bool (Ab an zv).2]) :: T) a' w->WL r P ops Q rest a' w):WL r P ops Q (⟨some d,.lookup t x y true,ty,pos,aM,g⟩ :: rest) a w:=by
 have hb:w.heap[b]?=some (.map es clock):=H.hp.own _ (kg hi)
 obtain ⟨inf,hi1,hi2⟩:=mZ.1 hz
 refine dZ (v:=.tuple #[(Ab an zv).1,.bool (Ab an zv).2]) (w':=w) hw O ?_ (k _ (H.put hd _ H.hp))
 have h1:=MapKept.run_checkKey (w:=w) hk hky es.isEmpty 9999
 have h2:=MapKept.run_findKey (w:=w) hk hf
 cases an with
 | none=>simp [execOp,Instr.lookup,H.ev hx,H.ev hy,dB,lF hm,MapKept.run_getObj_map hb,h1,h2,Result.andThen,zeroValue,Bt hi1,hi2,Ab]
 | some q=>simp [execOp,Instr.lookup,H.ev hx,H.ev hy,dB,lF hm,MapKept.run_getObj_map hb,h1,h2,Result.andThen,Ab]
theorem aiA {w:World} {b clock:Nat} {es:Array MapEntry} {o:Obj} (h:w.heap[b]?=some (.map es clock)):sF b o w { w with heap:=w.heap.setIfInBounds b o }:=by
 have hlt:b < w.heap.size:=(Array.getElem?_eq_some_iff.1 h).1
 refine ⟨O,O,O,by simp,by simp [hlt],fun k hk=>?_⟩
 simp only
 rw [Array.getElem?_setIfInBounds_ne (Ne.symm hk)]
theorem agM {t kt et:TypeId} {kd:TypeDesc} {x y z:Operand} {b i clock:Nat} {es:Array MapEntry} {ky v:ak} (hm:P.underlying t=some (.map kt et)) (hk:P.underlying kt=some kd) (H:St N D w0 F G0 G L T a w)
  (hw:Region.wanted ⟨none,.mapUpdate t x y z,ty,pos,aM,g⟩ (yielded ops a.tmps)=true) (hx:ev T x=some (.map (some b))) (hy:ev T y=some ky) (hzv:ev T z=some v) (hi:L[i]?=some (b,.map es clock)) (hky:MapKept.IsKey kd ky) (hf:Instr.findNow kd ky es.toList 0=some none)
  (k:∀ w',St N D w0 F G0 G (L.set i (b,.map (es.push ⟨ky,v,clock⟩) (clock+1))) T a w'->WL r P ops Q rest a w'):WL r P ops Q (⟨none,.mapUpdate t x y z,ty,pos,aM,g⟩ :: rest) a w:=by
 have hb:w.heap[b]?=some (.map es clock):=H.hp.own _ (kg hi)
 have h1:=MapKept.run_checkKey (w:=w) hk hky false 9999
 have h2:=MapKept.run_findKey (w:=w) hk hf
 refine Ye (w':={ w with heap:=w.heap.setIfInBounds b (.map (es.push ⟨ky,v,clock⟩) (clock+1)) }) hw O ?_ (k _ (H.move (H.hp.upd hi (aiA hb))))
 simp [execOp,Instr.mapUpdate,H.ev hx,H.ev hy,H.ev hzv,dB,lF hm,MapKept.run_getObj_map hb,h1,h2,MapKept.run_setObj_map _ hb,Result.andThen]
theorem agI {x:Operand} {t kt et:TypeId} {b i clock:Nat} {es:Array MapEntry} (hs:P.underlying t=some (.map kt et)) (H:St N D w0 F G0 G L T a w) (hw:Region.wanted ⟨some d,.call { callee:=.builtin .len,args:=#[x],argTypes:=#[t] },ty,pos,aM,g⟩ (yielded ops a.tmps)=true) (hx:ev T x=some (.map (some b))) (hi:L[i]?=some (b,.map es clock)) (hd:Nat.blt d N=true)
  (k:∀ a',St N D w0 F G0 G L ((d,.int .i64 es.size) :: T) a' w->WL r P ops Q rest a' w):WL r P ops Q (⟨some d,.call { callee:=.builtin .len,args:=#[x],argTypes:=#[t] },ty,pos,aM,g⟩ :: rest) a w:=by
 have hb:w.heap[b]?=some (.map es clock):=H.hp.own _ (kg hi)
 exact dZ (v:=.int .i64 es.size) (w':=w) hw O (by simp [execOp,resolve,invoke,builtin,Builtin.len_,H.ev hx,dB,lF hs,MapKept.run_getObj_map hb,goInt,Result.andThen]) (k _ (H.put hd _ H.hp))
theorem WO {t yt:TypeId} (hu:P.underlying t=some .bool) {x y:Operand} {p q:Bool} (H:St N D w0 F G0 G L T a w) (hw:Region.wanted ⟨some d,.binOp .eql t x y yt,ty,pos,aM,g⟩ (yielded ops a.tmps)=true) (hx:ev T x=some (.bool p)) (hy:ev T y=some (.bool q)) (hd:Nat.blt d N=true)
  (k:∀ a',St N D w0 F G0 G L ((d,.bool (p == q)) :: T) a' w->WL r P ops Q rest a' w):WL r P ops Q (⟨some d,.binOp .eql t x y yt,ty,pos,aM,g⟩ :: rest) a w:=by
 refine dZ (v:=.bool (p == q)) (w':=w) hw O ?_ (k _ (H.put hd _ H.hp))
 simp [execOp,H.ev hx,H.ev hy,dB,eqGuard,binOp,Op.equal,Op.maxDepth,run_equalIn_bool' w 9999 t p q hu]
theorem WR {t yt:TypeId} {x y:Operand} {p q:ByteArray} (H:St N D w0 F G0 G L T a w) (hw:Region.wanted ⟨some d,.binOp .neq t x y yt,ty,pos,aM,g⟩ (yielded ops a.tmps)=true) (hx:ev T x=some (.string p)) (hy:ev T y=some (.string q)) (hd:Nat.blt d N=true)
  (k:∀ a',St N D w0 F G0 G L ((d,.bool (!(p.toList == q.toList))) :: T) a' w->WL r P ops Q rest a' w):WL r P ops Q (⟨some d,.binOp .neq t x y yt,ty,pos,aM,g⟩ :: rest) a w:=by
 refine dZ (v:=.bool (!(p.toList == q.toList))) (w':=w) hw O ?_ (k _ (H.put hd _ H.hp))
 simp [execOp,H.ev hx,H.ev hy,dB,eqGuard,binOp,Op.stringOp]
theorem Hp.J8 (h:Hp w0 F G0 G L w) {b o:Nat} {c:Array ak} {e:TypeId} {fz:Nat × Nat} {v:ak} (hm:(b,Obj.cells c e fz)∈L) (hv:c[o]?=some v):w.cell? ⟨b,o,none⟩=some v:=by
 have:=h.own _ hm
 simp only [World.cell?,this]
 exact hv
end
end
section
section
variable {N:Nat} {D:List Deferred} {w0:World} {F:Nat->Prop} {G0 G:GH} {L Li Lo:OL} {T:List (Nat × ak)}
variable {r:Option Nat} {P:Program} {ops:Array Oper} {Q:Exit->Act->World->Prop} {rest:List Oper} {a:Act} {w:World}
variable {d:Nat} {ty:TypeId} {pos:String} {aM:Array Edge} {g:Option (Nat × Bool)}
theorem agN {x y z:Operand} {t t' t'':TypeId} {kd:IntKind} {p q s:Int} (H:St N D w0 F G0 G L T a w) (hw:Region.wanted ⟨some d,.call { callee:=.builtin .max,args:=#[x,y,z],argTypes:=#[t,t',t''] },ty,pos,aM,g⟩ (yielded ops a.tmps)=true) (hx:ev T x=some (.int kd p)) (hy:ev T y=some (.int kd q)) (hz:ev T z=some (.int kd s)) (hd:Nat.blt d N=true)
  (k:∀ a',St N D w0 F G0 G L ((d,.int kd (max (max p q) s)) :: T) a' w->WL r P ops Q rest a' w):WL r P ops Q (⟨some d,.call { callee:=.builtin .max,args:=#[x,y,z],argTypes:=#[t,t',t''] },ty,pos,aM,g⟩ :: rest) a w:=by
 refine dZ (v:=.int kd (max (max p q) s)) (w':=w) hw O ?_ (k _ (H.put hd _ H.hp))
 have e:∀ p q:Int,(if q > p then q else p)=max p q:=by intro p q;omega
 simp [execOp,resolve,invoke,builtin,Builtin.max_,Builtin.max2,H.ev hx,H.ev hy,H.ev hz,dB,e]
theorem afm (z:ak) (n:Nat):madeCells #[z] n=(List.replicate n z).toArray:=by
 apply Array.ext
 ·simp [madeCells]
 ·intro i h1 h2
  simp [madeCells,Nat.mod_one]
theorem xV {t e:TypeId} {z:ak} {bytes:Nat} {x y:Operand} {p:Int} (n:Nat) (hs:P.underlying t=some (.slice e)) (ht:Ty P e 1 bytes [z] false) (H:St N D w0 F G0 G L T a w) (hw:Region.wanted ⟨some d,.makeSlice t x y,ty,pos,aM,g⟩ (yielded ops a.tmps)=true)
  (hx:ev T x=some (.int .i64 p)) (hy:ev T y=some (.int .i64 p)) (hp:p=(n:Int)) (hb:bytes*n<=281474976710656) (h63:n<=9223372036854775807) (hd:Nat.blt d N=true)
  (k:∀ b a' w',w0.heap.size<=b->St N D w0 F G0 G ((b,.cells (List.replicate n z).toArray e (0,0)) :: L) ((d,.slice (some ⟨b,0,none⟩) n n) :: T) a' w'->WL r P ops Q rest a' w'):WL r P ops Q (⟨some d,.makeSlice t x y,ty,pos,aM,g⟩ :: rest) a w:=by
 obtain ⟨i,z0,hi,hi1,hi2,hi3,hi4⟩:=ht.parts
 subst hp
 have hz:z0.cells=#[z]:=by rw [hi4]
 have hb':(i.bytes:Int)*(n:Int)<=281474976710656:=by
  rw [hi2,<- Int.natCast_mul];omega
 have hr:=run_make (P:=P) w t e i z0 hs hi hi3 .i64 .i64 (n:Int) (n:Int) V (Int.le_refl _) hb' V
 rw [hi1,hz,Nat.mul_one,Int.toNat_natCast,afm] at hr
 refine dZ (v:=.slice (some ⟨w.heap.size,0,none⟩) n n) (w':=w.alloc (.cells (List.replicate n z).toArray e (0,0))) hw O ?_ (k _ _ _ H.hp.size (H.put hd _ (H.hp.alloc _)))
 simp only [execOp,H.ev hx,H.ev hy,dB,hr,jH,mh]
theorem oN {t e:TypeId} {n sz bytes:Nat} {zero:List ak} {agg:Bool} (hs:P.underlying t=some (.array n e)) (ht:Ty P e sz bytes zero agg) {x y:Operand} {b o:Nat} {kd:IntKind} {z:Int} (i:Nat) (H:St N D w0 F G0 G L T a w) (hw:Region.wanted ⟨some d,.indexAddr t x y,ty,pos,aM,g⟩ (yielded ops a.tmps)=true)
  (hx:ev T x=some (aJ b o)) (hy:ev T y=some (.int kd z)) (hz:z=(i:Int)) (hn:i < n) (hd:Nat.blt d N=true)
  (k:∀ a',St N D w0 F G0 G L ((d,(aJ b (o+i*sz))) :: T) a' w->WL r P ops Q rest a' w):WL r P ops Q (⟨some d,.indexAddr t x y,ty,pos,aM,g⟩ :: rest) a w:=by
 subst hz
 refine dZ (v:=(aJ b (o+i*sz))) (w':=w) hw O ?_ (k _ (H.put hd _ H.hp))
 have hr:(0:Int)<=i∧(i:Int) < (n:Int):=by omega
 simp only [execOp,Instr.indexAt,asIntOf,dB,H.ev hx,H.ev hy,lF hs,jH,mh,Instr.sureAddr,aN hr,ht.wC,add_lit,Int.toNat_natCast]
theorem WK {x:Operand} {t e:TypeId} {A:Option Addr} {n c:Nat} (hs:P.underlying t=some (.slice e)) (H:St N D w0 F G0 G L T a w) (hw:Region.wanted ⟨some d,.call { callee:=.builtin .cap,args:=#[x],argTypes:=#[t] },ty,pos,aM,g⟩ (yielded ops a.tmps)=true) (hx:ev T x=some (.slice A n c)) (hd:Nat.blt d N=true)
  (k:∀ a',St N D w0 F G0 G L ((d,.int .i64 c) :: T) a' w->WL r P ops Q rest a' w):WL r P ops Q (⟨some d,.call { callee:=.builtin .cap,args:=#[x],argTypes:=#[t] },ty,pos,aM,g⟩ :: rest) a w :=
 dZ (v:=.int .i64 c) (w':=w) hw O (by simp [execOp,resolve,invoke,builtin,Builtin.cap_,H.ev hx,dB,lF hs,goInt]) (k _ (H.put hd _ H.hp))
theorem PG {t e:TypeId} {sz bytes:Nat} {zero:List ak} {agg:Bool} (hs:P.underlying t=some (.slice e)) (ht:Ty P e sz bytes zero agg) {x z:Operand} {A:Option Addr} {n c:Nat} (hi:Nat) {q:Int} (H:St N D w0 F G0 G L T a w)
  (hw:Region.wanted ⟨some d,.slice t x none (some z) none,ty,pos,aM,g⟩ (yielded ops a.tmps)=true) (hx:ev T x=some (.slice A n c)) (hz:ev T z=some (.int .i64 q)) (hq:q=(hi:Int)) (h2:hi<=c) (hd:Nat.blt d N=true)
  (k:∀ a',St N D w0 F G0 G L ((d,.slice A hi c) :: T) a' w->WL r P ops Q rest a' w):WL r P ops Q (⟨some d,.slice t x none (some z) none,ty,pos,aM,g⟩ :: rest) a w:=by
 subst hq
 refine dZ (v:=.slice A hi c) (w':=w) hw O ?_ (k _ (H.put hd _ H.hp))
 simp [execOp,H.ev hx,H.ev hz,Instr.sliceAt,Instr.slice,Instr.sliceBounds,Instr.sliceBound,dB,lF hs,ht.wC,asIntOf,h2]
 intro _
 cases A with
 | none=>rfl
 | some p=>simp [Addr.add]
theorem agr {w:World} (t u ty e:TypeId) (i:TypeInfo) (z:ak) (hs:P.underlying t=some (.slice e)) (hu:P.underlying u=some (.int .i64)) (hi:P.info? e=some i) (hz:i.zero=some z) (n:Nat) (hn:0 < n) (hsz:0 < i.size) (h63:(n:Int)<=9223372036854775807) (h48:n*i.bytes<=281474976710656) :
  (Builtin.append_ #[t,u] ty #[.slice none 0 0,.int .i64 n]).run P w=.ok (.slice (some ⟨w.heap.size,0,none⟩) n (grownCap w n 0 e)) (w.drew.alloc (.cells (Builtin.zeroCells z.cells n++Builtin.zeroCells z.cells (grownCap w n 0 e - n)) e)):=by
 have w1:=Aa (z:=(n:Int)) V V
 have n1:¬ ((n:Int) < 0):=by omega
 have n2:¬ (281474976710656 < (n:Int)*i.bytes):=by rw [<- Int.natCast_mul];omega
 have n3:¬ n=0:=by omega
 have n4:¬ i.size=0:=by omega
 have n5:¬ (9223372036854775807 < (n:Int)):=by omega
 have n6:Builtin.nextslicecap n 0=n:=by simp [Builtin.nextslicecap,hn]
 have n7:¬ (281474976710656 < n*i.bytes):=by omega
 simp [Builtin.append_,run_underlying hs,run_underlying hu,sizeOf,typeInfo,zeroValue,hi,hz,asInt,asIntOf,w1,n1,n2,n3,n4,n5,n6,n7,Question.forced,newRow,grownCap,Builtin.firstCells]
 intro h
 rcases Nat.mul_eq_zero.1 h with h|h <;> omega
theorem agC {t u e:TypeId} {sz bytes:Nat} {zero:List ak} {agg:Bool} (hs:P.underlying t=some (.slice e)) (hu:P.underlying u=some (.int .i64)) (ht:Ty P e sz bytes zero agg) (hzl:Nat.beq zero.length sz=true) (hsz:Nat.blt 0 sz=true) {x y:Operand} {n:Nat} (H:St N D w0 F G0 G L T a w)
  (hw:Region.wanted ⟨some d,.call { callee:=.builtin .append,args:=#[x,y],argTypes:=#[t,u] },ty,pos,aM,g⟩ (yielded ops a.tmps)=true) (hx:ev T x=some (.slice none 0 0)) (hy:ev T y=some (.int .i64 (n:Int))) (hn:0 < n) (h63:n<=maxLen) (h48:n*bytes<=281474976710656) (hd:Nat.blt d N=true)
  (k:∀ b cap cur a' w',w0.heap.size<=b->n<=cap->cap<=maxLen->cur.size=cap*sz->St N D w0 F G0 G ((b,.cells cur e (0,0)) :: L) ((d,.slice (some ⟨b,0,none⟩) n cap) :: T) a' w'->WL r P ops Q rest a' w') :
  WL r P ops Q (⟨some d,.call { callee:=.builtin .append,args:=#[x,y],argTypes:=#[t,u] },ty,pos,aM,g⟩ :: rest) a w:=by
 obtain ⟨i,z,hi,hi1,hi2,hi3,hi4⟩:=ht.parts
 have hsz0:0 < sz:=Eq.mp Nat.blt_eq hsz
 have hzc:z.cells.size=sz:=by rw [hi4];simpa using vQ hzl
 have h63':(n:Int)<=9223372036854775807:=by have hml:maxLen=9223372036854775807:=rfl;omega
 have hr:=agr (P:=P) (w:=w) t u ty e i z hs hu hi hi3 n hn V h63' (by rw [hi2];exact h48)
 have hge:=grownCap_ge w n 0 e
 refine dZ (v:=.slice (some ⟨w.heap.size,0,none⟩) n (grownCap w n 0 e)) (w':=w.drew.alloc (.cells (Builtin.zeroCells z.cells n++Builtin.zeroCells z.cells (grownCap w n 0 e - n)) e)) hw O ?_ (k _ _ _ _ _ H.hp.size hge (grownCap_le_maxLen w n 0 e h63) ?_ (H.put hd _ (H.hp.drew.alloc _)))
 ·simp only [execOp,resolve,invoke,builtin,H.ev hx,H.ev hy,dB,List.map_toArray,gV,tY,mh,jH,hr]
 ·simp only [Array.size_append,size_zeroCells,hzc]
  rw [<- Nat.add_mul];congr 1;omega
end
end
section
section
variable {N:Nat} {D:List Deferred} {w0:World} {F:Nat->Prop} {G0 G:GH} {L Lo:OL} {T:List (Nat × ak)}
variable {r:Option Nat} {P:Program} {ops:Array Oper} {Q:Exit->Act->World->Prop} {rest:List Oper} {a:Act} {w:World}
variable {d:Nat} {ty:TypeId} {pos:String} {aM:Array Edge} {g:Option (Nat × Bool)}
theorem aje (z:Array ak) (n:Nat):(Builtin.zeroCells z n).toList.length=n*z.size:=by simp [Builtin.zeroCells]
theorem ajf {z:Array ak} {n:Nat} (h:z.toList.all Value.oneCell'=true):∀ u∈(Builtin.zeroCells z n).toList,u.oneCell'=true:=by
 intro u hu
 simp only [Builtin.zeroCells,Array.toList_map,List.mem_map] at hu
 obtain ⟨i,hi,rfl⟩:=hu
 have hi2:i < n*z.size:=by simpa using hi
 have hz:0 < z.size:=by
  rcases Nat.eq_zero_or_pos z.size with e|e
  ·rw [e,Nat.mul_zero] at hi2;omega
  ·exact e
 have hlt:i % z.size < z.size:=Nat.mod_lt _ hz
 rw [getElem!_pos z (i % z.size) hlt]
 exact gW.1 h _ (by simp)
theorem agE {t e:TypeId} {sz bytes:Nat} {zero:List ak} {agg:Bool} (hs:P.underlying t=some (.slice e)) (ht:Ty P e sz bytes zero agg) (hz:Nat.beq zero.length sz=true) (hz1:zero.all Value.oneCell'=true) {x:Operand} (i:Nat) {b o n cp:Nat} {c:List ak} (H:St N D w0 F G0 G L T a w)
  (hw:Region.wanted ⟨none,.call { callee:=.builtin .clear,args:=#[x],argTypes:=#[t] },ty,pos,aM,g⟩ (yielded ops a.tmps)=true) (hx:ev T x=some (.slice (some ⟨b,o,none⟩) n cp)) (hi:L[i]?=some (b,.cells c.toArray e (0,0))) (hn:0 < n) (hle:o+n*sz<=c.length)
  (k:∀ (c':List ak) w',c'.length=c.length->c'.take o=c.take o->St N D w0 F G0 G (L.set i (b,.cells c'.toArray e (0,0))) T a w'->WL r P ops Q rest a w') :
  WL r P ops Q (⟨none,.call { callee:=.builtin .clear,args:=#[x],argTypes:=#[t] },ty,pos,aM,g⟩ :: rest) a w:=by
 obtain ⟨inf,z,hi0,hi1,hi2,hi3,hi4⟩:=ht.parts
 have hb:=H.hp.own _ (kg hi)
 have hzs:z.cells.size=sz:=by rw [hi4];simpa using vQ hz
 have hlen:(Builtin.zeroCells z.cells n).toList.length=n*sz:=by rw [aje,hzs]
 obtain ⟨w2,h2,u2⟩:=Po (P:=P) b e o (Builtin.zeroCells z.cells n).toList 0 c w hb (by rw [hlen];omega) (ajf (by rw [hi4];simpa using hz1))
 simp only [qD] at u2
 refine dZ (v:=.tuple #[]) (w':=w2) hw O ?_ (k _ w2 ?_ ?_ (H.move (H.hp.upd hi u2)))
 ·obtain ⟨m,rfl⟩:∃ m,n=m+1:=⟨n - 1,V⟩
  simp [execOp,resolve,invoke,builtin,Builtin.clear_,dB,H.ev hx,lF hs,zeroValue,Bt hi0,hi3,h2]
 ·rw [KG]
 ·rw [EH _ _ _ (by rw [hlen];exact hle),oU,List.take_append_of_le_length (by rw [List.length_take];omega),gG (by rw [List.length_take];omega)]
end
end
theorem aW.ptr {e sz n c:Nat} {A:Option Addr} {xs:List ak} {Lo:OL} (h:aW e sz (.slice A n c) n xs Lo) (hn:0 < n):∃ b,A=some ⟨b,0,none⟩:=by
 rcases h.2 with ⟨_,h0,_⟩|⟨b,cap,cur,he,_⟩
 ·omega
 ·injection he with e1;exact ⟨b,e1⟩
theorem aW.at {w0 w:World} {F:Nat->Prop} {G0 G:GH} {L Lo:OL} {e sz n c b o:Nat} {xs:List ak} (h:aW e sz (.slice (some ⟨b,o,none⟩) n c) n xs Lo) (H:Hp w0 F G0 G L w) (hsub:∀ x∈Lo,x∈L) {i:Nat} {u:ak} (hi:xs[i]?=some u):w.cell? ⟨b,i,none⟩=some u:=by
 rcases h.2 with ⟨h1,_⟩|⟨b2,cap,cur,he,hl,h1,h2,h3,h4⟩
 ·cases h1
 ·injection he with e1
  injection e1 with e1
  injection e1 with e1
  subst e1
  refine H.J8 (c:=cur) (e:=e) (fz:=(0,0)) (hsub _ (by rw [hl];exact List.mem_singleton_self _)) ?_
  have hx:i < xs.length:=(gN.1 hi).1
  rw [h.1] at hx
  rw [<- h4,tX,aN hx,Array.getElem?_toList] at hi
  exact hi
theorem flat_get {sz:Nat}:∀ {css:List (List ak)} {k:Nat} (hk:k < css.length) (h:∀ cs∈css,cs.length=sz) (j:Nat),j < sz->css.flatten[k*sz+j]?=css[k][j]?
 | c :: css,0,_,h,j,hj=>by
  rw [List.flatten_cons,Nat.zero_mul,eH,List.getElem_cons_zero,rH (by rw [h c nN];exact hj)]
 | c :: css,k+1,hk,h,j,hj=>by
  have ih:=flat_get (css:=css) (k:=k) (by simpa using hk) (fun cs hc=>h cs (tZ _ hc)) j hj
  rw [List.flatten_cons,List.getElem_cons_succ,sG (by rw [h c nN,Nat.succ_mul];omega),h c nN,show (k+1)*sz+j - sz=k*sz+j by rw [Nat.succ_mul];omega]
  exact ih
theorem cO.at {G:GH} {sz:Nat} {rows:List (List Dat)} {xs:List ak} (h:cO G sz rows xs) {k:Nat} {r:List Dat} (hk:rows[k]?=some r):∃ cs,cs.length=sz∧(∀ j u,cs[j]?=some u->xs[k*sz+j]?=some u)∧aY G r cs:=by
 obtain ⟨css,rfl,h2,h3⟩:=h
 have hkl:k < css.length:=by rw [h2];exact (gN.1 hk).1
 obtain ⟨hr,hl⟩:=h3 k r css[k] hk (iR hkl)
 refine ⟨css[k],hl,fun j u hj=>?_,hr⟩
 rw [flat_get hkl (fun cs hc=>?_) j (by rw [<- hl];exact (gN.1 hj).1)]
 ·exact hj
 ·obtain ⟨i,hi,rfl⟩:=List.getElem_of_mem hc
  exact (h3 i rows[i] css[i] (iR V) (iR hi)).2
theorem aaT:bL 114:=bN func114 O
theorem zK:gL prog 58 4 4:=⟨Z⟩
theorem Ng:bL 97:=bN func97 O
theorem D6:gL prog 58 5 9:=⟨Z⟩
theorem Nc:bL 85:=bN func85 O
theorem uW:gL prog 58 6 10:=⟨Z⟩
theorem vH:Ty prog 56 1 24 [.slice none 0 0] false:=⟨Z,Z⟩
theorem acj:bL 99:=bN func99 O
theorem aci:bL 98:=bN func98 O
theorem SX:bL 102:=bN func102 O
def Rb (l:List aD):Prop:=∀ (k:Nat) (h:k+1 < l.length),¬ (l[k].kind=1∧l[k+1].kind=1∧l[k].head=l[k+1].head)
theorem Rb.one {l:List aD} (h:l.length<=1):Rb l:=fun k hk=>by omega
theorem wN:prog.underlying 85=some (.slice 89):=by kernel_rfl
theorem Qp:Ty prog 85 1 24 [.slice none 0 0] false:=⟨Z,Z⟩
theorem abI:bL 64:=bN func64 O
theorem abw:bL 46:=bN func46 O
theorem abv:bL 45:=bN func45 O
def uf (a:jD):List Dat:=[li a.kind,li a.from_,li a.dx,.lf (.bool a.mark)]
abbrev II (a:jD):List ak:=[vi a.kind,vi a.from_,vi a.dx,.bool a.mark]
theorem Zl (G:GH) (a:jD):aY G (uf a) (II a):=by
 simp only [uf,aY]
 exact ⟨_,_,O,by simp [aF,Value.oneCell'],_,_,O,by simp [aF,Value.oneCell'],_,_,O,by simp [aF,Value.oneCell'],_,_,O,by simp [aF,Value.oneCell'],O⟩
theorem Mv {G:GH} {a:jD} {cs:List ak} (h:aY G (uf a) cs):cs=II a:=by
 simp only [uf,aY,aF] at h
 obtain ⟨v1,_,rfl,⟨rfl,-⟩,v2,_,rfl,⟨rfl,-⟩,v3,_,rfl,⟨rfl,-⟩,v4,_,rfl,⟨rfl,-⟩,rfl⟩:=h
 rfl
theorem RH {A:List jD} {k:Nat} {args:List ak} {g:GH} (h:uJ (A.map rO) k args g):∃ hk:k < A.length,args=[.agg #[vi A[k].kind,vi A[k].from_,vi A[k].dx,.bool A[k].mark]]:=by
 obtain ⟨p,hp,hargs⟩:=h;rw [nM] at hp;obtain ⟨q,hq,rfl⟩:=mZ.1 hp;obtain ⟨hk,rfl⟩:=gN.1 hq;exact ⟨hk,hargs⟩
theorem Y8 (G:GH) (w0:World) (hG:Hold G w0) (A:List jD) (caps:List ak) (hit:Iter prog G (.func (.func 65) #[] caps.toArray) (A.map rO)) (hA:A.length<=4294967296) :
  Calls prog 64 #[.slice none 0 0,.func (.func 65) #[] caps.toArray] w0 (bQ w0 G fun u G'=>aF G' (.sl 4 (A.map uf)) u):=by
 have hml:4294967297<=maxLen:=by decide
 refine eN [(0,_),(1,_)] func64 O ntmps64 O O hG ?_;intro a H;refine gU (fun _ K1=>?_);refine jQ (cs:=[_]) H wn O O O ?_;clear H;intro b2 a w hb2 H;refine kH H (av K1 O (SQ fun _ K2=>SR fun _ K3=>Rm O (Kz K3 (SB ?_))));clear H K1 K3;intro a H;skip;refine IV (ι:=ak × List ak × OL) (κ:=Empty) (Lc:=[]) (fun (k:Nat) (gh:ak × List ak × OL)=>[(b2,.cells #[gh.1] 85 (0,0))]) (fun (k:Nat) (gh:ak × List ak × OL)=>gh.2.2) (fun (k:Nat) (gh:ak × List ak × OL) (g:GH)=>aW 89 4 gh.1 k gh.2.1 gh.2.2∧cO g 4 ((A.take k).map uf) gh.2.1) (fun x=>x.elim) (fun x=>x.elim) (fun x=>x.elim) (fun x=>x.elim) ((.slice none 0 0,[],[])) (by exact H.VP (A:=[_])) O TA (hit) (fun _ _ h=>h) O (fun k args g h=>by obtain ⟨_,rfl⟩:=RH h;rfl) (fun k i G G' hm h=>⟨h.1,h.2.mono hm⟩) (fun x=>x.elim) (⟨aW.nil,cO.nil⟩) ?_ ?_ ?_
 ·clear H;intro l2 yT vU bk k args gh G2 w2 F2 B2 a hk2 hm2 hI Gn El UY H;obtain ⟨v,xs,Lo⟩:=gh;dsimp only at hI H;obtain ⟨hk,rfl⟩:=RH hk2;dsimp only [uQ,List.cons_append,List.nil_append] at H;obtain ⟨hrw,iq⟩:=hI;refine rP ?_;refine gX lY H wn O ?_;clear H;intro b5 a w hb5 H;refine bg lY 0 (vs:=[_,_,_,_]) H wn O ?_;clear H;intro w H;refine aj ?_;refine Gn _ _ _ _ _ _ (by exact H.dz (Pl:=[_,_,_]) (bZ:=[_,_,_]) [1,0,2] Y O) ?_;clear H;intro w H;refine kP H (SB (SC (Ro Qp 2 O ?_)));clear H;intro a H;refine bV lY (cs:=[_,_,_,_]) H wn O O (H.hp.bR 1 O O) O ?_;clear H;intro a H;refine eU wN lY [_,_,_,_] [_,_,_,_] H wn O O O O O (by intro i q h;match i,h with|0,h=>exact h|n+1,h=>simp at h) O O ?_;clear H;intro b10 a w NI H;refine dX (Li:=[_,_,_,_]++bk) (Lo:=Lo) (news:=II A[k]) wN lY O O (St.un (A:=[_,_,_,_]) H) wn O O hrw O (H.hp.bR 0 O O) O V V O ?_;clear H;intro v11 LJ a w GQ H;obtain ⟨QD,c11,rfl,-,-⟩:=GQ.shape
  simp only [oU,nU,uN] at H
  refine bg Qp 3 (vs:=[_]) H wn O ?_;clear H;intro w H;refine aj ?_;refine El ((.slice QD (k+1) c11,xs++II A[k],LJ)) _ _ _ _ _ (by exact H.dz (Pl:=[_,_,_,_]) (bZ:=[_,_]) [1,3] Y O) ?_;exact ⟨GQ,by rw [jq hk,jw];exact iq.snoc (Zl _ _) O⟩
 ·clear H;intro QG gh QO a w hm2 hI H;obtain ⟨v,xs,Lo⟩:=gh;dsimp only at hI H;dsimp only [lca,bW] at H;obtain ⟨hrw,iq⟩:=hI;rw [bJ] at hrw iq;rw [qE] at iq;refine K2 _ _ ?_;clear K2;refine kP H (SR fun _ K4=>Ro Qp 1 O (av K4 O ?_));clear H K4;intro a H;refine aU ?_;refine (Es H 0 O ?_).1;clear H;intro a w H;dsimp only [List.eraseIdx_cons_succ,List.eraseIdx_cons_zero] at H;refine lv H results64 O ?_;obtain ⟨Gr,hmr,hrep,H⟩:=St.kF (Li:=[_]) H hrw (rows:=A.map uf) (by simp) iq;exact H.rt hrep
 intro Dk x;exact x.elim
theorem Zr (G:GH) (w0:World) (hG:Hold G w0) (l:List aD) (v:ak) (hv:aF G (.sl 11 (l.map aD.dat)) v) (hz:cK l<=4294967290) :
  Calls prog 46 #[v] w0 (bQ w0 G fun u G'=>∃ bd,u=.func (.func 65) #[] #[(aJ bd 0)]∧Iter prog G' u ((pU 0 0 true l).map rO)):=by
 obtain ⟨A,c,rfl,hc1,hc2,hg⟩:=hv.slice;refine eN [(0,_)] func46 O ntmps46 O O hG ?_;intro a H;refine gU (fun _ K1=>?_);refine jQ (cs:=[_]) H wn O O O ?_;clear H;intro b1 a w hb1 H;refine kH H (av K1 O (SR fun _ K2=>?_));clear H K1;intro a H;refine Bw H wn O O ?_;clear H;intro a H;refine kH H (av K2 O ?_);clear H K2;intro a H;refine aU ?_;obtain ⟨G2,hm2,hb1,H⟩:=H.kE;refine lv H results46 O ?_;exact H.rt ⟨b1,O,Zq (by unfold aS;rw [hb1];rfl) (hv.mono hm2) hz⟩
theorem aaj (G:GH) (w0:World) (hG:Hold G w0) (A:List jD) (caps:List ak) (hit:Iter prog G (.func (.func 65) #[] caps.toArray) (A.map rO)) (hA:A.length<=4294967296) :
  Calls prog 45 #[.func (.func 65) #[] caps.toArray] w0 (bQ w0 G fun u G'=>aF G' (.sl 4 (A.map uf)) u):=by
 refine eN [(0,_)] func45 O ntmps45 O O hG ?_;intro a H;refine kP H (SR fun _ K1=>av K1 O (SR fun _ K2=>Rm O ?_));clear H K1;intro a H;refine s_call abI H wn O (Y8 _ _ H.ro A caps hit hA) O ?_;clear H;rintro v4 G4 a w hp4 UC H;exact kH H (av K2 O (LR results45 O fun H=>H.rt hp4))
def lq (l:List aD):List jD:=if jW l=0 then pU 0 0 true l else []
theorem Lm (G:GH) (w0:World) (hG:Hold G w0) (l:List aD) (v:ak) (hv:aF G (.sl 11 (l.map aD.dat)) v) (hz:cK l<=1073741824) :
  Calls prog 30 #[v] w0 (bQ w0 G fun u G'=>∃ x,u=.tuple #[x,vi (jW l)]∧aF G' (.sl 4 ((lq l).map uf)) x):=by
 have hbl:=FH l 0 0 true;have hll:=yj l;refine eN [(0,_)] func30 O ntmps30 O O hG ?_;intro a H;refine kP H (SR fun _ K1=>Ra O (av K1 O (SQ fun _ K2=>SR fun _ K3=>Rm O ?_)));clear H K1;intro a H;refine s_call FZ H wn O (Hl _ _ H.ro l v hv V) O ?_;clear H;rintro v7 G7 a w ⟨rfl,rfl⟩ Bh H;refine kH H (Rm O ?_);clear H;intro a H;(iterate 2 refine eZ H wn O O O ?_;clear H;intro a H);refine kH H (Ra O (av K3 O (SR fun _ K4=>Rm O (Rc O (Kz K4 (Cd O ?_ ?_)))))) <;> clear H K3 K4
 ·intro h12 a H
  try have oJ:=dT h12
  refine kP H (SR fun _ K5=>Rm O (Ra O (av K5 O ?_)));clear H K5;intro a H;refine aU ?_;refine (bK H results30 (.cons (aG H O) (.cons (aG H O) .nil)) ?_).1;exact H.rt ⟨_,O,by rw [lq,aL oJ];exact aF.lD O Y⟩
 intro h12 a H
 try have oJ:=dF h12
 refine kP H (Kc K2 (SR fun _ K6=>Rm O ?_));clear H K2;intro a H;refine s_call abw H wn O (Zr _ _ H.ro l v hv V) O ?_;clear H;rintro v13 LC a w ⟨bd,rfl,hit⟩ Gu H;refine s_call abv H wn O (aaj _ _ H.ro (pU 0 0 true l) [(aJ bd 0)] hit V) O ?_;clear H;rintro v16 BJ a w UH Cu H;obtain ⟨Yp,n16,c16,rfl⟩:=UH.form;refine kH H (Ra O (av K6 O ?_));clear H K6;intro a H;refine aU ?_;refine (bK H results30 (.cons (aG H O) (.cons (aG H O) .nil)) ?_).1
 have h0:jW l=0:=by omega
 exact H.rt ⟨_,by rw [h0],by rw [lq,aN h0];exact UH⟩
abbrev DJ (b:jD):ak:=.agg #[vi b.kind,vi b.from_,vi b.dx,.bool b.mark]


theorem Ld (l m:List aD):cK (l++m)=cK l+cK m:=by simp [cK,HZ]
theorem VL {x:aD} (h:¬ x.kind=1):n1 x=1:=by simp [n1,xX,lH,h]


theorem abW:bL 83:=bN func83 O
theorem TD:bL 84:=bN func84 O
theorem acD:Dp prog 89 [(0,false),(1,false),(2,false),(3,true)]:=⟨Z,Z,Z,Z,Z⟩
theorem abV:bL 82:=bN func82 O
theorem MW:bL 30:=bN func30 O
theorem abN:bL 71:=bN func71 O
theorem Nh:gL prog 89 2 2:=⟨Z⟩
theorem acS:gL prog 89 3 3:=⟨Z⟩
theorem Jj:gL prog 89 1 1:=⟨Z⟩
theorem Jb:bL 72:=bN func72 O
def Ah (l:List aD) (fr tO:Int):Int:=if jW l=0 then (if fr < 0∨tO < fr∨qd l < tO then 2 else 0) else jW l
theorem ZW (G:GH) (w0:World) (hG:Hold G w0) (l:List aD) (fr tO:Int) (v:ak) (hv:aF G (.sl 11 (l.map aD.dat)) v) (hz:cK l<=4294967296) :
  Calls prog 83 #[v,vi fr,vi tO] w0 (bQ w0 G fun u G'=>u=vi (Ah l fr tO)):=by
 refine eN [(0,_),(1,_),(2,_)] func83 O ntmps83 O O hG ?_;intro a H;refine kP H (SR fun _ K1=>av K1 O (SR fun _ K2=>Rm O ?_));clear H K1;intro a H;refine s_call FZ H wn O (Hl _ _ H.ro l v hv hz) O ?_;clear H;rintro v11 _ a w ⟨rfl,rfl⟩ - H;refine kH H (Rm O ?_);clear H;intro a H;(iterate 2 refine eZ H wn O O O ?_;clear H;intro a H);refine kH H (Ra O (av K2 O (SQ fun _ K3=>SB (SR fun _ K4=>Rm O (Rc O (av K4 O (Cd O ?_ ?_))))))) <;> clear H K2 K4
 ·intro eD a H
  try have jC:=dT eD
  exact kP H (SR fun _ K5=>Rm O (av K5 O (LR results83 O fun H=>H.rt (by rw [Ah,aL jC]))))
 intro eD a H
 try have jC:=dF eD
 refine kP H (SR fun _ K6=>Rm O (Rc O (Rm O (Sp 21 O ?_ ?_)))) <;> clear H
 ·intro h21 a H
  try have mH:=dT h21
  refine kH H (aV h21 O (Pt h21 O (Rm O (aV O O (Pt O O (av K6 O (Ct O O (SR fun _ K7=>av K7 O ?_))))))));clear H K6 K7;intro a H;refine lr H results83 O ?_
  have h0:jW l=0:=by omega
  refine H.rt ?_;rw [Ah,aN h0]
  first
   | (rw [dS];done)
   | (rw [aZ];done)
 intro h21 a H
 try have mH:=dF h21
 refine kH H (YM h21 O (YM h21 O (YC h21 O (Pf h21 O (Rm O (Sp 26 O ?_ ?_)))))) <;> clear H
 ·intro fV a H
  try have p26:=dT fV
  refine kH H (aV fV O (Pt fV O (av K6 O (Ct O O (SR fun _ K8=>av K8 O ?_)))));clear H K6 K8;intro a H;refine lr H results83 O ?_
  have h0:jW l=0:=by omega
  refine H.rt ?_;rw [Ah,aN h0]
  first
   | (rw [dS];done)
   | (rw [aZ];done)
 intro fV a H
 try have p26:=dF fV
 refine kH H (YM fV O (YM fV O (YC fV O (Pf fV O (av K6 O (Cd O ?_ ?_)))))) <;> clear H K6
 ·intro h18 a H
  try have nY:=dT h18
  refine kP H (SR fun _ K9=>av K9 O ?_);clear H K9;intro a H;refine lr H results83 O ?_
  have h0:jW l=0:=by omega
  refine H.rt ?_;rw [Ah,aN h0]
  first
   | (rw [dS];done)
   | (rw [aZ];done)
 intro h18 a H
 try have nY:=dF h18
 refine kP H (Kc K3 (SR fun _ aP=>av aP O ?_));clear H K3 aP;intro a H;refine lr H results83 O ?_
 have h0:jW l=0:=by omega
 refine H.rt ?_;rw [Ah,aN h0]
 first
  | (rw [dS];done)
  | (rw [aZ];done)
theorem Dm:∀ {m l:List aD},m.Sublist l->cK m<=cK l
 | _,_,.slnil=>bS _
 | _,_,.cons a h=>by have:=Dm h;simp only [cK,gV,fM] at *;omega
 | _,_,.cons_cons a h=>by have:=Dm h;simp only [cK,gV,fM] at *;omega
theorem OZ:∀ (l:List aD) (o:Nat),(fE o l).map (·.2)=l
 | [],_=>rfl
 | x :: l,o=>by simp [fE,OZ l]
theorem OJ (t:Int) (l:List aD):(uE t l).Sublist l:=by
 have h:(lA t (fE 0 l)).Sublist ((fE 0 l).map (·.2)):=List.Sublist.map _ List.filter_sublist
 rwa [OZ] at h
theorem Pj (t:Int) (l:List aD):(yU t l).Sublist l:=by
 have h:(rA t (fE 0 l)).Sublist ((fE 0 l).map (·.2)):=List.Sublist.map _ List.filter_sublist
 rwa [OZ] at h
def zl (t:Int) (l:List aD):Prop:=∀ a∈fE 0 l,xw t a=true∨t<=a.1
theorem Zo (a b:jD):Value.bool (if BinOp.eql=BinOp.eql then [(0,false),(1,false),(2,false),(3,true)].all fun o=>jy #[vi a.kind,vi a.from_,vi a.dx,.bool a.mark] o == jy #[vi b.kind,vi b.from_,vi b.dx,.bool b.mark] o else !([(0,false),(1,false),(2,false),(3,true)].all fun o=>jy #[vi a.kind,vi a.from_,vi a.dx,.bool a.mark] o == jy #[vi b.kind,vi b.from_,vi b.dx,.bool b.mark] o))=.bool (decide (a=b)):=by
 congr 1
 have h:=jD.eq_iff a b;rw [Bool.eq_iff_iff]
 simp only [dU]
 rw [<- h]
 simp [jy]
theorem aeV (G:GH) (w0:World) (hG:Hold G w0) (A:List jD) (b:jD) (v:ak) (hv:aF G (.sl 4 (A.map uf)) v) :
  Calls prog 82 #[v,DJ b] w0 (bQ w0 G fun u G'=>u=vi (CP (A.findIdx? fun x=>decide (b=x)))):=by
 obtain ⟨vA,c,rfl,hc1,hc2,hg⟩:=hv.slice;have hml:maxLen=9223372036854775807:=rfl;rw [bJ] at *;refine eN [(0,_),(1,_)] func82 O ntmps82 O O hG ?_;intro a H;refine gU (fun _ K1=>?_);refine jQ (cs:=[_,_,_,_]) H wn O O O ?_;clear H;intro b3 a w hb3 H;refine kH H (av K1 O (SQ fun _ K2=>SR fun _ K3=>Rm O (Rl wN O (Rm O (Kz K3 (SB ?_))))));clear H K1 K3;intro a H;skip;refine dY (ι:=Nat × GH) (Tc:=[(0,_),(3,_),(7,_)]) (Lc:=[(_,_)]) (fun gh=>[(8,vi gh.1)]) (fun gh=>[]) (fun gh=>gh.2) (fun gh=>gh.1<=A.length∧(A.take gh.1).findIdx? (fun x=>decide (b=x))=none∧(∀ b o,G b=some o->gh.2 b=some o)) (fun gh=>A.length - gh.1) ((0,G)) (by exact H.sub ⟨O,O,O,O,aI⟩) ?_ ?_
 ·exact ⟨V,O,fun _ _ h=>h⟩
 clear H;rintro ⟨k,g⟩ a w hI H;dsimp only at hI H;obtain ⟨hk,hno,hgm⟩:=hI;dsimp only [lca,bW] at H;refine kP H (SR fun _ K4=>Rc O (Kz K4 (SQ fun _ K5=>Cd O ?_ ?_))) <;> clear H K4
 ·intro h9 a H
  try have p9:=dT h9
  have hk2:k < A.length:=by omega
  obtain ⟨b1,o1,cs1,rfl,NU,xM,hr1⟩:=hg k (uf A[k]) (by simp [hk2]);obtain rfl:=Mv hr1;refine kP H (Kc K5 (SQ fun _ K6=>SB (SR fun _ K7=>Rm O (av K7 O (SQ fun _ K8=>?_)))));clear H K5 K7;intro a H;refine dI hmx [[],[],[],[1,2],[1,2,3],ra 0 5] [] Z [DJ b,_,_,_,DJ A[k],.bool (decide (b=A[k]))] H (aH ?_ (Z0 O (Rm O)) (Z0 O (Rm O)) (Z2 1 12 2 13 O (Ri wN lY O O)) (eB ?_ (eB ?_ fD))) ?_
  ·refine Rh O fun _ a w G1 hG HT H fin=>?_;refine bV lY (cs:=[_,_,_,_]) H wn O O (H.hp.bR 0 O O) O ?_;clear H;intro a H;exact fin H iJ O
  ·refine pK 3 14 O O fun _ a w G1 hG HT H fin=>?_;refine bV lY (cs:=[_,_,_,_]) H wn O O (fun j v hj=>H.hp.aS (aK hG (aK hgm (xM j v hj)))) O ?_;clear H;intro a H;exact fin H iJ O
  ·refine oQ 0 11 4 15 O O fun _ a w G1 hG HT H fin=>?_;refine Hw (.inl O) acD H wn O O O O ?_;clear H;intro a H;exact fin H iJ (Zo _ _)
  clear H;intro a w G Uk H hv;have H:=H.au (hv 5 16 O O) O;clear hv;refine aj ⟨O,?_⟩;refine K8 _ _ ?_;clear K8;refine ou H O ?_ ?_
  ·intro h16
   exact kP H (SR fun _ K9=>Rm O (av K9 O (LR results82 O fun H=>H.rt (by rw [J4 hk2 hno h16];rfl))))
  intro h16
  try have p16:=dF h16
  refine kP H (Kc K6 (SC (Rd O (Rm O ?_))));clear H K6;intro a H;refine aj ?_;refine bE ((k+1,G)) (by exact H.sub ⟨O,O,O,O,aI⟩) ?_
  (try dsimp only);exact ⟨V,OH hk2 hno h16,fun b o h=>Uk b o (hgm b o h)⟩
 intro h9 a H
 try have p9:=dF h9
 refine dJ ?_;refine K2 _ _ ?_;clear K2;exact kP H (SR fun _ aP=>av aP O (LR results82 O fun H=>H.rt (by rw [show A.take k=A from gG V] at hno;rw [hno];rfl)))
theorem aal (G:GH) (w0:World) (hG:Hold G w0) (A:List jD) (b:jD) (v:ak) (hv:aF G (.sl 4 (A.map uf)) v) :
  Calls prog 71 #[v,DJ b] w0 (bQ w0 G fun u G'=>u=.bool (A.findIdx? fun x=>decide (b=x)).isSome):=by
 refine eN [(0,_),(1,_)] func71 O ntmps71 O O hG ?_;intro a H;refine gU (fun _ K1=>?_);refine jQ (cs:=[_,_,_,_]) H wn O O O ?_;clear H;intro b3 a w hb3 H;refine kH H (av K1 O (SR fun _ K2=>Rm O ?_));clear H K1;intro a H;refine bV lY (cs:=[_,_,_,_]) H wn O O (H.hp.bR 0 O O) O ?_;clear H;intro a H;refine s_call abV H wn O (aeV _ _ H.ro A b _ hv) O ?_;clear H;rintro v7 G7 a w rfl Bh H;refine kH H (Rc O (av K2 O ?_));clear H K2;intro a H;refine lr H results71 O ?_
 exact H.rt (by cases h:A.findIdx? (fun x=>decide (b=x)) <;> simp [CP])
def oZ (b:jD):Int:=if b.mark then b.dx - 1 else b.dx
section
section
variable {N:Nat} {D:List Deferred} {w0:World} {F:Nat->Prop} {G0 G:GH} {L:OL} {T:List (Nat × ak)}
variable {r:Option Nat} {P:Program} {ops:Array Oper} {Q:Exit->Act->World->Prop} {rest:List Oper} {a:Act} {w:World}
variable {d:Nat} {ty:TypeId} {pos:String} {aM:Array Edge} {g:Option (Nat × Bool)}
theorem ED {t yt:TypeId} {x y:Operand} {p q:ByteArray} (H:St N D w0 F G0 G L T a w) (hw:Region.wanted ⟨some d,.binOp .add t x y yt,ty,pos,aM,g⟩ (yielded ops a.tmps)=true) (hx:ev T x=some (.string p)) (hy:ev T y=some (.string q)) (hs:p.size+q.size<=4611686018427387904) (hd:Nat.blt d N=true)
  (k:∀ a',St N D w0 F G0 G L ((d,.string (p++q)) :: T) a' w->WL r P ops Q rest a' w):WL r P ops Q (⟨some d,.binOp .add t x y yt,ty,pos,aM,g⟩ :: rest) a w:=by
 refine dZ (v:=.string (p++q)) (w':=w) hw O ?_ (k _ (H.put hd _ H.hp))
 have h:¬ ((p.size+q.size:Nat):Int) > IntKind.i64.max:=by
  rw [show IntKind.i64.max=9223372036854775807 by decide];omega
 simp only [execOp,H.ev hx,H.ev hy,dB,eqGuard,binOp,Op.stringOp,aL h]
 rfl
end
theorem aW.set1 {e sz n cap b o:Nat} {xs:List ak} {Lo:OL} (h:aW e sz (.slice (some ⟨b,o,none⟩) n cap) n xs Lo) :
  ∃ cur:List ak,o=0∧Lo=[(b,.cells cur.toArray e (0,0))]∧n*sz<=cur.length∧∀ j v,aW e sz (.slice (some ⟨b,0,none⟩) n cap) n (xs.set j v) [(b,.cells (cur.set j v).toArray e (0,0))]:=by
 rcases h.2 with ⟨h1,_⟩|⟨b',cap',cur',h1,h2,h3,h4,h5,h6⟩
 ·cases h1
 ·cases h1
  refine ⟨cur'.toList,O,h2,?_,fun j v=>⟨by rw [List.length_set];exact h.1,.inr ⟨b,cap,_,O,O,h3,h4,by simpa using h5,?_⟩⟩⟩
  ·rw [BP,h5];exact Nat.mul_le_mul_right _ h3
  ·rw [List.toList_toArray,<- h6,List.take_set]
theorem cO.ahx {G:GH} {sz:Nat} {rows:List (List Dat)} {q:List Dat} {xs:List ak} (h:cO G sz (rows++[q]) xs):∃ x0 cs,xs=x0++cs∧cO G sz rows x0∧aY G q cs∧cs.length=sz∧x0.length=rows.length*sz:=by
 obtain ⟨css,rfl,h2,h3⟩:=h
 rw [fQ,List.length_singleton] at h2
 have hne:css≠[]:=fun e=>by rw [e] at h2;simp at h2
 have e:css=css.dropLast++[css.getLast hne]:=(List.dropLast_concat_getLast hne).symm
 have hdl:css.dropLast.length=rows.length:=by rw [List.length_dropLast];omega
 generalize css.dropLast=c0 at e hdl
 generalize css.getLast hne=cl at e
 subst e
 have h4:∀ (j:Nat) (r:List Dat) (cs:List ak),rows[j]?=some r->c0[j]?=some cs->aY G r cs∧cs.length=sz:=fun j r cs hr hc=>h3 j r cs (by rw [rH (gN.1 hr).1];exact hr) (by rw [rH (gN.1 hc).1];exact hc)
 have h5:=h3 rows.length q cl (by rw [sG (bS _),Nat.sub_self];rfl) (by rw [sG V,hdl,Nat.sub_self];rfl)
 refine ⟨c0.flatten,cl,by simp,⟨c0,O,hdl,h4⟩,h5.1,h5.2,?_⟩
 have h6:∀ (c:List (List ak)) (rs:List (List Dat)),c.length=rs.length->(∀ (j:Nat) (r:List Dat) (cs:List ak),rs[j]?=some r->c[j]?=some cs->aY G r cs∧cs.length=sz)->c.flatten.length=rs.length*sz:=by
  intro c
  induction c with
  | nil=>intro rs h _;cases rs with
   | nil=>simp
   | cons r rs=>simp at h
  | cons x c ih =>
   intro rs h hh
   cases rs with
   | nil=>simp at h
   | cons r rs =>
    have e1:=(hh 0 r x O O).2
    have e2:=ih rs (by simpa using h) fun j r' cs hr hc=>hh (j+1) r' cs (by simpa using hr) (by simpa using hc)
    rw [List.flatten_cons,fQ,e1,e2,ko,Nat.succ_mul,Nat.add_comm]
 exact h6 c0 rows hdl h4
end
def xQ (z y:aD):aD:=.mk z.kind z.code z.id (z.text++y.text) z.head z.flow z.rows
def vX (y:aD):Prop:=(y.kind=7∧y.rows.length=0)∨(y.kind=1∧y.text.size=0)
def yP (z y:aD):Prop:=y.kind=1∧z.kind=1∧z.head=y.head
instance (y:aD):Decidable (vX y):=inferInstanceAs (Decidable (_∨_))
instance (z y:aD):Decidable (yP z y):=inferInstanceAs (Decidable (_∧_∧_))
def addN (out:List aD) (y:aD):List aD :=
 if vX y then out else match out.getLast? with
  | none=>out++[y]
  | some z=>if yP z y then out.dropLast++[xQ z y] else out++[y]
theorem Rp {out:List aD} {y:aD} (h:vX y):addN out y=out:=aN h
theorem Dy {out:List aD} {y:aD} (h:¬ vX y) (hj:∀ o z,out=o++[z]->¬ yP z y):addN out y=out++[y]:=by
 unfold addN
 rw [aL h]
 split
 ·rfl
 rename_i z hz
 obtain ⟨o,rfl⟩:=List.getLast?_eq_some_iff.1 hz;rw [aL (hj o z O)]
theorem Rq {o:List aD} {z y:aD} (h:¬ vX y) (hj:yP z y):addN (o++[z]) y=o++[xQ z y]:=by
 unfold addN
 rw [aL h,List.getLast?_concat];dsimp only;rw [aN hj,List.dropLast_concat]
theorem Ma (out:List aD) (y:aD):addN out y=out∨addN out y=out++[y]∨∃ o z,out=o++[z]∧z.kind=1∧y.kind=1∧addN out y=o++[xQ z y]:=by
 by_cases h:vX y
 ·exact .inl (Rp h)
 by_cases hj:∃ o z,out=o++[z]∧yP z y
 ·obtain ⟨o,z,rfl,hj⟩:=hj;exact .inr (.inr ⟨o,z,O,hj.2.1,hj.1,Rq h hj⟩)
 exact .inr (.inl (Dy h fun o z e hz=>hj ⟨o,z,e,hz⟩))
theorem aiu (out:List aD) (y:aD):kC (addN out y)<=kC out+(y.text.size+1):=by
 rcases Ma out y with e|e|⟨o,z,rfl,-,-,e⟩ <;> rw [e]
 ·omega
 ·rw [Da];simp [kC]
 rw [Da,Da];have:(xQ z y).text.size=z.text.size+y.text.size:=ByteArray.size_append
 simp only [kC,this];omega
def Gl (r:dQ):Bool:=!decide (r.cells.length=0)
mutual
/-- What becomes of an item in a normal form, of rows, of cells. -/
def gI:aD->aD
 | .mk k c i t h f r=>.mk k c i t h ((wh f).foldl addN []) ((zN r).filter Gl)
def wh:List aD->List aD
 | []=>[]
 | x :: l=>gI x :: wh l
def gR:dQ->dQ
 | .mk h c=>.mk h (Bb c)
def zN:List dQ->List dQ
 | []=>[]
 | x :: l=>gR x :: zN l
def gC:dO->dO
 | .mk i h f=>.mk i h ((wh f).foldl addN [])
def Bb:List dO->List dO
 | []=>[]
 | x :: l=>gC x :: Bb l
end
theorem Jk:∀ l:List aD,wh l=l.map gI
 | []=>by simp [wh]
 | x :: l=>by simp [wh,Jk l]
theorem Ub:∀ l:List dQ,zN l=l.map gR
 | []=>by simp [zN]
 | x :: l=>by simp [zN,Ub l]
theorem Ua:∀ l:List dO,Bb l=l.map gC
 | []=>by simp [Bb]
 | x :: l=>by simp [Bb,Ua l]
def qh (l:List aD) (k:Nat):List aD:=((l.take k).map gI).foldl addN []
def pX (l:List aD):List aD:=qh l l.length
theorem Nn (x:aD):gI x=.mk x.kind x.code x.id x.text x.head (pX x.flow) ((x.rows.map gR).filter Gl):=by
 cases x;rw [gI,Jk,Ub];simp [pX,qh,aD.kind,aD.code,aD.id,aD.text,aD.head,aD.flow,aD.rows]
theorem adb (x:dQ):gR x=.mk x.head (x.cells.map gC):=by cases x;rw [gR,Ua];rfl
theorem ada (x:dO):gC x=.mk x.id x.head (pX x.flow):=by cases x;rw [gC,Jk];simp [pX,qh,dO.id,dO.head,dO.flow]
theorem VT {l:List aD} {k:Nat} (h:k < l.length):qh l (k+1)=addN (qh l k) (gI l[k]):=by
 unfold qh;rw [jq h,jw,List.foldl_append];rfl
theorem O1 {l:List aD}:∀ {k:Nat},k<=l.length->kC (qh l k)<=kC (l.take k)
 | 0,_=>by simp [qh,kC]
 | k+1,h=>by
  have ih:=O1 (l:=l) (k:=k) V;have h1:=aiu (qh l k) (gI l[k])
  have h2:(gI l[k]).text=l[k].text:=by rw [Nn];rfl
  rw [h2] at h1;rw [VT V,jq V,Da]
  simp only [kC];omega
theorem afP {l:List aD} {k:Nat} (h:k<=l.length):(qh l k).length<=kC l:=by
 have h1:=J7 (qh l k);have h2:=O1 h;have h3:=Qn l k
 omega
abbrev lT:=dQ × List ak
def lX (l:List lT):List ak:=(l.map Prod.snd).flatten
def pO (G:GH) (l:List lT):Prop:=∀ x∈l,aY G x.1.dat x.2
theorem EB {G:GH} {x:lT} (h:aY G x.1.dat x.2):x.2.length=6:=by
 obtain ⟨_,_,_,_,_,_,_,_,_,_,_,_,e,-⟩:=h.row;rw [e];rfl
theorem pO.mono {G G':GH} {l:List lT} (h:pO G l) (hm:∀ b o,G b=some o->G' b=some o):pO G' l:=fun x hx=>(h x hx).mono hm
theorem pO.tl {G:GH} {x:lT} {l:List lT} (h:pO G (x :: l)):pO G l:=fun y hy=>h y (tZ _ hy)
theorem Ky {G:GH}:∀ {l:List lT},pO G l->(lX l).length=l.length*6
 | [],_=>rfl
 | p :: l,h=>by
  have h1:=Ky h.tl;have h2:=EB (h p (nN ..))
  simp only [lX,gV,List.flatten_cons,fQ,ko] at *
  omega
theorem Pp {G:GH}:∀ {l:List lT},pO G l->∀ {k:Nat} (h:k < l.length) (j:Nat),j < 6->(lX l)[k*6+j]?=l[k].2[j]?
 | p :: l,hr,0,_,j,hj=>by
  have h2:=EB (hr p (nN ..))
  simp only [lX,gV,List.flatten_cons,Nat.zero_mul,eH,List.getElem_cons_zero]
  rw [rH V]
 | p :: l,hr,k+1,h,j,hj=>by
  have h2:=EB (hr p (nN ..));have ih:=Pp hr.tl (k:=k) (by simpa using h) j hj
  simp only [lX,gV,List.flatten_cons,List.getElem_cons_succ] at ih |-
  rw [sG V,h2,show (k+1)*6+j - 6=k*6+j by omega];exact ih
theorem WH (l m:List lT):lX (l++m)=lX l++lX m:=by simp [lX]
theorem pO.sub {G:GH} {l m:List lT} (h:pO G l) (hs:∀ x∈m,x∈l):pO G m:=fun x hx=>h x (hs x hx)
theorem pO.cat {G:GH} {l:List lT} (h:pO G l):cO G 6 ((l.map Prod.fst).map dQ.dat) (lX l):=by
 refine ⟨l.map Prod.snd,O,by simp,fun k r cs h1 h2=>?_⟩;rw [nM,nM] at h1;rw [nM] at h2;obtain ⟨x,hx,rfl⟩:=mZ.1 h2;rw [hx] at h1;obtain rfl:=Option.some.inj h1;have:=h x (kg hx);exact ⟨this,EB this⟩
theorem aiZ {w0 w:World} {F:Nat->Prop} {G0 G Gr:GH} {L Lo:OL} {e c n:Nat} {A:Option Addr} {l:List lT} (hr:pO Gr l) (h:aW e 6 (.slice A n c) n (lX l) Lo) (hn:n=l.length) (H:Hp w0 F G0 G L w) (hsub:∀ x∈Lo,x∈L) {k:Nat} (hk:k < l.length) :
  ∃ b,A=some ⟨b,0,none⟩∧∀ j u,l[k].2[j]?=some u->w.cell? ⟨b,0+k*6+j,none⟩=some u:=by
 rcases h.2 with ⟨_,h0,_⟩|⟨b,cap,cur,he,hl,h1,h2,h3,h4⟩
 ·omega
 injection he with e1 e2 e3
 refine ⟨b,e1,fun j u hu=>?_⟩
 have hj:j < 6:=by have:=(gN.1 hu).1;rw [EB (hr _ (dV hk))] at this;exact this
 refine H.J8 (c:=cur) (e:=e) (fz:=(0,0)) (hsub _ (by rw [hl];exact List.mem_singleton_self _)) ?_;have h5:=Pp hr hk j hj;rw [<- h4,tX,dS,Array.getElem?_toList] at h5;rw [show 0+k*6+j=k*6+j by omega,h5];exact hu
theorem aeW {G:GH} {w0:World} {Lo:OL} {v fv:ak} (l:List lT) (p:lT->Bool) (hO:jN G Lo w0) (hR:pO G l) (hrw:aW 63 6 v l.length (lX l) Lo) (hf:∀ x∈l,LZ fv G x.1.dat (p x)) :
  Calls prog 114 #[v,fv] w0 (jO w0 G Lo fun u G' L'=>L'=Lo∧u=vi (CP (l.findIdx? p))):=by
 obtain ⟨A,c,rfl,hc1,hc2⟩:=hrw.shape;have hml:maxLen=9223372036854775807:=rfl;refine mP (N:=19) (T:=[(0,_),(1,_)]) func114 O ntmps114 O O hO ?_;intro a H;refine kP H (SR fun _ K1=>av K1 O (SQ fun _ K2=>SR fun _ K3=>Rm O (Rl mK O (Rm O (Kz K3 (SB ?_))))));clear H K1 K3;intro a H;skip;refine dY (ι:=Nat × GH) (Tc:=[(0,_),(1,_),(7,_)]) (Lc:=[]) (fun gh=>[(8,vi gh.1)]) (fun gh=>[]++Lo) (fun gh=>gh.2) (fun gh=>gh.1<=l.length∧(l.take gh.1).findIdx? p=none∧(∀ b o,G b=some o->gh.2 b=some o)) (fun gh=>l.length - gh.1) ((0,G)) (by exact H.sub ⟨O,O,O,O,aI⟩) ?_ ?_
 ·exact ⟨V,O,fun _ _ h=>h⟩
 clear H;rintro ⟨k,g⟩ a w hI H;dsimp only at hI H;obtain ⟨hk,hno,hgm⟩:=hI;dsimp only [lca,bW] at H;refine kP H (SR fun _ K4=>Rc O (Kz K4 (SQ fun _ K5=>Cd O ?_ ?_))) <;> clear H K4
 ·intro h9 a H
  try have p9:=dT h9
  have hk2:k < l.length:=by omega
  obtain ⟨b,rfl,hrow⟩:=aiZ hR hrw O H.hp (fun x hx=>by first|exact hx|exact tZ _ hx|simpa using hx) hk2;have hrep:=hR _ (dV hk2);obtain ⟨pA,pn,pc,dA,dn,dc,yA,yn,yc,fA,fn,fc,hcs,-,-⟩:=hrep.row;rw [hcs] at hrow hrep;refine kP H (Kc K5 (SQ fun _ K6=>SB (SR fun _ K7=>Rm O (av K7 O (SR fun _ K8=>Rm O (Rm O (Rm O (Ri mK jo O O ?_))))))));clear H K5 K7;intro a H;refine bV jo (cs:=[_,_,_,_,_,_]) H wn O O hrow O ?_;clear H;intro a H;refine yV H wn O O (hf _ (dV hk2) _ _ _ hgm H.ro (hrep.mono hgm)) O ?_;clear H;rintro v16 BJ a w rfl Cu H;refine K8 _ _ ?_;clear K8;refine ou H O ?_ ?_
  ·intro h16
   try have p16:=dT h16
   refine kP H (SR fun _ K9=>Rm O (av K9 O ?_));clear H K9;intro a H;refine lr H results114 O ?_
   first
    | exact H.hp.dP ⟨O,by rw [J4 hk2 hno h16];rfl⟩
    | exact H.hp.dP ⟨O,by rw [show l.take k=l from gG V] at hno;rw [hno];rfl⟩
  intro h16
  try have p16:=dF h16
  refine kP H (Kc K6 (SC (Rd O (Rm O ?_))));clear H K6;intro a H;refine aj ?_;refine bE ((k+1,BJ)) (by exact H.sub ⟨O,O,O,O,aI⟩) ?_
  (try dsimp only);exact ⟨V,OH hk2 hno h16,fun b o h=>Cu b o (hgm b o h)⟩
 intro h9 a H
 try have p9:=dF h9
 refine dJ ?_;refine K2 _ _ ?_;clear K2;refine kP H (SR fun _ aP=>av aP O ?_);clear H aP;intro a H;refine lr H results114 O ?_
 first
  | exact H.hp.dP ⟨O,by rw [J4 hk2 hno h16];rfl⟩
  | exact H.hp.dP ⟨O,by rw [show l.take k=l from gG V] at hno;rw [hno];rfl⟩
theorem aiQ {l:List lT} {p:lT->Bool} {i:Nat} (h:l.findIdx? p=some i):∃ hi:i < l.length,(l.take (i+1)).filter (fun x=>!p x)=l.take i:=by
 obtain ⟨hi,h1,h2⟩:=List.findIdx?_eq_some_iff_getElem.1 h;refine ⟨hi,?_⟩;rw [jq hi,List.filter_append,List.filter_eq_self.2]
 ·simp [h1]
 intro x hx;obtain ⟨j,hj,rfl⟩:=List.getElem_of_mem hx;rw [List.getElem_take]
 have hj2:j < i:=by rw [List.length_take] at hj;omega
 have:=h2 j hj2
 simpa using this
theorem aiR {l:List lT} {p:lT->Bool} (h:l.findIdx? p=none):l.filter (fun x=>!p x)=l:=by
 rw [List.findIdx?_eq_none_iff] at h
 exact List.filter_eq_self.2 fun x hx=>by rw [h x hx];rfl
theorem aiS {cl xs:List ak} {i:Nat} (hx:xs.length=6) (h:i*6+6<=cl.length):(setRow cl (0+i*6) xs).length=cl.length∧(setRow cl (0+i*6) xs).take ((i+1)*6)=cl.take (i*6)++xs∧∀ m,(i+1)*6<=m->(setRow cl (0+i*6) xs)[m]?=cl[m]?:=by
 have e:setRow cl (0+i*6) xs=cl.take (i*6)++xs++cl.drop (i*6+6):=by
  rw [eH,EH _ _ _ V,hx]
 have hl:(cl.take (i*6)++xs).length=(i+1)*6:=by rw [fQ,List.length_take];omega
 refine ⟨KG ..,?_,fun m hm=>?_⟩
 ·rw [e,<- hl,List.take_left]
 rw [e,sG V,hl,List.getElem?_drop];congr 1;omega
theorem aiP {G:GH} {l:List lT} {cl:List ak} {i:Nat} (hR:pO G l) (hi:i < l.length) (h:cl.take (l.length*6)=lX l):cl.take (i*6)=lX (l.take i):=by
 have e:cl.take (i*6)=(cl.take (l.length*6)).take (i*6):=by rw [List.take_take,Nat.min_eq_left V]
 have h2:lX l=lX (l.take i)++lX (l.drop i):=by rw [<- WH,List.take_append_drop]
 have h3:(lX (l.take i)).length=i*6:=by rw [Ky (hR.sub fun x hx=>List.mem_of_mem_take hx),List.length_take];omega
 rw [e,h,h2,<- h3,List.take_left]
theorem aiT {l:List lT} {p:lT->Bool} {j:Nat} (hj:j < l.length):(l.take (j+1)).filter (fun x=>!p x)=(l.take j).filter (fun x=>!p x)++if p l[j] then [] else [l[j]]:=by
 rw [jq hj,List.filter_append]
 cases h:p l[j] <;> simp [h]
set_option maxHeartbeats 2000000 in
theorem aax {G:GH} {w0:World} {Lo:OL} {v fv:ak} (l:List lT) (p:lT->Bool) (hO:jN G Lo w0) (hR:pO G l) (hrw:aW 63 6 v l.length (lX l) Lo) (hf:∀ x∈l,LZ fv G x.1.dat (p x)) :
  Calls prog 98 #[v,fv] w0 (jO w0 G Lo fun u G' L'=>aW 63 6 u (l.filter fun x=>!p x).length (lX (l.filter fun x=>!p x)) L'):=by
 obtain ⟨A,c,rfl,hc1,hc2⟩:=hrw.shape;have hml:maxLen=9223372036854775807:=rfl;have hdl:=Ky hR;refine mP (N:=42) (T:=[(0,_),(1,_)]) func98 O ntmps98 O O hO ?_;intro a H;refine kP H (SR fun _ K1=>av K1 O (SR fun _ K2=>Rm O (Rm O ?_)));clear H K1;intro a H;refine jT aaT (Li:=[]) (L:=Lo) H wn O (aeW l p (Hp.owns (Li:=[]) H.hp) hR hrw hf) O ?_;clear H;rintro v10 vL L10 a w ⟨rfl,rfl⟩ rT H;dsimp only [List.nil_append] at H;obtain ⟨o,ho⟩:∃ o,o=l.findIdx? p:=⟨_,O⟩;rw [<- ho] at H;refine kH H (av K2 O (SQ fun _ K3=>SR fun _ K4=>Rm O (Rc O (Kz K4 (Cd O ?_ ?_))))) <;> clear H K2 K4
 ·intro h12 a H
  try have oJ:=dT h12
  obtain rfl:o=none:=by cases o with|none=>rfl|some i=>first|(simp [CP] at oJ;done)|(simp [CP] at oJ;omega)
  exact kP H (SR fun _ K5=>Rm O (av K5 O (LR results98 O fun H=>H.hp.dP (by rw [aiR ho.symm];exact hrw))))
 intro h12 a H
 try have oJ:=dF h12
 obtain ⟨i0,rfl⟩:∃ i,o=some i:=by cases o with|none=>simp [CP] at oJ|some i=>exact ⟨i,O⟩
 obtain ⟨hi0,hinit⟩:=aiQ ho.symm
 rcases hrw.2 with ⟨_,h0,_⟩|⟨b,cap,cur,he,rfl,hcap1,hcap2,hsz,htk⟩
 ·omega
 injection he with e1 e2 e3
 subst e1;subst e3;obtain ⟨ZY,rfl⟩:∃ cl:List ak,cur=cl.toArray:=⟨cur.toList,by simp⟩;rw [List.size_toArray] at hsz;dsimp only [CP] at H;refine kP H (Kc K3 (SQ fun _ K6=>SR fun _ K7=>Rm O (Rd O (av K7 O (SB ?_)))));clear H K3 K7;intro a H;skip;refine dY (ι:=Nat × Nat × List ak × GH) (Tc:=[(0,_),(1,_)]) (Lc:=[]) (fun gh=>[(5,vi gh.2.1),(6,vi gh.1)]) (fun gh=>[(b,.cells gh.2.2.1.toArray 63 (0,0))]) (fun gh=>gh.2.2.2) (fun gh=>gh.2.1 < gh.1∧gh.1<=l.length∧gh.2.2.1.length=c*6∧gh.2.1=((l.take gh.1).filter fun x=>!p x).length∧gh.2.2.1.take (gh.2.1*6)=lX ((l.take gh.1).filter fun x=>!p x)∧(∀ m,gh.1*6<=m->m < l.length*6->gh.2.2.1[m]?=(lX l)[m]?)∧(∀ b o,G b=some o->gh.2.2.2 b=some o)) (fun gh=>l.length - gh.1) ((i0+1,i0,ZY,vL)) (by exact H.sub ⟨O,O,O,O,aI⟩) ?_ ?_
 ·exact ⟨Nat.lt_succ_self _,hi0,hsz,by rw [hinit,List.length_take];exact (Nat.min_eq_left (Nat.le_of_lt hi0)).symm,by rw [hinit];exact aiP hR hi0 htk,fun m h1 h2=>by rw [<- htk,tX,aN h2],rT⟩
 clear H;rintro ⟨j,i,cl,g⟩ a w hI H;dsimp only at hI H;obtain ⟨hij,hj,hcl,hil,hkept,hrest,hgm⟩:=hI;dsimp only [lca,bW] at H;refine kP H (SQ fun _ K8=>SR fun _ K9=>Rm O (Rm O (Rl mK O (Rc O (Kz K9 (Cd O ?_ ?_)))))) <;> clear H K9
 ·intro h19 a H
  try have Bo:=dT h19
  have hj2:j < l.length:=by omega
  have hrep:=hR _ (dV hj2);have hl6:=EB hrep
  have hjc:∀ q u,l[j].2[q]?=some u->cl.toArray[0+j*6+q]?=some u:=fun q u hq=>by
   have hq2:q < 6:=by have:=(gN.1 hq).1;omega
   rw [List.getElem?_toArray,eH,hrest _ V V,Pp hR hj2 q hq2];exact hq
  have hdt:=aiT (p:=p) hj2;have hds:=aiS (cl:=cl) (i:=i) hl6 V
  have hrc:lX [l[j]]=l[j].2:=by simp [lX]
  obtain ⟨pA,pn,pc,dA,dn,dc,yA,yn,yc,fA,fn,fc,hcs,-,-⟩:=hrep.row;rw [hcs] at hjc hrep hds hrc;refine kP H (Kc K8 (SQ fun _ aP=>SB (SR fun _ aT=>Rm O (Rm O (Ri mK jo O O ?_)))));clear H K8;intro a H;refine bV jo (cs:=[_,_,_,_,_,_]) H wn O O (fun q u hq=>H.hp.J8 (c:=cl.toArray) nN (hjc q u hq)) O ?_;clear H;intro a H;refine gX jo H wn O ?_;clear H;intro b7 a w Ed H;refine bg jo 0 (vs:=[_,_,_,_,_,_]) H wn O ?_;clear H;intro w H;refine aT _ _ ?_;clear aT;refine kP H (SR fun _ bH=>Rm O ?_);clear H;intro a H;refine bV jo (cs:=[_,_,_,_,_,_]) H wn O O (H.hp.bR 0 O O) O ?_;clear H;intro a H;refine yV H wn O O (hf _ (dV hj2) _ _ _ hgm H.ro (hrep.mono hgm)) O ?_;clear H;rintro v28 Aw a w rfl Cy H;refine kH H (Rn O (Kz bH (Cd O ?_ ?_))) <;> clear H bH
  ·intro uo a H
   try have p29:=dT uo
   rw [aL (by simpa using uo)] at hdt;refine kP H (SR fun _ bG=>Rm O (Rm O ?_));clear H;intro a H;refine bV jo (cs:=[_,_,_,_,_,_]) H wn O O (H.hp.bR 0 O O) O ?_;clear H;intro a H;refine kH H (Ri mK jo O O ?_);clear H;intro a H;refine ql jo 1 (c:=cl) (vs:=[_,_,_,_,_,_]) _ H wn O O O O O O (Nat.ble_eq_true_of_le (by simp only [ko,List.length_nil];omega)) rfl ?_;clear H;intro w H;dsimp only [List.set] at H;refine bG _ _ ?_;clear bG;refine kP H (SC (Rm O (Rd O (bO aP O (SC (Rm O (Rd O (Ra O ?_))))))));clear H aP;intro a H;refine aj ?_;refine bE ((j+1,i+1,setRow cl (0+i*6) [.slice pA pn pc,vi l[j].1.head.marks.ins,vi l[j].1.head.marks.move,.slice dA dn dc,.slice yA yn yc,.slice fA fn fc],Aw)) (by exact (H.dz (Pl:=[_,_]) (bZ:=[_]) [1] Y O).sub ⟨O,O,O,O,aI⟩) ?_
   (try dsimp only);exact ⟨V,V,by rw [hds.1,hcl],by rw [hdt,fQ,<- hil];rfl,by rw [hdt,WH,<- hkept,hrc];exact hds.2.1,fun m h1 h2=>by rw [hds.2.2 m V,hrest m V h2],fun b o h=>Cy b o (hgm b o h)⟩
  intro uo a H
  try have p29:=dF uo
  rw [aN (by simpa using uo),lU] at hdt;refine kP H (Kc aP (SC (Rm O (Rd O (Ra O ?_)))));clear H aP;intro a H;refine aj ?_;refine bE ((j+1,i,cl,Aw)) (by exact (H.dz (Pl:=[_,_]) (bZ:=[_]) [1] Y O).sub ⟨O,O,O,O,aI⟩) ?_
  (try dsimp only);exact ⟨V,V,hcl,by rw [hdt];exact hil,by rw [hdt];exact hkept,fun m h1 h2=>hrest m V h2,fun b o h=>Cy b o (hgm b o h)⟩
 intro h19 a H
 try have Bo:=dF h19
 refine dJ ?_;refine K6 _ _ ?_;clear K6;refine kP H (SR fun _ bX=>Rm O (Rm O ?_));clear H;intro a H;refine WV mK jo i H wn O O O V O ?_;clear H;intro a H;rw [aZ,rJ,add_lit] at H;refine agE mK jo O O 0 H wn O O V V ?_;clear H;intro cz w hz1 hz2 H;dsimp only [List.set] at H;refine bX _ _ ?_;clear bX;refine kP H (SR fun _ dG=>Rm O (Rm O ?_));clear H;intro a H;refine PG mK jo i H wn O O O V O ?_;clear H;intro a H;refine kH H (av dG O ?_);clear H dG;intro a H;refine lr H results98 O ?_
 obtain rfl:j=l.length:=by omega
 rw [qE] at hil hkept;exact H.hp.dP ⟨by rw [<- hil];exact (Ky (hR.sub fun x hx=>(List.mem_filter.1 hx).1)).trans (by rw [<- hil]),.inr ⟨b,c,cz.toArray,by rw [<- hil],O,V,hcap2,by rw [List.size_toArray,hz1,hcl],by rw [<- hkept,<- hil];rw [eH] at hz2;exact hz2⟩⟩
theorem uX:gL prog 63 1 5:=⟨Z⟩
theorem vI:Ty prog 61 1 24 [.slice none 0 0] false:=⟨Z,Z⟩
theorem acR:gL prog 80 0 0:=⟨Z⟩
theorem Ji:gL prog 80 1 1:=⟨Z⟩
theorem D7:gL prog 80 2 6:=⟨Z⟩
theorem ahI:sD prog 80 [(0,1),(1,5),(6,1)] [.int .i64 0,.slice none 0 0,.int .i64 0,.int .i64 0,.slice none 0 0,.slice none 0 0,.slice none 0 0]:=⟨Z,Z⟩
theorem Jh:gL prog 63 0 0:=⟨Z⟩
theorem aaU:bL 115:=bN func115 O
theorem ahG:sD prog 63 [(0,5),(5,1)] [.slice none 0 0,.int .i64 0,.int .i64 0,.slice none 0 0,.slice none 0 0,.slice none 0 0]:=⟨Z,Z⟩
theorem aaK:bL 101:=bN func101 O
theorem aaV:bL 116:=bN func116 O
theorem aaJ:bL 100:=bN func100 O
theorem afM {G:GH} (r:dQ):LZ (.func (.func 101) #[] #[]) G r.dat (decide (r.cells.length=0)):=by
 intro G1 w0 cs hm hG hr;refine sI (caps:=[]) aaK ?_;obtain ⟨pA,pn,pc,dA,dn,dc,yA,yn,yc,fA,fn,fc,rfl,-,hf⟩:=hr.row;have hn:=hf.len;rw [bJ] at hn;subst hn;refine eN [(0,_)] func101 O ntmps101 O O hG ?_;intro a H;refine gU (fun _ K1=>?_);refine jQ (cs:=[_,_,_,_,_,_]) H wn O O O ?_;clear H;intro b1 a w hb1 H;exact kH H (av K1 O (SR fun _ K2=>fG uX vI 0 O O (Rl qx O (Rc O (av K2 O (LR results101 O fun H=>H.rt (jK (decide_eq_decide.2 V))))))))
theorem pieces {G:GH} {R:List dQ} {xs:List ak} (h:cO G 6 (R.map dQ.dat) xs):∃ E:List lT,E.map Prod.fst=R∧lX E=xs∧pO G E:=by
 obtain ⟨css,rfl,h2,h3⟩:=h;rw [bJ] at h2;refine ⟨R.zip css,List.map_fst_zip V,?_,fun x hx=>?_⟩
 ·rw [lX,List.map_snd_zip V]
 obtain ⟨k,hk,rfl⟩:=List.getElem_of_mem hx;rw [List.length_zip] at hk;rw [List.getElem_zip];exact (h3 k R[k].dat css[k] (by rw [nM,iR V];rfl) (iR V)).1
def BM (n:Nat):Prop:=∀ (G:GH) (w0:World),Hold G w0->∀ (l:List aD) (v:ak),aF G (.sl 11 (l.map aD.dat)) v->cK l < n ->
 Calls prog 85 #[v] w0 (bQ w0 G fun u G'=>aF G' (.sl 11 ((pX l).map aD.dat)) u)
theorem adf {n:Nat} (ih:BM n) (hn:n<=4294967296) (G:GH) (w0:World) (hG:Hold G w0) (x:dO) (cs:List ak) (hv:aY G x.dat cs) (hz:iy x.dat < n+1) :
  Calls prog 116 #[.agg cs.toArray] w0 (bQ w0 G fun u G'=>∃ cs',u=.agg cs'.toArray∧aY G' (gC x).dat cs'):=by
 have he:=zk x;obtain ⟨pA,pn,pc,dA,dn,dc,yA,yn,yc,fA,fn,fc,rfl,hh,hf⟩:=hv.cell;refine eN [(0,_)] func116 O ntmps116 O O hG ?_;intro a H;refine gU (fun _ K1=>?_);refine jQ (cs:=[_,_,_,_,_,_,_]) H wn O O O ?_;clear H;intro b1 a w hb1 H;refine gX mY H wn O ?_;clear H;intro b2 a w hb2 H;refine K1 _ _ ?_;clear K1;refine gy (fun _ K2=>?_)
 have qO:LW (fun (jV:Nat) (v:ak) (G:GH)=>match jV with|0=>v=(aJ b1 0)|1=>v=vi x.id|2=>v=(aJ b1 1)|3=>v=.agg #[.slice pA pn pc,vi x.head.marks.ins,vi x.head.marks.move,.slice dA dn dc,.slice yA yn yc]|4=>∃ p d l,v=.agg #[p,vi x.head.marks.ins,vi x.head.marks.move,d,l]∧og G x.head p d l|5=>v=(aJ b1 6)|6=>v=.slice fA fn fc|7=>aF G (.sl 11 ((pX x.flow).map aD.dat)) v|_=>True):=by intro jV v G G' hm h;(iterate 10 (rcases jV with _|jV;(first|exact h|exact let ⟨p,d,l,h1,h2⟩:=h;⟨p,d,l,h1,h2.mono hm⟩|exact aF.mono hm h)));exact trivial
 refine IU (hmx) [[],[0],[],[2],[2,3],[],[5],ra 2 5,ra 0 8,ra 0 9] [8,9] Z Z _ qO H ?_ ?_
 ·clear H;refine aH ?_ ?_ ?_ ?_ (aH ?_ ?_ ?_ ?_ (eB (fT O) (eB (fT O) fD)))
  ·refine kS [] O trivial Z qO O O ?_;intro ay a w G1 hG HT H fin;exact kH H (Rf acR O fun _ H=>fin H iJ O)
  ·refine kS [(0,3,_)] O ⟨fun _ _ h=>h,aI⟩ Z qO O O ?_;intro ay a w G1 hG HT H fin;exact kH H (Ro aC 1 O fun _ H=>fin H iJ O)
  ·refine kS [] O trivial Z qO O O ?_;intro ay a w G1 hG HT H fin;exact kH H (Rf Ji O fun _ H=>fin H iJ O)
  ·refine kS [(2,5,_)] O ⟨fun _ _ h=>h,aI⟩ Z qO O O ?_;intro ay a w G1 hG HT H fin;refine bV wJ (cs:=[_,_,_,_,_]) H wn O O (H.hp.bR 1 O O) O ?_;clear H;intro a H;exact fin H iJ O
  ·refine kS [(3,6,_)] O ⟨fun _ _ h=>h,aI⟩ Z qO O O ?_;intro ay a w G1 hG HT H fin;refine s_call Ng H wn O (MJ _ _ H.ro x.head _ _ _ _ _ _ _ _ _ (hh.mono hG) V) O ?_;clear H;rintro v7 G7 a w JR adx H;exact fin H adx (JR)
  ·refine kS [] O trivial Z qO O O ?_;intro ay a w G1 hG HT H fin;exact kH H (Rf D7 O fun _ H=>fin H iJ O)
  ·refine kS [(5,8,_)] O ⟨fun _ _ h=>h,aI⟩ Z qO O O ?_;intro ay a w G1 hG HT H fin;exact kH H (Ro lG 1 O fun _ H=>fin H iJ O)
  refine kS [(6,9,_)] O ⟨fun _ _ h=>h,aI⟩ Z qO O O ?_;intro ay a w G1 hG HT H fin;refine s_call Nc H wn O (ih _ _ H.ro x.flow _ (hf.mono hG) V) O ?_;clear H;rintro v10 vL a w xK yM H;exact fin H yM (xK)
 clear H;intro a w G Gd H hv;have H:=H.au (hv 1 4 O O) O;obtain ⟨u7,hu7,JR⟩:=hv 4 7 Y O;(try dsimp only at JR);obtain ⟨p7,d7,l7,rfl,JI⟩:=JR;obtain ⟨a1,a2,a3,rfl⟩:=JI.props.form;obtain ⟨a4,a5,a6,rfl⟩:=JI.ni.form;obtain ⟨a7,a8,a9,rfl⟩:=JI.layers.form;have H:=H.eP hu7;obtain ⟨u10,Oz,xK⟩:=hv 7 10 Y O;(try dsimp only at xK);obtain ⟨Yn,n10,c10,rfl⟩:=xK.form;have H:=H.eP Oz;clear hv;refine ku ahI [_,_,_,_,_,_,_] H wn O O O O ?_;clear H;intro a H;refine bg mY 0 (vs:=[_,_,_,_,_,_,_]) H wn O ?_;clear H;intro w H;refine aj ⟨O,?_⟩;refine K2 _ _ ?_;clear K2;refine aU ?_;refine (leave1 H results116 (.cons (Kw mY (cs:=[_,_,_,_,_,_,_]) H O O (H.hp.bR 0 O O)) .nil) ?_).1;exact H.rt ⟨_,O,by rw [ada];exact aY.VF (x:=.mk x.id x.head (pX x.flow)) JI xK⟩
theorem adg {n:Nat} (ih:BM n) (hn:n<=4294967296) {G:GH} {w0:World} (x:dO) (hz:iy x.dat < n+1):Fa (.func (.func 116) #[] #[]) w0 G x.dat (gC x).dat:=by
 intro G1 w1 cs hm1 hG1 hr;have h:=adf ih hn _ _ hG1 x cs hr hz;have h2:=sI (P:=prog) (caps:=[]) (args:=[.agg cs.toArray]) aaV h;exact h2
theorem adh {n:Nat} (ih:BM n) (hn:n<=4294967296) (G:GH) (w0:World) (hG:Hold G w0) (x:dQ) (cs:List ak) (hv:aY G x.dat cs) (hz:iy x.dat < n+1) :
  Calls prog 100 #[.agg cs.toArray] w0 (bQ w0 G fun u G'=>∃ cs',u=.agg cs'.toArray∧aY G' (gR x).dat cs'):=by
 have he:=wP x;have hl:=La x.cells;obtain ⟨pA,pn,pc,dA,dn,dc,yA,yn,yc,fA,fn,fc,rfl,hh,hf⟩:=hv.row;refine eN [(0,_)] func100 O ntmps100 O O hG ?_;intro a H;refine gU (fun _ K1=>?_);refine jQ (cs:=[_,_,_,_,_,_]) H wn O O O ?_;clear H;intro b1 a w hb1 H;refine gX jo H wn O ?_;clear H;intro b2 a w hb2 H;refine K1 _ _ ?_;clear K1;refine gy (fun _ K2=>?_)
 have qO:LW (fun (jV:Nat) (v:ak) (G:GH)=>match jV with|0=>v=(aJ b1 0)|1=>v=.agg #[.slice pA pn pc,vi x.head.marks.ins,vi x.head.marks.move,.slice dA dn dc,.slice yA yn yc]|2=>∃ p d l,v=.agg #[p,vi x.head.marks.ins,vi x.head.marks.move,d,l]∧og G x.head p d l|3=>v=(aJ b1 5)|4=>v=.slice fA fn fc|5=>aF G (.sl 7 (x.cells.map fun y=>(gC y).dat)) v|_=>True):=by intro jV v G G' hm h;(iterate 8 (rcases jV with _|jV;(first|exact h|exact let ⟨p,d,l,h1,h2⟩:=h;⟨p,d,l,h1,h2.mono hm⟩|exact aF.mono hm h)));exact trivial
 refine IU (hmx) [[],[0],[0,1],[],[3],ra 0 5,ra 0 6,ra 0 7] [6,7] Z Z _ qO H ?_ ?_
 ·clear H;refine aH ?_ ?_ ?_ ?_ (aH ?_ ?_ (fT O) (fT O) fD)
  ·refine kS [] O trivial Z qO O O ?_;intro ay a w G1 hG HT H fin;exact kH H (Rf Jh O fun _ H=>fin H iJ O)
  ·refine kS [(0,3,_)] O ⟨fun _ _ h=>h,aI⟩ Z qO O O ?_;intro ay a w G1 hG HT H fin;refine bV wJ (cs:=[_,_,_,_,_]) H wn O O (H.hp.bR 1 O O) O ?_;clear H;intro a H;exact fin H iJ O
  ·refine kS [(1,4,_)] O ⟨fun _ _ h=>h,aI⟩ Z qO O O ?_;intro ay a w G1 hG HT H fin;refine s_call Ng H wn O (MJ _ _ H.ro x.head _ _ _ _ _ _ _ _ _ (hh.mono hG) V) O ?_;clear H;rintro v5 G5 a w CB Gf H;exact fin H Gf (CB)
  ·refine kS [] O trivial Z qO O O ?_;intro ay a w G1 hG HT H fin;exact kH H (Rf uX O fun _ H=>fin H iJ O)
  ·refine kS [(3,6,_)] O ⟨fun _ _ h=>h,aI⟩ Z qO O O ?_;intro ay a w G1 hG HT H fin;exact kH H (Ro vI 1 O fun _ H=>fin H iJ O)
  refine kS [(4,7,_)] O ⟨fun _ _ h=>h,aI⟩ Z qO O O ?_;intro ay a w G1 hG HT H fin;refine s_call aaU H wn O (aaI gC _ _ H.ro x.cells _ _ (hf.mono hG) V (fun y hy=>adg ih hn y (by have:=E8 hy;omega))) rfl ?_;clear H;rintro v8 G8 a w GJ adz H;exact fin H adz (GJ)
 clear H;intro a w G Gd H hv;obtain ⟨u5,hu5,CB⟩:=hv 2 5 Y O;(try dsimp only at CB);obtain ⟨p5,d5,l5,rfl,JH⟩:=CB;obtain ⟨a1,a2,a3,rfl⟩:=JH.props.form;obtain ⟨a4,a5,a6,rfl⟩:=JH.ni.form;obtain ⟨a7,a8,a9,rfl⟩:=JH.layers.form;have H:=H.eP hu5;obtain ⟨u8,hu8,GJ⟩:=hv 5 8 Y O;(try dsimp only at GJ);obtain ⟨A8,n8,c8,rfl⟩:=GJ.form;have H:=H.eP hu8;clear hv;refine ku ahG [_,_,_,_,_,_] H wn O O O O ?_;clear H;intro a H;refine bg jo 0 (vs:=[_,_,_,_,_,_]) H wn O ?_;clear H;intro w H;refine aj ⟨O,?_⟩;refine K2 _ _ ?_;clear K2;refine aU ?_;refine (leave1 H results100 (.cons (Kw jo (cs:=[_,_,_,_,_,_]) H O O (H.hp.bR 0 O O)) .nil) ?_).1;exact H.rt ⟨_,O,by rw [adb];exact aY.VG (x:=.mk x.head (x.cells.map gC)) JH (by show aF _ (.sl 7 ((x.cells.map gC).map dO.dat)) _;rw [List.map_map];exact GJ)⟩
theorem adi {n:Nat} (ih:BM n) (hn:n<=4294967296) {G:GH} {w0:World} (x:dQ) (hz:iy x.dat < n+1):Fa (.func (.func 100) #[] #[]) w0 G x.dat (gR x).dat:=by
 intro G1 w1 cs hm1 hG1 hr;have h:=adh ih hn _ _ hG1 x cs hr hz;have h2:=sI (P:=prog) (caps:=[]) (args:=[.agg cs.toArray]) aaJ h;exact h2
theorem aeY {G:GH} {o:List aD} {z y:aD} {x0:List ak} {s p d q f r:ak} (hc:cO G 11 (o.map aD.dat) x0) (hl:x0.length=o.length*11) (hh:og G z.head p d q) (hf:aF G (.sl 11 (z.flow.map aD.dat)) f) (hr:aF G (.sl 6 (z.rows.map dQ.dat)) r) (hs:s=.string (z.text++y.text)) :
  cO G 11 ((o++[xQ z y]).map aD.dat) ((x0++[vi z.kind,vi z.code,vi z.id,.string z.text,p,vi z.head.marks.ins,vi z.head.marks.move,d,q,f,r]).set (((o++[z]).length - 1)*11+3) s):=by
 rw [jw,fQ,List.length_singleton,Nat.add_sub_cancel,List.set_append_right _ _ V,hl,Mg];refine hc.snoc ?_ O;rw [hs];exact aY.mkItem (x:=xQ z y) hh hf hr
theorem IQ {s:ByteArray} {k:Int} {n:Nat} (hk:k=1):(s.toList == (⟨#[]⟩:ByteArray).toList)=true↔(k=7∧n=0)∨(k=1∧s.size=0):=by
 rw [beq_iff_eq,ByteArray.toList_eq,ByteArray.toList_eq]
 constructor
 ·intro h;refine .inr ⟨hk,?_⟩;have:=gZ List.length h
  simpa using this
 rintro (⟨h,-⟩|⟨-,h⟩)
 ·omega
 have:s.data.toList.length=0:=by simpa using h
 rw [List.length_eq_zero_iff.1 this]
set_option maxHeartbeats 4000000 in
theorem adj {n:Nat} (ih:BM n) (hn:n<=1073741824):BM (n+1):=by
  intro G w0 hG l v hv hz;obtain ⟨A,c,rfl,hc1,hc2,hg⟩:=hv.slice
  have hml:4294967297<=maxLen:=by decide
  have htl:kC l<=cK l:=ES l;have hll:l.length<=kC l:=J7 l;rw [bJ] at *;refine eN [(0,_)] func85 O ntmps85 O O hG ?_;intro a H;refine kP H (SR fun _ K1=>av K1 O (SR fun _ K2=>av K2 O (SQ fun _ K3=>SR fun _ K4=>Rm O (Rl iB O (Rm O (Kz K4 (SB ?_)))))));clear H K1 K2 K4;intro a H;skip;refine dY (ι:=Nat × ak × List ak × OL × GH) (Tc:=[(7,_),(8,_)]) (Lc:=[]) (fun gh=>[(3,gh.2.1),(9,vi gh.1)]) (fun gh=>[]++gh.2.2.2.1) (fun gh=>gh.2.2.2.2) (fun gh=>gh.1<=l.length∧aW 58 11 gh.2.1 (qh l gh.1).length gh.2.2.1 gh.2.2.2.1∧cO gh.2.2.2.2 11 ((qh l gh.1).map aD.dat) gh.2.2.1∧(∀ b o,G b=some o->gh.2.2.2.2 b=some o)) (fun gh=>l.length - gh.1) ((0,.slice none 0 0,[],[],G)) (by exact H.sub ⟨O,O,O,O,aI⟩) ?_ ?_
  · exact ⟨V,aW.nil,cO.nil,fun _ _ h=>h⟩
  clear H;rintro ⟨k,v,xs,Lo,g⟩ a w hI H;dsimp only at hI H;obtain ⟨hk,hrw,iq,hgm⟩:=hI;have hol:=afP hk;obtain ⟨out,hout⟩:∃ o,o=qh l k:=⟨_,O⟩;rw [<- hout] at hrw iq hol;dsimp only [lca,bW] at H;refine kP H (SR fun _ K5=>Rc O (Kz K5 (SQ fun _ K6=>Cd O ?_ ?_))) <;> clear H K5
  · intro h10 a H
    try have mG:=dT h10
    have hk2:k < l.length:=by omega
    have hos:=VT hk2;have hot:=O1 (l:=l) (k:=k) V;have U0:=Qn l (k+1);rw [jq hk2,Da] at U0
    simp only [kC] at U0
    rw [<- hout] at hos hot;obtain ⟨vA,vc,rfl,-,-⟩:=hrw.shape;obtain ⟨b,o,pA,pn,pc,dA,dn,dc,yA,yn,yc,fA,fn,fc,rA,rn,rc,rfl,hrow,hhd,hfl,hrs⟩:=zL hk2 hg;replace hrow:=fun j u hj=>aK hgm (hrow j u hj);have hzi:=ajd hk2;have hze:=oO l[k];have hrl:=E9 l[k].rows;refine kP H (Kc K6 (SQ fun _ K7=>SB (SR fun _ K8=>Ri iB fB O O ?_)));clear H K6;intro a H;refine bV fB (cs:=[_,_,_,_,_,_,_,_,_,_,_]) H wn O O (fun j v hj=>H.hp.aS (hrow j v hj)) O ?_;clear H;intro a H;refine gX fB H wn O ?_;clear H;intro b5 a w hb5 H;refine bg fB 0 (vs:=[_,_,_,_,_,_,_,_,_,_,_]) H wn O ?_;clear H;intro w H;refine K8 _ _ ?_;clear K8;refine kP H (SR fun _ K9=>Rf zK O ?_);clear H;intro a H;refine bV wJ (cs:=[_,_,_,_,_]) H wn O O (H.hp.bR 0 O O) O ?_;clear H;intro a H;refine s_call Ng H wn O (MJ _ _ H.ro _ _ _ _ _ _ _ _ _ _ (hhd.mono hgm) V) O ?_;clear H;rintro v15 Ar a w ⟨oK,d15,l15,rfl,Eh⟩ sP H;obtain ⟨a1,a2,a3,rfl⟩:=Eh.props.form;obtain ⟨a4,a5,a6,rfl⟩:=Eh.ni.form;obtain ⟨a7,a8,a9,rfl⟩:=Eh.layers.form;refine kH H (Rf zK O ?_);clear H;intro a H;refine bg wJ 0 (vs:=[_,_,_,_,_]) H wn O ?_;clear H;intro w H;refine K9 _ _ ?_;clear K9;refine kP H (SR fun _ aP=>fG D6 lG 0 O O ?_);clear H;intro a H;refine s_call Nc H wn O (ih _ _ H.ro l[k].flow _ (hfl.mono fun b o h=>sP b o (hgm b o h)) V) O ?_;clear H;rintro v19 oP a w UK iT H;obtain ⟨Lg,n19,c19,rfl⟩:=UK.form;refine kH H (Rf D6 O ?_);clear H;intro a H;refine bg lG 0 (vs:=[_]) H wn O ?_;clear H;intro w H;refine aP _ _ ?_;clear aP;refine kP H (SR fun _ aT=>fG uW vH 0 O O ?_);clear H;intro a H;have H:St _ _ _ _ _ _ (((b5,_) :: Lo)++[]) _ _ _:=H.cast (lU _).symm;refine jT acj (Li:=(b5,_) :: Lo) (L:=[]) H wn O (aaH gR _ _ (VX H.ro) l[k].rows _ _ (hrs.mono fun b o h=>iT b o (sP b o (hgm b o h))) V (fun x hx=>adi ih V x (by have:=Dn hx;omega))) rfl ?_;clear H;rintro v23 Yw YQ a w ⟨x23,UM,adS⟩ Cw H;obtain ⟨A23,c23,rfl,-,-⟩:=UM.shape;obtain ⟨E,hE1,hE2,Uj⟩:=pieces (R:=l[k].rows.map gR) (by rw [List.map_map];exact adS)
    have hEl:E.length=l[k].rows.length:=by have:=gZ List.length hE1;simpa using this
    refine jT aci (Li:=(b5,_) :: Lo) (L:=YQ) H wn O (aax E (fun x=>decide (x.1.cells.length=0)) (Hp.owns (Li:=(b5,_) :: Lo) H.hp) Uj (by rw [hEl,hE2];exact UM) (fun x hx=>afM x.1)) O ?_;clear H;rintro v24 ajj Ip a w aew Ux H;obtain ⟨Av,aee,JQ,H⟩:=St.kF (Li:=(b5,_) :: Lo) (Lo:=Ip) H aew (rows:=((E.filter fun x:lT=>!decide (x.1.cells.length=0)).map Prod.fst).map dQ.dat) (by simp) ((Uj.sub fun x hx=>(List.mem_filter.1 hx).1).mono Ux).cat;have Cx:=fun b o h=>aee b o (Ux b o h);rw [show (E.filter fun x:lT=>!decide (x.1.cells.length=0)).map Prod.fst=(l[k].rows.map gR).filter Gl by rw [<- hE1,List.filter_map];rfl] at JQ;obtain ⟨Lh,n24,c24,rfl⟩:=JQ.form;have aek:=JQ.len;refine kH H (Rf uW O ?_);clear H;intro a H;refine bg vH 0 (vs:=[_]) H wn O ?_;clear H;intro w H;refine aT _ _ ?_;clear aT;refine gy (fun _ bH=>?_);obtain ⟨y,hy⟩:∃ y,y=gI l[k]:=⟨_,O⟩;have hye:=hy.trans (Nn l[k])
    have hyk:y.kind=l[k].kind:=by rw [hye];rfl
    have G6:y.text=l[k].text:=by rw [hye];rfl
    have Ep:y.head=l[k].head:=by rw [hye];rfl
    have J2:y.rows.length=n24:=by rw [hye,aek,bJ];rfl
    rw [<- hy] at hos;obtain ⟨ML,JE⟩:∃ x,x=[vi l[k].kind,vi l[k].code,vi l[k].id,.string l[k].text,.slice a1 a2 a3,vi l[k].head.marks.ins,vi l[k].head.marks.move,.slice a4 a5 a6,.slice a7 a8 a9,.slice Lg n19 c19,.slice Lh n24 c24]:=⟨_,O⟩
    have UN:aY Av y.dat ML:=by
      rw [JE,hye];exact aY.mkItem (x:=.mk l[k].kind l[k].code l[k].id l[k].text l[k].head (pX l[k].flow) ((l[k].rows.map gR).filter Gl)) (Eh.mono fun b o h=>Cx b o (Cw b o (iT b o h))) (UK.mono fun b o h=>Cx b o (Cw b o h)) JQ
    have JD:=iq.mono fun b o h=>Cx b o (Cw b o (iT b o (sP b o h)));have Us:∀ b o,G b=some o->Av b=some o:=fun b o h=>Cx b o (Cw b o (iT b o (sP b o (hgm b o h))));refine kP H (SC (Rm O (Rl iB O (bO bH O (SB ?_)))));clear H bH;intro a H;refine Sb (ι:=Bool) (Tc:=[(3,_),(5,_),(6,_),(7,_),(8,_),(9,_)]) (Lc:=[]) (fun gh=>[(32,.bool gh)]) (fun gh=>[(b5,.cells [vi l[k].kind,vi l[k].code,vi l[k].id,.string l[k].text,.slice a1 a2 a3,vi l[k].head.marks.ins,vi l[k].head.marks.move,.slice a4 a5 a6,.slice a7 a8 a9,.slice Lg n19 c19,.slice Lh n24 c24].toArray 58 (0,0))]++Lo) (fun gh=>Av) (fun gh=>gh=true↔vX y) (by exact H.sub ⟨O,O,O,O,O,O,aI⟩) ?_ ?_
    · skip;refine kP H (SC (fG pq aC 0 O O (Rc O (Rm O (Sp 36 O ?_ ?_))))) <;> clear H
      · intro jS a H
        try have p36:=dT jS
        refine kH H (YF uW jS O (YO vH 0 jS O (YL mK jS O (YC jS O (Pt jS O (Rm O (Sp 42 O ?_ ?_))))))) <;> clear H
        · intro iQ a H
          try have p42:=dT iQ
          refine kH H (aO iQ O (aO iQ O (Ku O (Ku O (Ku O (Ks iQ O (Pt iQ O (Ra O ?_))))))));clear H;intro a H;refine aj ?_;refine ⟨_,by exact H.sub ⟨O,O,O,O,O,O,O,aI⟩,?_⟩;rw [vX,hyk,J2,G6]
          first
            | exact ⟨fun _=>.inl ⟨p36,V⟩,fun _=>by first|rfl|exact wZ p42⟩
            | exact ⟨fun h=>(by cases h),fun h=>(by exfalso;omega)⟩
            | exact IQ p46
            | fail
        intro iQ a H
        try have p42:=dF iQ
        refine kH H (YF pq iQ O (YO aC 0 iQ O (YC iQ O (YM iQ O (Sp 46 O ?_ ?_))))) <;> clear H
        · intro h46 a H
          try have p46:=dT h46
          exfalso;omega
        intro h46 a H
        try have p46:=dF h46
        refine kH H (aV h46 O (PF iQ h46 O (Pf iQ O (Ra O ?_))));clear H;intro a H;refine aj ?_;refine ⟨_,by exact H.sub ⟨O,O,O,O,O,O,O,aI⟩,?_⟩;rw [vX,hyk,J2,G6]
        first
          | exact ⟨fun _=>.inl ⟨p36,V⟩,fun _=>by first|rfl|exact wZ p42⟩
          | exact ⟨fun h=>(by cases h),fun h=>(by exfalso;omega)⟩
          | exact IQ p46
          | fail
      intro jS a H
      try have p36:=dF jS
      refine kH H (aO jS O (aO jS O (Pf jS O (Rm O ?_))));clear H;intro a H;refine Hy pq H (wg H O O O) O O ?_;clear H;intro a H;refine iU aC H (wg H O O O) O (H.hp.gK 0 O O) O ?_;clear H;intro a H;refine yX H (wg H O O O) O O O O ?_;clear H;intro a H;refine uG H (wg H O O O) O O ?_;clear H;intro a H;refine WW H 46 O ?_ ?_
      · intro h46
        try have p46:=dT h46
        refine kH H (YF A9 h46 O (YO iW 0 h46 O ?_));clear H;intro a H;refine agG H (wg H O O h46) O O O ?_;clear H;intro a H;refine PD H (wg H O O O) O h46 O O ?_;clear H;intro a H;refine kH H (Pf O O (Ra O ?_));clear H;intro a H;refine aj ?_;refine ⟨_,by exact H.sub ⟨O,O,O,O,O,O,O,aI⟩,?_⟩;rw [vX,hyk,J2,G6]
        first
          | exact ⟨fun _=>.inl ⟨p36,V⟩,fun _=>by first|rfl|exact wZ p42⟩
          | exact ⟨fun h=>(by cases h),fun h=>(by exfalso;omega)⟩
          | exact IQ p46
          | fail
      intro h46
      try have p46:=dF h46
      refine kH H (aV h46 O ?_);clear H;intro a H;refine Pz H (wg H O O O) O h46 O O ?_;clear H;intro a H;refine kH H (Pf O O (Ra O ?_));clear H;intro a H;refine aj ?_;refine ⟨_,by exact H.sub ⟨O,O,O,O,O,O,O,aI⟩,?_⟩;rw [vX,hyk,J2,G6]
      first
        | exact ⟨fun _=>.inl ⟨p36,V⟩,fun _=>by first|rfl|exact wZ p42⟩
        | exact ⟨fun h=>(by cases h),fun h=>(by exfalso;omega)⟩
        | exact IQ p46
        | fail
    clear H;intro db a w hI H;skip;dsimp only [lca,bW] at H;refine ou H O ?_ ?_
    · intro h32
      try have p32:=dT h32
      have hdp:=hI.1 (by assumption);rw [Rp hdp] at hos;refine kP H (Kc K7 (SC (Rd O (Rm O ?_))));clear H K7;intro a H;refine aj ?_;refine bE ((k+1,_,xs,Lo,_)) (by exact (H.dz (Pl:=[_]) (bZ:=[]) [] Y O).sub ⟨O,O,O,O,aI⟩) ?_
      (try dsimp only);exact ⟨V,by rw [hos];exact hrw,by rw [hos];exact JD,Us⟩
    intro h32
    try have p32:=dF h32
    have hnd:¬ vX y:=fun h=>by have:=hI.2 h;simp_all
    obtain ⟨bo,pk,pt,pp,pd,pl,uD⟩:∃ (bo:Nat) (pk:jZ × Int) (pt:ByteArray) (pp pd pl:ak),0 < (out.length:Int)->∃ (o:List aD) (z:aD) (x0:List ak) (f r:ak),out=o++[z]∧vA=some ⟨bo,0,none⟩∧pk=(z.head,z.kind)∧pt=z.text ∧
        xs=x0++[vi z.kind,vi z.code,vi z.id,.string z.text,pp,vi z.head.marks.ins,vi z.head.marks.move,pd,pl,f,r]∧x0.length=o.length*11∧cO Av 11 (o.map aD.dat) x0∧og Av z.head pp pd pl∧aF Av (.sl 11 (z.flow.map aD.dat)) f∧aF Av (.sl 6 (z.rows.map dQ.dat)) r ∧
        ∀ j u,[vi pk.2,vi z.code,vi z.id,.string pt,pp,vi pk.1.marks.ins,vi pk.1.marks.move,pd,pl][j]?=some u->xs[(out.length - 1)*11+j]?=some u:=by
      by_cases h0:0 < out.length
      · obtain ⟨bo,hbo⟩:=hrw.ptr h0;obtain ⟨o,z,e⟩:∃ o z,out=o++[z]:=⟨_,_,(List.dropLast_concat_getLast (fun e=>by rw [e] at h0;simp at h0)).symm⟩;rw [e,jw] at JD;obtain ⟨x0,cs,hxs,hc0,hrz,hcl,hxl⟩:=JD.ahx;obtain ⟨qA,qn,qc,sA,sn,sc,tA,tn,tc,fA2,fn2,fc2,rA2,rn2,rc2,rfl,hh,hf2,hr2⟩:=hrz.item;rw [bJ] at hxl;refine ⟨bo,(z.head,z.kind),z.text,.slice qA qn qc,.slice sA sn sc,.slice tA tn tc,fun _=>⟨o,z,x0,_,_,e,hbo,O,O,hxs,hxl,hc0,hh,hf2,hr2,fun j u hj=>?_⟩⟩;rw [hxs,e,fQ,List.length_singleton,Nat.add_sub_cancel,sG V,hxl,Mg];rw [<- hj]
        match j,hj with
        | 0,hj=>rfl
        | 1,hj=>rfl
        | 2,hj=>rfl
        | 3,hj=>rfl
        | 4,hj=>rfl
        | 5,hj=>rfl
        | 6,hj=>rfl
        | 7,hj=>rfl
        | 8,hj=>rfl
        | _+9,hj=>simp at hj
      exact ⟨0,(⟨[],⟨0,0,[],[]⟩⟩,0),⟨#[]⟩,.slice none 0 0,.slice none 0 0,.slice none 0 0,fun h=>by omega⟩
    have GX:0 < (out.length:Int)->vA=some ⟨bo,0,none⟩:=fun h=>by obtain ⟨_,_,_,_,_,_,e,_⟩:=uD h;exact e
    refine Sb (ι:=Bool × GH) (Tc:=[(3,_),(5,_),(6,_),(7,_),(8,_),(9,_)]) (Lc:=[]) (fun gh=>[(52,.bool gh.1)]) (fun gh=>[(b5,.cells [vi l[k].kind,vi l[k].code,vi l[k].id,.string l[k].text,.slice a1 a2 a3,vi l[k].head.marks.ins,vi l[k].head.marks.move,.slice a4 a5 a6,.slice a7 a8 a9,.slice Lg n19 c19,.slice Lh n24 c24].toArray 58 (0,0))]++Lo) (fun gh=>gh.2) (fun gh=>(gh.1=true->(l[k].kind=1∧0 < (out.length:Int)∧pk.2=1∧pk.1=l[k].head))∧(gh.1=false->qh l (k+1)=out++[y])∧(∀ b o,Av b=some o->gh.2 b=some o)) (by exact H.sub ⟨O,O,O,O,O,O,aI⟩) ?_ ?_
    · skip
      by_cases c1:l[k].kind=1
      · skip
        by_cases c2:0 < (out.length:Int)
        · skip
          by_cases c3:pk.2=1
          · skip
            by_cases c4:pk.1=l[k].head
            · skip;refine dI hmx [[],[0],[0,1],[0,1,2],ra 0 4,ra 0 5,ra 0 6,ra 0 7,ra 0 8,ra 0 8,(ra 0 8++[9]),ra 0 11,ra 0 12,ra 0 13,ra 0 14,ra 0 15,ra 0 16,ra 0 17,ra 0 17,(ra 0 17++[18]),ra 0 20,ra 0 21,ra 0 22,ra 0 17,(ra 0 17++[23]),ra 0 25,ra 0 26,ra 0 27] [] Z [_,vi l[k].kind,_,_,_,_,_,_,.slice (some ⟨bo,0,none⟩) out.length vc,_,vi ((out.length - 1:Nat):Int),_,_,vi pk.2,_,_,_,.slice (some ⟨bo,0,none⟩) out.length vc,_,vi ((out.length - 1:Nat):Int),_,_,Ee pk.1 pp pd pl,_,Ee l[k].head (.slice a1 a2 a3) (.slice a4 a5 a6) (.slice a7 a8 a9),.bool (decide (pk.1=l[k].head)),_,_] H (aH (Z0 O (Rf pq O)) (Z1 0 53 O (Ro aC 0 O)) (Z1 1 54 O (Rc O)) (Z1 2 55 O (Rm O)) (aH (Z1 3 56 O (YM (aX c1) O)) (Z2 4 57 3 56 O (YC (aX c1) O)) (Z2 3 56 5 58 O (Pt (aX c1) O)) (Z1 6 59 O (Rm O)) (aH ?_ (Z1 7 60 O (YM (aX c2) O)) ?_ (Z3 8 61 10 63 7 60 O (YI iB fB (aX c2) O O)) (aH (Z2 11 64 7 60 O (YF pq (aX c2) O)) ?_ (Z2 13 66 7 60 O (YC (aX c2) O)) (Z2 7 60 14 67 O (Pt (aX c2) O)) (aH (Z1 15 68 O (Rm O)) ?_ (Z1 16 69 O (YM (aX c3) O)) ?_ (aH (Z3 17 70 19 72 16 69 O (YI iB fB (aX c3) O O)) (Z2 20 73 16 69 O (YF zK (aX c3) O)) ?_ (Z1 16 69 O (YF zK (aX c3) O)) (aH ?_ ?_ (Z2 16 69 25 78 O (Pt (aX c3) O)) (Z1 26 79 O (Ra O)) fD))))))) ?_
              · refine pK 7 60 O O fun _ a w G1 hG HT H fin=>?_;refine kH H (YM (aX c2) O ?_);clear H;intro a H;exact fin H iJ (by show _=_;first|rfl|exact gZ (fun A=>Value.slice A out.length vc) (GX c2))
              · refine oQ 9 62 7 60 O O fun _ a w G1 hG HT H fin=>?_;refine wE _ H (wg H O O (aX c2)) O O O V V O ?_;clear H;intro a H;exact fin H iJ (by show _=_;first|rfl|exact gZ vi V)
              · refine oQ 12 65 7 60 O O fun _ a w G1 hG HT H fin=>?_;obtain ⟨_,_,_,_,_,_,rfl,_,_,_,_,_,_,_,_,hx⟩:=uD c2;refine iU aC H (wg H O O (aX c2)) O (hrw.at H.hp (fun x hx=>tZ _ hx) (by rw [eH];exact hx 0 _ O)) O ?_;clear H;intro a H;exact fin H iJ O
              · refine pK 16 69 O O fun _ a w G1 hG HT H fin=>?_;refine kH H (YM (aX c3) O ?_);clear H;intro a H;exact fin H iJ (by show _=_;first|rfl|exact gZ (fun A=>Value.slice A out.length vc) (GX c2))
              · refine oQ 18 71 16 69 O O fun _ a w G1 hG HT H fin=>?_;refine wE _ H (wg H O O (aX c3)) O O O V V O ?_;clear H;intro a H;exact fin H iJ (by show _=_;first|rfl|exact gZ vi V)
              · refine oQ 21 74 16 69 O O fun _ a w G1 hG HT H fin=>?_;obtain ⟨_,_,_,_,_,_,rfl,_,_,_,_,_,_,_,_,hx⟩:=uD c2
                refine bV wJ (cs:=[pp,vi pk.1.marks.ins,vi pk.1.marks.move,pd,pl]) H (wg H O O (aX c3)) O O (fun j u hj=>hrw.at H.hp (fun x hx=>tZ _ hx) (by
                    rw [eH,Nat.add_assoc];refine hx (4+j) u ?_
                    match j,hj with
                    | 0,hj=>exact hj
                    | 1,hj=>exact hj
                    | 2,hj=>exact hj
                    | 3,hj=>exact hj
                    | 4,hj=>exact hj)) O ?_;clear H;intro a H
                exact fin H iJ O
              · refine oQ 23 76 16 69 O O fun _ a w G1 hG HT H fin=>?_;refine bV wJ (cs:=[_,_,_,_,_]) H (wg H O O (aX c3)) O O (H.hp.bR 0 O O) O ?_;clear H;intro a H;exact fin H iJ O
              · refine LX 22 75 24 77 16 69 O O fun _ a w G1 hG HT H fin=>?_;refine s_call SX H (wg H O O (aX c3)) O (TG _ _ H.ro pk.1 l[k].head _ _ _ _ _ _ (by obtain ⟨_,_,_,_,_,_,_,e,_,_,_,_,hh,_⟩:=uD c2;rw [e];exact hh.mono hG) (Eh.mono fun b o h=>hG b o (Cx b o (Cw b o (iT b o h))))) O ?_;clear H;rintro v78 QN a w rfl NG H;exact fin H NG (rfl)
              clear H;intro a w G xG H hv;have H:=H.au (hv 27 52 O O) O;clear hv;refine aj ⟨O,?_⟩;refine ⟨(_,_),by exact H.sub ⟨O,O,O,O,O,O,O,aI⟩,?_⟩;(try dsimp only);refine ⟨fun h=>by first|exact absurd h Y|exact ⟨c1,c2,c3,rG h⟩,fun h=>?_,xG⟩
              first
                | exact absurd ((aX c4).symm.trans h) Y
                | (rw [hos]
                   refine Dy hnd fun o2 z2 e2 hj=>?_;rw [yP,hyk,Ep] at hj;obtain ⟨j1,j2,j3⟩:=hj
                   first
                     | exact c1 j1
                     | (have c2':0 < (out.length:Int):=by rw [e2,fQ,List.length_singleton];omega
                        obtain ⟨o,z,_,_,_,e,_,uj,_⟩:=uD c2';obtain ⟨-,ez⟩:=List.append_inj' (e2.symm.trans e) O
                        injection ez with ez
                        subst ez
                        first
                          | exact c2 c2'
                          | exact c3 (by rw [uj];exact j2)
                          | exact c4 (by rw [uj];exact j3)))
            skip;refine dI hmx [[],[0],[0,1],[0,1,2],ra 0 4,ra 0 5,ra 0 6,ra 0 7,ra 0 8,ra 0 8,(ra 0 8++[9]),ra 0 11,ra 0 12,ra 0 13,ra 0 14,ra 0 15,ra 0 16,ra 0 17,ra 0 17,(ra 0 17++[18]),ra 0 20,ra 0 21,ra 0 22,ra 0 17,(ra 0 17++[23]),ra 0 25,ra 0 26,ra 0 27] [] Z [_,vi l[k].kind,_,_,_,_,_,_,.slice (some ⟨bo,0,none⟩) out.length vc,_,vi ((out.length - 1:Nat):Int),_,_,vi pk.2,_,_,_,.slice (some ⟨bo,0,none⟩) out.length vc,_,vi ((out.length - 1:Nat):Int),_,_,Ee pk.1 pp pd pl,_,Ee l[k].head (.slice a1 a2 a3) (.slice a4 a5 a6) (.slice a7 a8 a9),.bool (decide (pk.1=l[k].head)),_,_] H (aH (Z0 O (Rf pq O)) (Z1 0 53 O (Ro aC 0 O)) (Z1 1 54 O (Rc O)) (Z1 2 55 O (Rm O)) (aH (Z1 3 56 O (YM (aX c1) O)) (Z2 4 57 3 56 O (YC (aX c1) O)) (Z2 3 56 5 58 O (Pt (aX c1) O)) (Z1 6 59 O (Rm O)) (aH ?_ (Z1 7 60 O (YM (aX c2) O)) ?_ (Z3 8 61 10 63 7 60 O (YI iB fB (aX c2) O O)) (aH (Z2 11 64 7 60 O (YF pq (aX c2) O)) ?_ (Z2 13 66 7 60 O (YC (aX c2) O)) (Z2 7 60 14 67 O (Pt (aX c2) O)) (aH (Z1 15 68 O (Rm O)) ?_ (Z1 16 69 O (YM (aX c3) O)) ?_ (aH (Z3 17 70 19 72 16 69 O (YI iB fB (aX c3) O O)) (Z2 20 73 16 69 O (YF zK (aX c3) O)) ?_ (Z1 16 69 O (YF zK (aX c3) O)) (aH ?_ ?_ (Z2 16 69 25 78 O (Pt (aX c3) O)) (Z1 26 79 O (Ra O)) fD))))))) ?_
            · refine pK 7 60 O O fun _ a w G1 hG HT H fin=>?_;refine kH H (YM (aX c2) O ?_);clear H;intro a H;exact fin H iJ (by show _=_;first|rfl|exact gZ (fun A=>Value.slice A out.length vc) (GX c2))
            · refine oQ 9 62 7 60 O O fun _ a w G1 hG HT H fin=>?_;refine wE _ H (wg H O O (aX c2)) O O O V V O ?_;clear H;intro a H;exact fin H iJ (by show _=_;first|rfl|exact gZ vi V)
            · refine oQ 12 65 7 60 O O fun _ a w G1 hG HT H fin=>?_;obtain ⟨_,_,_,_,_,_,rfl,_,_,_,_,_,_,_,_,hx⟩:=uD c2;refine iU aC H (wg H O O (aX c2)) O (hrw.at H.hp (fun x hx=>tZ _ hx) (by rw [eH];exact hx 0 _ O)) O ?_;clear H;intro a H;exact fin H iJ O
            · refine pK 16 69 O O fun _ a w G1 hG HT H fin=>?_;refine kH H (YM (aX c3) O ?_);clear H;intro a H;exact fin H iJ (by show _=_;first|rfl|exact gZ (fun A=>Value.slice A out.length vc) (GX c2))
            · refine oQ 18 71 16 69 O O fun _ a w G1 hG HT H fin=>?_;refine wE _ H (wg H O O (aX c3)) O O O V V O ?_;clear H;intro a H;exact fin H iJ (by show _=_;first|rfl|exact gZ vi V)
            · refine oQ 21 74 16 69 O O fun _ a w G1 hG HT H fin=>?_;obtain ⟨_,_,_,_,_,_,rfl,_,_,_,_,_,_,_,_,hx⟩:=uD c2
              refine bV wJ (cs:=[pp,vi pk.1.marks.ins,vi pk.1.marks.move,pd,pl]) H (wg H O O (aX c3)) O O (fun j u hj=>hrw.at H.hp (fun x hx=>tZ _ hx) (by
                  rw [eH,Nat.add_assoc];refine hx (4+j) u ?_
                  match j,hj with
                  | 0,hj=>exact hj
                  | 1,hj=>exact hj
                  | 2,hj=>exact hj
                  | 3,hj=>exact hj
                  | 4,hj=>exact hj)) O ?_;clear H;intro a H
              exact fin H iJ O
            · refine oQ 23 76 16 69 O O fun _ a w G1 hG HT H fin=>?_;refine bV wJ (cs:=[_,_,_,_,_]) H (wg H O O (aX c3)) O O (H.hp.bR 0 O O) O ?_;clear H;intro a H;exact fin H iJ O
            · refine LX 22 75 24 77 16 69 O O fun _ a w G1 hG HT H fin=>?_;refine s_call SX H (wg H O O (aX c3)) O (TG _ _ H.ro pk.1 l[k].head _ _ _ _ _ _ (by obtain ⟨_,_,_,_,_,_,_,e,_,_,_,_,hh,_⟩:=uD c2;rw [e];exact hh.mono hG) (Eh.mono fun b o h=>hG b o (Cx b o (Cw b o (iT b o h))))) O ?_;clear H;rintro v78 QN a w rfl NG H;exact fin H NG (rfl)
            clear H;intro a w G xG H hv;have H:=H.au (hv 27 52 O O) O;clear hv;refine aj ⟨O,?_⟩;refine ⟨(_,_),by exact H.sub ⟨O,O,O,O,O,O,O,aI⟩,?_⟩;(try dsimp only);refine ⟨fun h=>by first|exact absurd h Y|exact ⟨c1,c2,c3,rG h⟩,fun h=>?_,xG⟩
            first
              | exact absurd ((aX c4).symm.trans h) Y
              | (rw [hos]
                 refine Dy hnd fun o2 z2 e2 hj=>?_;rw [yP,hyk,Ep] at hj;obtain ⟨j1,j2,j3⟩:=hj
                 first
                   | exact c1 j1
                   | (have c2':0 < (out.length:Int):=by rw [e2,fQ,List.length_singleton];omega
                      obtain ⟨o,z,_,_,_,e,_,uj,_⟩:=uD c2';obtain ⟨-,ez⟩:=List.append_inj' (e2.symm.trans e) O
                      injection ez with ez
                      subst ez
                      first
                        | exact c2 c2'
                        | exact c3 (by rw [uj];exact j2)
                        | exact c4 (by rw [uj];exact j3)))
          skip;refine dI hmx [[],[0],[0,1],[0,1,2],ra 0 4,ra 0 5,ra 0 6,ra 0 7,ra 0 8,ra 0 8,(ra 0 8++[9]),ra 0 11,ra 0 12,ra 0 13,ra 0 14,ra 0 15,ra 0 16,ra 0 17,ra 0 17,(ra 0 17++[18]),ra 0 20,ra 0 21,ra 0 22,ra 0 17,(ra 0 17++[23]),ra 0 25,ra 0 26,ra 0 27] [] Z [_,vi l[k].kind,_,_,_,_,_,_,.slice (some ⟨bo,0,none⟩) out.length vc,_,vi ((out.length - 1:Nat):Int),_,_,vi pk.2,_,_,_,undef,undef,undef,undef,undef,undef,undef,undef,undef,_,_] H (aH (Z0 O (Rf pq O)) (Z1 0 53 O (Ro aC 0 O)) (Z1 1 54 O (Rc O)) (Z1 2 55 O (Rm O)) (aH (Z1 3 56 O (YM (aX c1) O)) (Z2 4 57 3 56 O (YC (aX c1) O)) (Z2 3 56 5 58 O (Pt (aX c1) O)) (Z1 6 59 O (Rm O)) (aH ?_ (Z1 7 60 O (YM (aX c2) O)) ?_ (Z3 8 61 10 63 7 60 O (YI iB fB (aX c2) O O)) (aH (Z2 11 64 7 60 O (YF pq (aX c2) O)) ?_ (Z2 13 66 7 60 O (YC (aX c2) O)) (Z2 7 60 14 67 O (Pt (aX c2) O)) (aH (Z1 15 68 O (Rm O)) (dK 16 (dW c3) O O) (dK 16 (dW c3) O O) (dK 16 (dW c3) O O) (aH (dK 16 (dW c3) O O) (dK 16 (dW c3) O O) (dK 16 (dW c3) O O) (dK 16 (dW c3) O O) (aH (dK 16 (dW c3) O O) (dK 16 (dW c3) O O) (Z2 16 69 25 78 O (Pf (dW c3) O)) (Z1 26 79 O (Ra O)) fD))))))) ?_
          · refine pK 7 60 O O fun _ a w G1 hG HT H fin=>?_;refine kH H (YM (aX c2) O ?_);clear H;intro a H;exact fin H iJ (by show _=_;first|rfl|exact gZ (fun A=>Value.slice A out.length vc) (GX c2))
          · refine oQ 9 62 7 60 O O fun _ a w G1 hG HT H fin=>?_;refine wE _ H (wg H O O (aX c2)) O O O V V O ?_;clear H;intro a H;exact fin H iJ (by show _=_;first|rfl|exact gZ vi V)
          · refine oQ 12 65 7 60 O O fun _ a w G1 hG HT H fin=>?_;obtain ⟨_,_,_,_,_,_,rfl,_,_,_,_,_,_,_,_,hx⟩:=uD c2;refine iU aC H (wg H O O (aX c2)) O (hrw.at H.hp (fun x hx=>tZ _ hx) (by rw [eH];exact hx 0 _ O)) O ?_;clear H;intro a H;exact fin H iJ O
          clear H;intro a w G xG H hv;have H:=H.au (hv 27 52 O O) O;clear hv;refine aj ⟨O,?_⟩;refine ⟨(_,_),by exact H.sub ⟨O,O,O,O,O,O,O,aI⟩,?_⟩;(try dsimp only);refine ⟨fun h=>by first|exact absurd h Y|exact ⟨c1,c2,c3,rG h⟩,fun h=>?_,xG⟩
          first
            | exact absurd ((aX c4).symm.trans h) Y
            | (rw [hos]
               refine Dy hnd fun o2 z2 e2 hj=>?_;rw [yP,hyk,Ep] at hj;obtain ⟨j1,j2,j3⟩:=hj
               first
                 | exact c1 j1
                 | (have c2':0 < (out.length:Int):=by rw [e2,fQ,List.length_singleton];omega
                    obtain ⟨o,z,_,_,_,e,_,uj,_⟩:=uD c2';obtain ⟨-,ez⟩:=List.append_inj' (e2.symm.trans e) O
                    injection ez with ez
                    subst ez
                    first
                      | exact c2 c2'
                      | exact c3 (by rw [uj];exact j2)
                      | exact c4 (by rw [uj];exact j3)))
        skip;refine dI hmx [[],[0],[0,1],[0,1,2],ra 0 4,ra 0 5,ra 0 6,ra 0 7,ra 0 8,ra 0 8,(ra 0 8++[9]),ra 0 11,ra 0 12,ra 0 13,ra 0 14,ra 0 15,ra 0 16,ra 0 17,ra 0 17,(ra 0 17++[18]),ra 0 20,ra 0 21,ra 0 22,ra 0 17,(ra 0 17++[23]),ra 0 25,ra 0 26,ra 0 27] [] Z [_,vi l[k].kind,_,_,_,_,_,_,undef,undef,undef,undef,undef,undef,undef,_,_,undef,undef,undef,undef,undef,undef,undef,undef,undef,_,_] H (aH (Z0 O (Rf pq O)) (Z1 0 53 O (Ro aC 0 O)) (Z1 1 54 O (Rc O)) (Z1 2 55 O (Rm O)) (aH (Z1 3 56 O (YM (aX c1) O)) (Z2 4 57 3 56 O (YC (aX c1) O)) (Z2 3 56 5 58 O (Pt (aX c1) O)) (Z1 6 59 O (Rm O)) (aH (dK 7 (dW c2) O O) (dK 7 (dW c2) O O) (dK 7 (dW c2) O O) (dK 7 (dW c2) O O) (aH (dK 7 (dW c2) O O) (dK 7 (dW c2) O O) (dK 7 (dW c2) O O) (Z2 7 60 14 67 O (Pf (dW c2) O)) (aH (Z1 15 68 O (Rm O)) (dK 16 O O O) (dK 16 O O O) (dK 16 O O O) (aH (dK 16 O O O) (dK 16 O O O) (dK 16 O O O) (dK 16 O O O) (aH (dK 16 O O O) (dK 16 O O O) (Z2 16 69 25 78 O (Pf O O)) (Z1 26 79 O (Ra O)) fD))))))) ?_
        clear H;intro a w G xG H hv;have H:=H.au (hv 27 52 O O) O;clear hv;refine aj ⟨O,?_⟩;refine ⟨(_,_),by exact H.sub ⟨O,O,O,O,O,O,O,aI⟩,?_⟩;(try dsimp only);refine ⟨fun h=>by first|exact absurd h Y|exact ⟨c1,c2,c3,rG h⟩,fun h=>?_,xG⟩
        first
          | exact absurd ((aX c4).symm.trans h) Y
          | (rw [hos]
             refine Dy hnd fun o2 z2 e2 hj=>?_;rw [yP,hyk,Ep] at hj;obtain ⟨j1,j2,j3⟩:=hj
             first
               | exact c1 j1
               | (have c2':0 < (out.length:Int):=by rw [e2,fQ,List.length_singleton];omega
                  obtain ⟨o,z,_,_,_,e,_,uj,_⟩:=uD c2';obtain ⟨-,ez⟩:=List.append_inj' (e2.symm.trans e) O
                  injection ez with ez
                  subst ez
                  first
                    | exact c2 c2'
                    | exact c3 (by rw [uj];exact j2)
                    | exact c4 (by rw [uj];exact j3)))
      skip;refine dI hmx [[],[0],[0,1],[0,1,2],ra 0 4,ra 0 5,ra 0 6,ra 0 7,ra 0 8,ra 0 8,(ra 0 8++[9]),ra 0 11,ra 0 12,ra 0 13,ra 0 14,ra 0 15,ra 0 16,ra 0 17,ra 0 17,(ra 0 17++[18]),ra 0 20,ra 0 21,ra 0 22,ra 0 17,(ra 0 17++[23]),ra 0 25,ra 0 26,ra 0 27] [] Z [_,vi l[k].kind,_,_,undef,undef,_,_,undef,undef,undef,undef,undef,undef,undef,_,_,undef,undef,undef,undef,undef,undef,undef,undef,undef,_,_] H (aH (Z0 O (Rf pq O)) (Z1 0 53 O (Ro aC 0 O)) (Z1 1 54 O (Rc O)) (Z1 2 55 O (Rm O)) (aH (dK 3 (dW c1) O O) (dK 3 (dW c1) O O) (Z2 3 56 5 58 O (Pf (dW c1) O)) (Z1 6 59 O (Rm O)) (aH (dK 7 O O O) (dK 7 O O O) (dK 7 O O O) (dK 7 O O O) (aH (dK 7 O O O) (dK 7 O O O) (dK 7 O O O) (Z2 7 60 14 67 O (Pf O O)) (aH (Z1 15 68 O (Rm O)) (dK 16 O O O) (dK 16 O O O) (dK 16 O O O) (aH (dK 16 O O O) (dK 16 O O O) (dK 16 O O O) (dK 16 O O O) (aH (dK 16 O O O) (dK 16 O O O) (Z2 16 69 25 78 O (Pf O O)) (Z1 26 79 O (Ra O)) fD))))))) ?_
      clear H;intro a w G xG H hv;have H:=H.au (hv 27 52 O O) O;clear hv;refine aj ⟨O,?_⟩;refine ⟨(_,_),by exact H.sub ⟨O,O,O,O,O,O,O,aI⟩,?_⟩;(try dsimp only);refine ⟨fun h=>by first|exact absurd h Y|exact ⟨c1,c2,c3,rG h⟩,fun h=>?_,xG⟩
      first
        | exact absurd ((aX c4).symm.trans h) Y
        | (rw [hos]
           refine Dy hnd fun o2 z2 e2 hj=>?_;rw [yP,hyk,Ep] at hj;obtain ⟨j1,j2,j3⟩:=hj
           first
             | exact c1 j1
             | (have c2':0 < (out.length:Int):=by rw [e2,fQ,List.length_singleton];omega
                obtain ⟨o,z,_,_,_,e,_,uj,_⟩:=uD c2';obtain ⟨-,ez⟩:=List.append_inj' (e2.symm.trans e) O
                injection ez with ez
                subst ez
                first
                  | exact c2 c2'
                  | exact c3 (by rw [uj];exact j2)
                  | exact c4 (by rw [uj];exact j3)))
    clear H;rintro ⟨jb,g9⟩ a w hI H;dsimp only at hI H;obtain ⟨hjy,hjn,Co⟩:=hI;have adU:=JD.mono Co;have hr9:=UN.mono Co;have Ut:∀ b o,G b=some o->g9 b=some o:=fun b o h=>Co b o (Us b o h);dsimp only [lca,bW] at H;refine ou H O ?_ ?_
    · intro aR
      try have p52:=dT aR
      obtain ⟨c1,c2,c3,c4⟩:=hjy (by assumption);obtain ⟨oo,z,x0,zf,zr,JO,rfl,rfl,rfl,hxs,hxl,hc0,hhz,hfz,hrz,hxj⟩:=uD c2
      have Vh:z.text.size<=kC out:=by
        rw [JO,Da];simp only [kC];omega
      obtain ⟨cur,-,rfl,hcur,hset⟩:=hrw.set1;refine dI hmx [[],[],[1],[0,1,2],ra 0 4,ra 0 5,[],[6],ra 0 8,ra 0 9,ra 0 10,ra 0 11] [9,10,11] Z [_,_,vi ((out.length - 1:Nat):Int),_,_,.string z.text,_,.string l[k].text,.string (z.text++l[k].text)] H (aH (Z0 O (Rm O)) (Z0 O (Rm O)) ?_ (Z2 0 80 2 82 O (Ri iB fB O O)) (aH (Z1 3 83 O (Rf A9 O)) ?_ (Z0 O (Rf A9 O)) (Z1 6 86 O (Ro iW 0 O)) (aH ?_ (fT O) (fT O) (fT O) fD))) ?_
      · refine pK 1 81 O O fun _ a w G1 hG HT H fin=>?_;refine kH H (Rs O ?_);clear H;intro a H;exact fin H iJ (by show _=_;first|rfl|exact gZ vi V)
      · refine pK 4 84 O O fun _ a w G1 hG HT H fin=>?_;refine iU iW H wn O (hrw.at H.hp (fun x hx=>tZ _ hx) (by rw [eH];exact hxj 3 _ O)) O ?_;clear H;intro a H;exact fin H iJ O
      · refine oQ 5 85 7 87 O O fun _ a w G1 hG HT H fin=>?_;refine ED H wn O O V O ?_;clear H;intro a H;exact fin H iJ O
      clear H;intro a w G uw H hv;have H:=H.au (hv 0 80 O O) O;have H:=H.au (hv 2 82 O O) O;have H:=H.au (hv 8 88 O O) O;clear hv;refine kH H (Ri iB fB O O (Rf A9 O ?_));clear H;intro a H;refine ql iW 1 (c:=cur) (vs:=[.string (z.text++l[k].text)]) (cur.set ((out.length - 1)*11+3) (.string (z.text++l[k].text))) H wn O O O O O O (by simp;omega) (by rw [eH];rfl) ?_;clear H;intro w H;dsimp only [List.set] at H;have aeL:=hset ((out.length - 1)*11+3) (.string (z.text++l[k].text))
      have UF:qh l (k+1)=oo++[xQ z y]:=by rw [hos,JO];exact Rq hnd ⟨by rw [hyk];exact c1,c3,by rw [Ep];exact c4⟩
      refine aj ⟨O,?_⟩;refine K7 _ _ ?_;clear K7;refine kP H (SC (Rd O (Rm O ?_)));clear H;intro a H;refine aj ?_;refine bE ((k+1,_,xs.set ((out.length - 1)*11+3) (.string (z.text++l[k].text)),_,_)) (by exact (H.dz (Pl:=[_]) (bZ:=[]) [] Y O).sub ⟨O,O,O,O,aI⟩) ?_
      (try dsimp only);exact ⟨V,by rw [UF,show (oo++[xQ z y]).length=out.length by rw [JO];simp];exact aeL,by rw [UF,hxs,JO];exact aeY (hc0.mono fun b o h=>uw b o (Co b o h)) hxl (hhz.mono fun b o h=>uw b o (Co b o h)) (hfz.mono fun b o h=>uw b o (Co b o h)) (hrz.mono fun b o h=>uw b o (Co b o h)) (by rw [G6]),fun b o h=>uw b o (Ut b o h)⟩
    intro aR
    try have p52:=dF aR
    have hnx:=hjn (by assumption);refine kP H (SC (Rm O ?_));clear H;intro a H;refine bV fB (cs:=[_,_,_,_,_,_,_,_,_,_,_]) H wn O O (H.hp.bR 0 O O) O ?_;clear H;intro a H;refine eU iB fB [_,_,_,_,_,_,_,_,_,_,_] [_,_,_,_,_,_,_,_,_,_,_] H wn O O O O O (by intro i q h;match i,h with|0,h=>exact h|n+1,h=>simp at h) O O ?_;clear H;intro b30 a w ajF H;refine dX (Li:=[_,_]) (Lo:=Lo) (news:=ML) iB fB O O H wn O O hrw (by rw [JE];rfl) (by rw [JE];exact H.hp.bR 0 O O) UN.one V V O ?_;clear H;intro v31 YV a w aeD H;refine kH H (bO K7 O (SC (Rd O (Rm O ?_))));clear H K7;intro a H;refine aj ?_;refine bE ((k+1,v31,xs++ML,YV,_)) (by exact (H.dz (Pl:=[_,_]) (bZ:=[]) [] Y O).sub ⟨O,O,O,O,aI⟩) ?_
    (try dsimp only);exact ⟨V,by rw [hnx,fQ];exact aeD,by rw [hnx,jw];exact (adU.snoc hr9 (by rw [JE];rfl)),Ut⟩
  intro h10 a H
  try have mG:=dF h10
  refine dJ ?_;refine K3 _ _ ?_;clear K3;refine gy (fun _ bG=>?_)
  obtain rfl:k=l.length:=by omega
  obtain ⟨G',hm,hrep,H⟩:=H.kF (Li:=[]) hrw (rows:=out.map aD.dat) (by simp) iq;exact kP H (SC (Rm O (bO bG O (LR results85 O fun H=>H.rt (by rw [pX,<- hout];exact hrep)))))
theorem Uf:∀ n:Nat,n<=1073741825->BM n
 | 0,_=>fun _ _ _ _ _ _ h=>absurd h V
 | n+1,hn=>adj (Uf n V) V
theorem afN (G:GH) (w0:World) (hG:Hold G w0) (l:List aD) (v:ak) (hv:aF G (.sl 11 (l.map aD.dat)) v) (hz:cK l<=1073741824) :
  Calls prog 85 #[v] w0 (bQ w0 G fun u G'=>aF G' (.sl 11 ((pX l).map aD.dat)) u):=Uf 1073741825 V G w0 hG l v hv V
theorem MB {a b:ByteArray} {i:Nat} (h:i < a.size):iC (a++b) i=iC a i:=by
 rw [sH h,sH (by rw [ByteArray.size_append];omega),ByteArray.getElem_append_left h]
theorem MC (a b:ByteArray) (j:Nat):iC (a++b) (a.size+j)=iC b j:=by
 by_cases h:j < b.size
 ·rw [sH h,sH (by rw [ByteArray.size_append];omega),ByteArray.getElem_append_right V]
  congr 2
  simp
 unfold iC
 rw [dif_neg (by rw [ByteArray.size_append];omega),dif_neg h]
theorem SF {a b:ByteArray} {t n:Nat}:∀ (f k:Nat) (low high p:Int),(mo a t n f k low high p).2.2=true->mo (a++b) t n f k low high p=mo a t n f k low high p
 | 0,_,_,_,_,_=>rfl
 | f+1,k,low,high,p,h=>by
  unfold mo at h |-
  by_cases h1:n<=k
  ·rw [aN h1,aN h1]
  rw [aL h1] at h;rw [aL h1,aL h1]
  by_cases h2:a.size<=t+k∨iC a (t+k) < low∨high < iC a (t+k)
  ·rw [aN h2] at h;cases h
  rw [aL h2] at h
  have h3:t+k < a.size:=by omega
  rw [MB h3,aL h2,aL (by rw [ByteArray.size_append];omega)];exact SF f (k+1) _ _ _ h
theorem SG (a b:ByteArray) (j n:Nat):∀ (f k:Nat) (low high p:Int),mo (a++b) (a.size+j) n f k low high p=mo b j n f k low high p
 | 0,_,_,_,_=>rfl
 | f+1,k,low,high,p=>by
  unfold mo
  have e:iC (a++b) (a.size+j+k)=iC b (j+k):=by rw [Nat.add_assoc];exact MC a b (j+k)
  have e2:((a++b).size<=a.size+j+k)↔(b.size<=j+k):=by rw [ByteArray.size_append];omega
  rw [e,SG a b j n f]
  simp only [e2]
theorem SI {a b:ByteArray} {i:Nat} (hi:i < a.size) (h:(gB a i).2.2=true):gB (a++b) i=gB a i:=by
 unfold gB at h |-
 simp only [MB hi] at h |-
 split
 ·rfl
 rename_i h1
 rw [aL h1] at h
 split
 ·rfl
 rename_i h2
 rw [aL h2] at h;exact SF _ _ _ _ _ h
theorem SK (a b:ByteArray) (j:Nat):gB (a++b) (a.size+j)=gB b j:=by
 unfold gB
 simp only [MC,SG]
theorem acV (a b:ByteArray):∀ (n j:Nat),b.size - j=n->iN b j < 0->iN (a++b) (a.size+j) < 0:=by
 intro n
 induction n using Nat.strongRecOn with
 | _ n ih =>
  intro j hn h;rw [iN]
  by_cases hj:j < b.size
  ·rw [iN,dif_pos hj] at h;rw [dif_pos (by rw [ByteArray.size_append];omega)]
   by_cases hd:(gB b j).2.2=true
   ·rw [dif_pos hd] at h;have hs:=(DR b j hj).2 hd;rw [dif_pos (by rw [SK];exact hd),SK,Nat.add_assoc];exact ih _ V (j+(gB b j).2.1) O h
   rw [dif_neg hd] at h;omega
  rw [dif_neg (by rw [ByteArray.size_append];omega)];decide
theorem acU (a b:ByteArray) (hb:iN b 0 < 0):∀ (n i:Nat),a.size - i=n->i<=a.size->iN a i < 0->iN (a++b) i < 0:=by
 intro n
 induction n using Nat.strongRecOn with
 | _ n ih =>
  intro i hn hi h
  by_cases hj:i < a.size
  ·rw [iN,dif_pos hj] at h;rw [iN,dif_pos (by rw [ByteArray.size_append];omega)]
   by_cases hd:(gB a i).2.2=true
   ·rw [dif_pos hd] at h;have hs:=(DR a i hj).2 hd;rw [dif_pos (by rw [SI hj hd];exact hd),SI hj hd];exact ih _ V (i+(gB a i).2.1) O hs.2 h
   rw [dif_neg hd] at h;omega
  obtain rfl:i=a.size:=by omega
  exact acV a b b.size 0 O hb
theorem EZ {a b:ByteArray} (ha:gq a=true) (hb:gq b=true):gq (a++b)=true:=by
 unfold gq at *
 exact wZ (acU a b (rG hb) a.size 0 O (fC _) (rG ha))
theorem Sw (a b:ByteArray):∀ (n j:Nat),b.size - j=n->lW (a++b) (a.size+j)=lW b j
 | 0,j,h=>by
  rw [lW.eq_def (a++b),lW.eq_def b,aL (show ¬ a.size+j < (a++b).size by rw [ByteArray.size_append];omega),aL (show ¬ j < b.size by omega)]
 | n+1,j,h=>by
  have ih:=Sw a b n (j+1) V;rw [lW.eq_def (a++b),lW.eq_def b,aN (show a.size+j < (a++b).size by rw [ByteArray.size_append];omega),aN (show j < b.size by omega),MC,Nat.add_assoc,ih]
theorem Sv (a b:ByteArray):∀ (n i:Nat),a.size - i=n->i<=a.size->lW (a++b) i=lW a i+lW b 0
 | 0,i,h,hi=>by
  obtain rfl:i=a.size:=by omega
  rw [lW.eq_def a a.size,aL (Nat.lt_irrefl _),eH];exact Sw a b b.size 0 rfl
 | n+1,i,h,hi=>by
  have ih:=Sv a b n (i+1) V V;rw [lW.eq_def (a++b),lW.eq_def a i,aN (show i < (a++b).size by rw [ByteArray.size_append];omega),aN (show i < a.size by omega),MB (show i < a.size by omega),ih,Nat.add_assoc]
theorem aah {a b:ByteArray} (ha:gq a=true) (hb:gq b=true):oW (a++b)=oW a+oW b:=by
 unfold oW
 rw [aN ha,aN hb,aN (EZ ha hb)];exact Sv a b a.size 0 O (fC _)
def oV (x:aD):ByteArray :=
 if x.kind=2 then ⟨#[10]⟩ else if x.kind=3 then ⟨#[29]⟩ else if x.kind=5∨x.kind=6∨x.kind=7∨x.kind=8 then ⟨#[239,191,188]⟩
 else if x.kind=4∧x.code=1 then ⟨#[11]⟩ else if x.kind=4∧x.code=2 then ⟨#[12]⟩ else if x.kind=4∧x.code=3 then ⟨#[9]⟩ else ⟨#[239,191,189]⟩
def rQ (x:aD):ByteArray:=if x.kind=1 then x.text else oV x
theorem Ki {s:ByteArray} {c:Int} {n:Nat} (hz:s.size=n) (hn:0 < n) (hd:gB s 0=(c,n,true)) (hc:¬ qF .and .u8 (iC s 0) 192=128) (hr:∀ j,0 < j->j < n->qF .and .u8 (iC s j) 192=128):gq s=true∧oW s=1:=by
 have hv:gq s=true:=by
  unfold gq
  rw [iN,dif_pos V,dif_pos (by rw [hd]),hd,iN,dif_neg (by dsimp only;omega)]
  rfl
 refine ⟨hv,?_⟩
 have h0:∀ m j,n - j=m->0 < j->lW s j=0:=by
  intro m
  induction m with
  | zero=>intro j h1 h2;rw [lW,aZ]
  | succ m ih =>
   intro j h1 h2;have h3:=ih (j+1) V V;rw [lW.eq_def,aN (show j < s.size by omega),aN (hr j h2 V),h3]
 unfold oW
 rw [aN hv,lW.eq_def,aN (show 0 < s.size by omega),aL hc,h0 _ 1 rfl Y]
theorem Xu {P:Nat->Prop} (h1:P 1) (h2:P 2):∀ j,0 < j->j < 3->P j
 | 1,_,_=>h1
 | 2,_,_=>h2
 | 0,h,_=>absurd h Y
 | _+3,_,h=>by omega
theorem MS:gq ⟨#[]⟩=true∧oW ⟨#[]⟩=0:=by
 have hv:gq ⟨#[]⟩=true:=by unfold gq;rw [iN,dif_neg Y];rfl
 exact ⟨hv,by unfold oW;rw [aN hv,lW,aL Y]⟩
theorem Sd (x:aD):(gq (oV x)=true∧oW (oV x)=1)∧(oV x).size<=3∧(oV x).size≠0:=by
 have o1:∀ b:UInt8,gB ⟨#[b]⟩ 0=((b.toNat:Int),1,true)->¬ qF .and .u8 (iC ⟨#[b]⟩ 0) 192=128->(gq ⟨#[b]⟩=true∧oW ⟨#[b]⟩=1)∧(⟨#[b]⟩:ByteArray).size<=3∧(⟨#[b]⟩:ByteArray).size≠0:=fun b h1 h2=>⟨Ki (n:=1) O Y h1 h2 fun j h3 h4=>by omega,by show 1<=3;decide,by show 1≠0;decide⟩
 unfold oV
 split
 ·exact o1 10 Y Y
 split
 ·exact o1 29 Y Y
 split
 ·exact ⟨Ki (c:=65532) (n:=3) O Y Y Y (Xu Y Y),Y,Y⟩
 split
 ·exact o1 11 Y Y
 split
 ·exact o1 12 Y Y
 split
 ·exact o1 9 Y Y
 exact ⟨Ki (c:=65533) (n:=3) O Y Y Y (Xu Y Y),Y,Y⟩
theorem ZU {x:aD} (h:x.kind=1->gq x.text=true):gq (rQ x)=true∧oW (rQ x)=lH x:=by
 unfold rQ lH
 by_cases h1:x.kind=1
 ·rw [aN h1,aN h1];exact ⟨h h1,O⟩
 rw [aL h1,aL h1];exact (Sd x).1
def mJ (l:List aD):List UInt8:=l.flatMap fun x=>(rQ x).data.toList
theorem ais (x:aD) (l:List aD):(⟨(mJ (x :: l)).toArray⟩:ByteArray)=rQ x++⟨(mJ l).toArray⟩:=by
 apply ByteArray.ext
 simp [mJ]
theorem Ql:∀ {l:List aD},(∀ x∈l,x.kind=1->gq x.text=true)->gq ⟨(mJ l).toArray⟩=true∧oW ⟨(mJ l).toArray⟩=gD l
 | [],_=>MS
 | x :: l,h=>by
  obtain ⟨h3,h4⟩:=ZU (h x (nN ..));obtain ⟨h5,h6⟩:=Ql fun y hy=>h y (tZ _ hy);rw [ais];exact ⟨EZ h3 h5,by rw [aah h3 h5,h4,h6,gD]⟩
theorem ait {l:List aD} {k:Nat} (hk:k < l.length):mJ (l.take (k+1))=mJ (l.take k)++(rQ l[k]).data.toList:=by
 rw [jq hk];simp only [mJ,List.flatMap_append,List.flatMap_cons,List.flatMap_nil,lU]
theorem ZT (x:aD):(rQ x).data.toList.length<=iy x.dat:=by
 have h2:=oO x;have h3:(rQ x).data.toList.length=(rQ x).size:=BP;have h4:=(Sd x).2.1;rw [h3]
 unfold rQ
 split <;> omega
theorem KU:∀ l:List aD,(mJ l).length<=cK l
 | []=>bS _
 | x :: l=>by
  have:=KU l;have h2:=ZT x
  simp only [mJ,List.flatMap_cons,fQ,cK,gV,fM] at *;omega
theorem PN:Dv prog 123:=⟨Z⟩
theorem u8B:U8 prog 5:=⟨Z⟩
theorem afk:liesAt prog prog.depth 123 (2 / prog.cellsOf 123) 0 123 1=true:=by kernel_rfl
theorem ZR:prog.cellsOf 5=1:=by kernel_rfl
theorem afK (v:ak) (w:World):(callFunc 81 #[v]).run prog w=.ok (.value v) w:=agt func81 Z Z Z Z v w
theorem Ie:prog.underlying 121=some (.pointer 123):=by kernel_rfl
theorem XP:prog.underlying 174=some .unsafePointer:=by kernel_rfl
theorem Je:gL prog 123 0 0:=⟨Z⟩
theorem KV:Ty prog 121 1 8 [.pointer none] false:=⟨Z,Z⟩
theorem abL:bL 69:=bN func69 O
theorem Al:prog.underlying 106=some (.slice 5):=by kernel_rfl
theorem D5:gL prog 123 1 1:=⟨Z⟩
theorem zh:Ty prog 106 1 24 [.slice none 0 0] false:=⟨Z,Z⟩
theorem XO:prog.underlying 158=some (.pointer 5):=by kernel_rfl
abbrev bB (b:Nat) (p v:ak):Nat × Obj:=(b,.cells #[p,v] 123 (0,0))
theorem aan (G:GH) (L:OL) (w0:World) (b:Nat) (A:Option Addr) (n c:Nat) (hO:jN G (bB b (.pointer none) (.slice A n c) :: L) w0) :
  Calls prog 69 #[(aJ b 0)] w0 (jO w0 G (bB b (.pointer none) (.slice A n c) :: L) fun u G' L'=>L'=bB b (aJ b 0) (.slice A n c) :: L∧G'=G):=by
 refine mP (N:=20) (T:=[(0,_)]) func69 O ntmps69 O O hO ?_;intro a H;refine kP H (SR fun _ K1=>Rm O (Rk O (fG Je KV 0 O O ?_)));clear H;intro a H;refine WQ Ie H wn O O ?_;clear H;intro a H;refine K1 _ _ ?_;clear K1;refine ou H O ?_ ?_
 ·intro h6
  refine kP H (SC (Rm O (Rm O ?_)));clear H;intro a H;refine agY Ie XP PN H wn O 0 O O O ?_;clear H;intro a H;refine agQ (xs:=[.tmp 9]) (afK _) H wn O O ?_;clear H;intro a H;refine agH XP Ie PN H wn O 0 O afk O ?_;clear H;intro a H;refine kH H (Rk O (Rf Je O ?_));clear H;intro a H;refine bg KV 0 (vs:=[_]) H wn O ?_;clear H;intro w H;refine aj ?_;refine (leave0 H results69 ?_).2;exact H.hp.dP ⟨O,O⟩
 intro h6
 exact absurd h6 Y
theorem aao (G:GH) (L:OL) (w0:World) (b:Nat) (A:Option Addr) (n c:Nat) (hO:jN G (bB b (aJ b 0) (.slice A n c) :: L) w0) :
  Calls prog 69 #[(aJ b 0)] w0 (jO w0 G (bB b (aJ b 0) (.slice A n c) :: L) fun u G' L'=>L'=bB b (aJ b 0) (.slice A n c) :: L∧G'=G):=by
 refine mP (N:=20) (T:=[(0,_)]) func69 O ntmps69 O O hO ?_;intro a H;refine kP H (SR fun _ K1=>Rm O (Rk O (fG Je KV 0 O O ?_)));clear H;intro a H;refine WQ Ie H wn O O ?_;clear H;intro a H;refine K1 _ _ ?_;clear K1;refine ou H O ?_ ?_
 ·intro h6
  exact absurd h6 (by simp)
 intro h6
 refine kP H (SR fun _ K2=>Rm O (Rk O (fG Je KV 0 O O (Rm O ?_))));clear H;intro a H;refine agO Ie PN H wn O O O ?_;clear H;intro a H;refine K2 _ _ ?_;clear K2;refine ou H O ?_ ?_
 ·intro h19
  exact absurd h19 Y
 intro h19
 refine lV ?_;refine (leave0 H results69 ?_).2;exact H.hp.dP ⟨O,O⟩
theorem aap (G:GH) (L:OL) (w0:World) (b:Nat) (p:ak) (A:Option Addr) (n c:Nat) (hp:p=.pointer none∨p=(aJ b 0)) (hO:jN G (bB b p (.slice A n c) :: L) w0) :
  Calls prog 69 #[(aJ b 0)] w0 (jO w0 G (bB b p (.slice A n c) :: L) fun u G' L'=>L'=bB b (aJ b 0) (.slice A n c) :: L∧G'=G):=by
 rcases hp with rfl|rfl
 ·exact aan G L w0 b A n c hO
 exact aao G L w0 b A n c hO
theorem QB (G:GH) (Lo:OL) (w0:World) (b:Nat) (p v:ak) (n:Nat) (xs:List ak) (s:ByteArray) (hp:p=.pointer none∨p=(aJ b 0)) (hO:jN G (bB b p v :: Lo) w0) (hrow:aW 5 1 v n xs Lo) (hn:n+s.size<=140737488355328) :
  Calls prog 48 #[(aJ b 0),.string s] w0 (jO w0 G (bB b p v :: Lo) fun u G' L'=>∃ v' jg,L'=bB b (aJ b 0) v' :: jg∧aW 5 1 v' (n+s.size) (xs++Lib.strCells s) jg∧G'=G∧(v=.slice none 0 0->s.size=0->v'=.slice none 0 0)):=by
 obtain ⟨A,c,rfl,-,-⟩:=hrow.shape;refine mP (N:=19) (T:=[(0,_),(1,_)]) func48 O ntmps48 O O hO ?_;intro a H;refine kP H (SR fun _ K1=>Ra O (av K1 O (SR fun _ K2=>Rm O ?_)));clear H K1;intro a H;refine jT abL (Li:=[]) (L:=bB b p _ :: Lo) H wn O (aap _ _ _ b p A n c hp (Hp.owns (Li:=[]) H.hp)) O ?_;clear H;rintro v7 _ L7 a w ⟨rfl,rfl⟩ Bh H;dsimp only [List.nil_append] at H;refine K2 _ _ ?_;clear K2;refine kP H (SR fun _ K3=>Rm O (Rm O (Rk O (fG D5 zh 0 O O (Rm O ?_)))));clear H;intro a H;refine agB (Li:=[_]) (Lo:=Lo) Al kL u8B H wn O O hrow hn O ?_;clear H;intro v14 ajm a w UW aen H;obtain ⟨Yo,c14,rfl,-,-⟩:=UW.shape;refine kH H (Rk O (Rf D5 O ?_));clear H;intro a H;refine bg zh 0 (vs:=[_]) H wn O ?_;clear H;intro w H;refine K3 _ _ ?_;clear K3;refine kP H (SR fun _ K4=>Rm O (Rv kL O (Ra O (av K4 O ?_))));clear H K4;intro a H;refine aU ?_;refine (bK H results48 (.cons (aG H O) (.cons (aG H O) .nil)) ?_).1;exact H.hp.dP ⟨_,_,O,UW,O,aen⟩
theorem aja (G:GH) (Lo:OL) (w0:World) (b:Nat) (p v:ak) (n:Nat) (xs:List ak) (s:ByteArray) (hp:p=.pointer none∨p=(aJ b 0)) (hO:jN G (bB b p v :: Lo) w0) (hrow:aW 5 1 v n xs Lo) (hn:n+s.size<=140737488355328) :
  Calls prog 48 #[(aJ b 0),.string s] w0 (jO w0 G (bB b p v :: Lo) fun u G' L'=>∃ v' jg,L'=bB b (aJ b 0) v' :: jg∧aW 5 1 v' (n+s.size) (xs++Lib.strCells s) jg∧G'=G):=by
 refine Calls.mono (QB G Lo w0 b p v n xs s hp hO hrow hn) ?_;rintro e w' ⟨u,G',L',he,hc,v',jg,h1,h2,h3,-⟩;exact ⟨u,G',L',he,hc,v',jg,h1,h2,h3⟩
theorem ahP (G:GH) (Lo:OL) (w0:World) (b:Nat) (p v:ak) (l:List UInt8) (hO:jN G (bB b p v :: Lo) w0) (hrow:aW 5 1 v l.length (Lib.byteCells l) Lo) (h0:l≠[]) :
  Calls prog 50 #[(aJ b 0)] w0 (jO w0 G (bB b p v :: Lo) fun u G' L'=>u=.string ⟨l.toArray⟩):=by
 rcases hrow.2 with ⟨-,h,-⟩|⟨b2,cap,cur,rfl,rfl,hc1,hc2,hc3,hc4⟩
 ·exact absurd (List.eq_nil_of_length_eq_zero h) h0
 have hl0:l.length≠0:=fun h=>h0 (List.eq_nil_of_length_eq_zero h);have hml:maxLen=9223372036854775807:=rfl;refine mP (N:=14) (T:=[(0,_)]) func50 O ntmps50 O O hO ?_;intro a H;refine kP H (SR fun _ K1=>av K1 O (SQ fun _ K2=>?_));clear H K1;intro a H;have H:=H.sub (T':=[(0,_)]) ⟨O,aI⟩;refine dI hmx [[],[0],[0,1],[0,1,2],ra 0 4,[],[5],[5,6],[5,6,7],ra 5 4,ra 0 10,ra 0 11] [10,11] Z [_,_,_,.slice (some ⟨b2,0,none⟩) l.length cap,(aJ b2 0),_,_,_,.slice (some ⟨b2,0,none⟩) l.length cap,_] H (aH (Z0 O (Rm O)) (Z1 0 3 O (Rk O)) (Z1 1 4 O (Rf D5 O)) (Z1 2 5 O (Ro zh 0 O)) (aH ?_ (Z0 O (Rm O)) (Z1 5 8 O (Rk O)) (Z1 6 9 O (Rf D5 O)) (aH (Z1 7 10 O (Ro zh 0 O)) (Z1 8 11 O (Rl Al O)) (fT O) (fT O) fD))) ?_
 ·refine pK 3 6 O O fun _ a w G1 hG HT H fin=>?_;refine agW H wn O V O ?_;clear H;intro a H;exact fin H iJ O
 clear H;intro a w G Gd H hv;have H:=H.au (hv 4 7 O O) O;have H:=H.au (hv 9 12 O O) O;clear hv;refine WZ (i:=1) l XO ZR h0 V H wn O O O (by rw [<- hc4,Nat.mul_one]) O ?_;clear H;intro fz a w H;dsimp only [List.set] at H;refine kH H (Ra O ?_);clear H;intro a H;refine aj ⟨O,?_⟩;refine K2 _ _ ?_;clear K2;refine lr H results50 O ?_;exact H.hp.dP O
section
section
variable {N:Nat} {D:List Deferred} {w0:World} {F:Nat->Prop} {G0 G:GH} {L:OL} {T:List (Nat × ak)}
variable {r:Option Nat} {P:Program} {ops:Array Oper} {Q:Exit->Act->World->Prop} {rest:List Oper} {a:Act} {w:World}
variable {d:Nat} {ty:TypeId} {pos:String} {aM:Array Edge} {g:Option (Nat × Bool)}
theorem agX {t:TypeId} {x:Operand} {n c:Nat} (H:St N D w0 F G0 G L T a w) (hw:Region.wanted ⟨some d,.call { callee:=.builtin .unsafeSliceData,args:=#[x],argTypes:=#[t] },ty,pos,aM,g⟩ (yielded ops a.tmps)=true) (hx:ev T x=some (.slice none n c)) (hd:Nat.blt d N=true)
  (k:∀ a',St N D w0 F G0 G L ((d,.pointer none) :: T) a' w->WL r P ops Q rest a' w):WL r P ops Q (⟨some d,.call { callee:=.builtin .unsafeSliceData,args:=#[x],argTypes:=#[t] },ty,pos,aM,g⟩ :: rest) a w:=by
 refine dZ (v:=.pointer none) (w':=w) hw O ?_ (k _ (H.put hd _ H.hp))
 have h:=Lib.run_unsafeSliceData_nil (P:=P) (w:=w) #[t] ty n c
 simp [execOp,resolve,invoke,builtin,H.ev hx,dB,h]
theorem agZ {pt it:TypeId} {x y:Operand} {p:Option Addr} (H:St N D w0 F G0 G L T a w)
  (hw:Region.wanted ⟨some d,.call { callee:=.builtin .unsafeString,args:=#[x,y],argTypes:=#[pt,it] },ty,pos,aM,g⟩ (yielded ops a.tmps)=true) (hx:ev T x=some (.pointer p)) (hy:ev T y=some (.int .i64 0)) (hd:Nat.blt d N=true)
  (k:∀ a',St N D w0 F G0 G L ((d,.string ⟨#[]⟩) :: T) a' w->WL r P ops Q rest a' w):WL r P ops Q (⟨some d,.call { callee:=.builtin .unsafeString,args:=#[x,y],argTypes:=#[pt,it] },ty,pos,aM,g⟩ :: rest) a w:=by
 have h:=Lib.run_unsafeString_none (P:=P) (w:=w) pt it ty p
 refine dZ (v:=.string ⟨#[]⟩) (w':=w) hw O ?_ (k _ (H.put hd _ H.hp))
 simp [execOp,resolve,invoke,builtin,H.ev hx,H.ev hy,dB,h]
 rfl
end
end
theorem ME (a b:List UInt8):Lib.byteCells (a++b)=Lib.byteCells a++Lib.byteCells b:=by simp [Lib.byteCells]
theorem ahM (G:GH) (Lo:OL) (w0:World) (b:Nat) (p:ak) (hO:jN G (bB b p (.slice none 0 0) :: Lo) w0) :
  Calls prog 50 #[(aJ b 0)] w0 (jO w0 G (bB b p (.slice none 0 0) :: Lo) fun u G' L'=>u=.string ⟨#[]⟩):=by
 refine mP (N:=14) (T:=[(0,_)]) func50 O ntmps50 O O hO ?_;intro a H;refine kP H (SR fun _ K1=>av K1 O (SQ fun _ K2=>?_));clear H K1;intro a H;have H:=H.sub (T':=[(0,_)]) ⟨O,aI⟩;refine dI hmx [[],[0],[0,1],[0,1,2],ra 0 4,[],[5],[5,6],[5,6,7],ra 5 4,ra 0 10,ra 0 11] [11] Z [_,_,_,.slice none 0 0,.pointer none,_,_,_,.slice none 0 0,_,.string ⟨#[]⟩] H (aH (Z0 O (Rm O)) (Z1 0 3 O (Rk O)) (Z1 1 4 O (Rf D5 O)) (Z1 2 5 O (Ro zh 0 O)) (aH ?_ (Z0 O (Rm O)) (Z1 5 8 O (Rk O)) (Z1 6 9 O (Rf D5 O)) (aH (Z1 7 10 O (Ro zh 0 O)) (Z1 8 11 O (Rl Al O)) ?_ (fT O) fD))) ?_
 ·refine pK 3 6 O O fun _ a w G1 hG HT H fin=>?_;refine agX H wn O O ?_;clear H;intro a H;exact fin H iJ O
 ·refine oQ 4 7 9 12 O O fun _ a w G1 hG HT H fin=>?_;refine agZ H wn O O O ?_;clear H;intro a H;exact fin H iJ O
 clear H;intro a w G Gd H hv;have H:=H.au (hv 10 13 O O) O;clear hv;refine kH H (Ra O ?_);clear H;intro a H;refine aj ⟨O,?_⟩;refine K2 _ _ ?_;clear K2;refine lr H results50 O ?_;exact H.hp.dP O
theorem Xk (G:GH) (Lo:OL) (w0:World) (b:Nat) (p v:ak) (l:List UInt8) (hO:jN G (bB b p v :: Lo) w0) (hrow:aW 5 1 v l.length (Lib.byteCells l) Lo) (h0:l=[]->v=.slice none 0 0) :
  Calls prog 50 #[(aJ b 0)] w0 (jO w0 G (bB b p v :: Lo) fun u G' L'=>u=.string ⟨l.toArray⟩):=by
 by_cases h:l=[]
 ·obtain rfl:=h0 h;subst h;exact ahM G Lo w0 b p hO
 exact ahP G Lo w0 b p v l hO hrow h
end Go.Proofs.YtomebajfpcjoeaaGreatDoor
