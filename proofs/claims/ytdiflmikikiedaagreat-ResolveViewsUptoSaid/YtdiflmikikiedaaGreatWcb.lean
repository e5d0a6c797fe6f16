/-
  What the claim stands on, part 2: Cp Run Rg Pos Pq Doc Dq Idx Plc Plr Hv Prk Dlf Prp Prq Prc Pst Ehd Dc24 Bld Fst Nam Pn De Dj Dk Dw.
-/
import Derived.Test.YtdiflmikikiedaaGreatWca
import Derived.Test.YtdiflmikikiedaaGreatRows
namespace Go.Proofs.YtdiflmikikiedaaGreat
set_option linter.all false
open Go.Proofs.Tryz
set_option maxRecDepth 20000
set_option maxHeartbeats 4000000
open Go.RowKit
theorem lq:prog.underlying 3=some (.int .i64):=by kernel_rfl
instance:lD prog 3 (.int .i64):=⟨lq⟩
theorem JQ:prog.underlying 5=some (.int .u8):=by kernel_rfl
instance:lD prog 5 (.int .u8):=⟨JQ⟩
theorem jB:prog.underlying 9=some .string:=by kernel_rfl
instance:lD prog 9 .string:=⟨jB⟩
theorem ajD:∀ args w,(callFunc 268 args).run prog w=.ok (.enter 268 args) w:=enters func268 rfl (by kernel_rfl)
theorem ajs:∀ args w,(callFunc 249 args).run prog w=.ok (.enter 249 args) w:=enters func249 rfl (by kernel_rfl)
theorem aji:∀ args w,(callFunc 225 args).run prog w=.ok (.enter 225 args) w:=enters func225 rfl (by kernel_rfl)
theorem KI:∀ args w,(callFunc 193 args).run prog w=.ok (.enter 193 args) w:=enters func193 rfl (by kernel_rfl)
def jc (b:Int):Int × Int × Int :=
  (if b=224 then 160 else if b=240 then 144 else 128,if b=237 then 159 else if b=244 then 143 else 191,
   if b < 128 then 1 else if b < 194∨244 < b then 0 else if b < 224 then 2 else if b < 240 then 3 else 4)
theorem WS (b:Int):0≤(jc b).2.2∧(jc b).2.2≤4:=by
 simp only [jc];split
 ·omega
 split
 ·omega
 split
 ·omega
 split <;> omega
theorem atw (G:GH) (w0:World) (hG:Hold G w0) (b:Int) :
  Calls prog 268 #[.int .u8 b] w0 (bB w0 G fun v G'=>v=.tuple #[.int .u8 (jc b).1,.int .u8 (jc b).2.1,.int .i64 (jc b).2.2]∧G=G'):=by
 refine eN [(0,_)] func268 rfl ntmps268 rfl rfl hG ?_;refine goB 16 ?_ ?_
 ·intro p5
  refine goB 12 ?_ ?_
  ·intro jk
   refine av 11 ?_;intro a H;refine cK ?_;refine (fE H results268 (.cons (bq H rfl) (.cons (bq H rfl) (.cons (bq H rfl) .nil))) ?_).1
   first|(exfalso;omega)|exact H.rt ⟨by simp only [jc];repeat (first|rw [ak (by omega)]|rw [ah (by omega)]),rfl⟩
  intro jk
  refine goB 4 ?_ ?_
  ·intro jT
   refine av 11 ?_;intro a H;refine cK ?_;refine (fE H results268 (.cons (bq H rfl) (.cons (bq H rfl) (.cons (bq H rfl) .nil))) ?_).1
   first|(exfalso;omega)|exact H.rt ⟨by simp only [jc];repeat (first|rw [ak (by omega)]|rw [ah (by omega)]),rfl⟩
  intro jT
  refine goB 4 ?_ ?_
  ·intro p26
   refine av 11 ?_;intro a H;refine cK ?_;refine (fE H results268 (.cons (bq H rfl) (.cons (bq H rfl) (.cons (bq H rfl) .nil))) ?_).1
   first|(exfalso;omega)|exact H.rt ⟨by simp only [jc];repeat (first|rw [ak (by omega)]|rw [ah (by omega)]),rfl⟩
  intro p26
  refine goB 4 ?_ ?_
  ·intro p28
   refine av 11 ?_;intro a H;refine cK ?_;refine (fE H results268 (.cons (bq H rfl) (.cons (bq H rfl) (.cons (bq H rfl) .nil))) ?_).1
   first|(exfalso;omega)|exact H.rt ⟨by simp only [jc];repeat (first|rw [ak (by omega)]|rw [ah (by omega)]),rfl⟩
  intro p28
  refine av 9 ?_;intro a H;refine cK ?_;refine (fE H results268 (.cons (bq H rfl) (.cons (bq H rfl) (.cons (bq H rfl) .nil))) ?_).1
  first|(exfalso;omega)|exact H.rt ⟨by simp only [jc];repeat (first|rw [ak (by omega)]|rw [ah (by omega)]),rfl⟩
 intro p5
 refine qJ 4 11 ?_ ?_
 ·intro rH
  refine goB 18 ?_ ?_
  ·intro jk
   refine av 11 ?_;intro a H;refine cK ?_;refine (fE H results268 (.cons (bq H rfl) (.cons (bq H rfl) (.cons (bq H rfl) .nil))) ?_).1
   first|(exfalso;omega)|exact H.rt ⟨by simp only [jc];repeat (first|rw [ak (by omega)]|rw [ah (by omega)]),rfl⟩
  intro jk
  refine goB 4 ?_ ?_
  ·intro jT
   refine av 11 ?_;intro a H;refine cK ?_;refine (fE H results268 (.cons (bq H rfl) (.cons (bq H rfl) (.cons (bq H rfl) .nil))) ?_).1
   first|(exfalso;omega)|exact H.rt ⟨by simp only [jc];repeat (first|rw [ak (by omega)]|rw [ah (by omega)]),rfl⟩
  intro jT
  refine goB 4 ?_ ?_
  ·intro p26
   refine av 11 ?_;intro a H;refine cK ?_;refine (fE H results268 (.cons (bq H rfl) (.cons (bq H rfl) (.cons (bq H rfl) .nil))) ?_).1
   first|(exfalso;omega)|exact H.rt ⟨by simp only [jc];repeat (first|rw [ak (by omega)]|rw [ah (by omega)]),rfl⟩
  intro p26
  refine goB 4 ?_ ?_
  ·intro p28
   refine av 11 ?_;intro a H;refine cK ?_;refine (fE H results268 (.cons (bq H rfl) (.cons (bq H rfl) (.cons (bq H rfl) .nil))) ?_).1
   first|(exfalso;omega)|exact H.rt ⟨by simp only [jc];repeat (first|rw [ak (by omega)]|rw [ah (by omega)]),rfl⟩
  intro p28
  refine av 9 ?_;intro a H;refine cK ?_;refine (fE H results268 (.cons (bq H rfl) (.cons (bq H rfl) (.cons (bq H rfl) .nil))) ?_).1
  first|(exfalso;omega)|exact H.rt ⟨by simp only [jc];repeat (first|rw [ak (by omega)]|rw [ah (by omega)]),rfl⟩
 intro rH
 refine goB 5 ?_ ?_
 ·intro p8
  refine goB 12 ?_ ?_
  ·intro jk
   refine av 11 ?_;intro a H;refine cK ?_;refine (fE H results268 (.cons (bq H rfl) (.cons (bq H rfl) (.cons (bq H rfl) .nil))) ?_).1
   first|(exfalso;omega)|exact H.rt ⟨by simp only [jc];repeat (first|rw [ak (by omega)]|rw [ah (by omega)]),rfl⟩
  intro jk
  refine goB 4 ?_ ?_
  ·intro jT
   refine av 11 ?_;intro a H;refine cK ?_;refine (fE H results268 (.cons (bq H rfl) (.cons (bq H rfl) (.cons (bq H rfl) .nil))) ?_).1
   first|(exfalso;omega)|exact H.rt ⟨by simp only [jc];repeat (first|rw [ak (by omega)]|rw [ah (by omega)]),rfl⟩
  intro jT
  refine goB 4 ?_ ?_
  ·intro p26
   refine av 11 ?_;intro a H;refine cK ?_;refine (fE H results268 (.cons (bq H rfl) (.cons (bq H rfl) (.cons (bq H rfl) .nil))) ?_).1
   first|(exfalso;omega)|exact H.rt ⟨by simp only [jc];repeat (first|rw [ak (by omega)]|rw [ah (by omega)]),rfl⟩
  intro p26
  refine goB 4 ?_ ?_
  ·intro p28
   refine av 11 ?_;intro a H;refine cK ?_;refine (fE H results268 (.cons (bq H rfl) (.cons (bq H rfl) (.cons (bq H rfl) .nil))) ?_).1
   first|(exfalso;omega)|exact H.rt ⟨by simp only [jc];repeat (first|rw [ak (by omega)]|rw [ah (by omega)]),rfl⟩
  intro p28
  refine av 9 ?_;intro a H;refine cK ?_;refine (fE H results268 (.cons (bq H rfl) (.cons (bq H rfl) (.cons (bq H rfl) .nil))) ?_).1
  first|(exfalso;omega)|exact H.rt ⟨by simp only [jc];repeat (first|rw [ak (by omega)]|rw [ah (by omega)]),rfl⟩
 intro p8
 refine goB 5 ?_ ?_
 ·intro sD
  refine goB 12 ?_ ?_
  ·intro jk
   refine av 11 ?_;intro a H;refine cK ?_;refine (fE H results268 (.cons (bq H rfl) (.cons (bq H rfl) (.cons (bq H rfl) .nil))) ?_).1
   first|(exfalso;omega)|exact H.rt ⟨by simp only [jc];repeat (first|rw [ak (by omega)]|rw [ah (by omega)]),rfl⟩
  intro jk
  refine goB 4 ?_ ?_
  ·intro jT
   refine av 11 ?_;intro a H;refine cK ?_;refine (fE H results268 (.cons (bq H rfl) (.cons (bq H rfl) (.cons (bq H rfl) .nil))) ?_).1
   first|(exfalso;omega)|exact H.rt ⟨by simp only [jc];repeat (first|rw [ak (by omega)]|rw [ah (by omega)]),rfl⟩
  intro jT
  refine goB 4 ?_ ?_
  ·intro p26
   refine av 11 ?_;intro a H;refine cK ?_;refine (fE H results268 (.cons (bq H rfl) (.cons (bq H rfl) (.cons (bq H rfl) .nil))) ?_).1
   first|(exfalso;omega)|exact H.rt ⟨by simp only [jc];repeat (first|rw [ak (by omega)]|rw [ah (by omega)]),rfl⟩
  intro p26
  refine goB 4 ?_ ?_
  ·intro p28
   refine av 11 ?_;intro a H;refine cK ?_;refine (fE H results268 (.cons (bq H rfl) (.cons (bq H rfl) (.cons (bq H rfl) .nil))) ?_).1
   first|(exfalso;omega)|exact H.rt ⟨by simp only [jc];repeat (first|rw [ak (by omega)]|rw [ah (by omega)]),rfl⟩
  intro p28
  refine av 9 ?_;intro a H;refine cK ?_;refine (fE H results268 (.cons (bq H rfl) (.cons (bq H rfl) (.cons (bq H rfl) .nil))) ?_).1
  first|(exfalso;omega)|exact H.rt ⟨by simp only [jc];repeat (first|rw [ak (by omega)]|rw [ah (by omega)]),rfl⟩
 intro sD
 refine goB 5 ?_ ?_
 ·intro sF
  refine goB 12 ?_ ?_
  ·intro jk
   refine av 11 ?_;intro a H;refine cK ?_;refine (fE H results268 (.cons (bq H rfl) (.cons (bq H rfl) (.cons (bq H rfl) .nil))) ?_).1
   first|(exfalso;omega)|exact H.rt ⟨by simp only [jc];repeat (first|rw [ak (by omega)]|rw [ah (by omega)]),rfl⟩
  intro jk
  refine goB 4 ?_ ?_
  ·intro jT
   refine av 11 ?_;intro a H;refine cK ?_;refine (fE H results268 (.cons (bq H rfl) (.cons (bq H rfl) (.cons (bq H rfl) .nil))) ?_).1
   first|(exfalso;omega)|exact H.rt ⟨by simp only [jc];repeat (first|rw [ak (by omega)]|rw [ah (by omega)]),rfl⟩
  intro jT
  refine goB 4 ?_ ?_
  ·intro p26
   refine av 11 ?_;intro a H;refine cK ?_;refine (fE H results268 (.cons (bq H rfl) (.cons (bq H rfl) (.cons (bq H rfl) .nil))) ?_).1
   first|(exfalso;omega)|exact H.rt ⟨by simp only [jc];repeat (first|rw [ak (by omega)]|rw [ah (by omega)]),rfl⟩
  intro p26
  refine goB 4 ?_ ?_
  ·intro p28
   refine av 11 ?_;intro a H;refine cK ?_;refine (fE H results268 (.cons (bq H rfl) (.cons (bq H rfl) (.cons (bq H rfl) .nil))) ?_).1
   first|(exfalso;omega)|exact H.rt ⟨by simp only [jc];repeat (first|rw [ak (by omega)]|rw [ah (by omega)]),rfl⟩
  intro p28
  refine av 9 ?_;intro a H;refine cK ?_;refine (fE H results268 (.cons (bq H rfl) (.cons (bq H rfl) (.cons (bq H rfl) .nil))) ?_).1
  first|(exfalso;omega)|exact H.rt ⟨by simp only [jc];repeat (first|rw [ak (by omega)]|rw [ah (by omega)]),rfl⟩
 intro sF
 refine goB 12 ?_ ?_
 ·intro jk
  refine av 11 ?_;intro a H;refine cK ?_;refine (fE H results268 (.cons (bq H rfl) (.cons (bq H rfl) (.cons (bq H rfl) .nil))) ?_).1
  first|(exfalso;omega)|exact H.rt ⟨by simp only [jc];repeat (first|rw [ak (by omega)]|rw [ah (by omega)]),rfl⟩
 intro jk
 refine goB 4 ?_ ?_
 ·intro jT
  refine av 11 ?_;intro a H;refine cK ?_;refine (fE H results268 (.cons (bq H rfl) (.cons (bq H rfl) (.cons (bq H rfl) .nil))) ?_).1
  first|(exfalso;omega)|exact H.rt ⟨by simp only [jc];repeat (first|rw [ak (by omega)]|rw [ah (by omega)]),rfl⟩
 intro jT
 refine goB 4 ?_ ?_
 ·intro p26
  refine av 11 ?_;intro a H;refine cK ?_;refine (fE H results268 (.cons (bq H rfl) (.cons (bq H rfl) (.cons (bq H rfl) .nil))) ?_).1
  first|(exfalso;omega)|exact H.rt ⟨by simp only [jc];repeat (first|rw [ak (by omega)]|rw [ah (by omega)]),rfl⟩
 intro p26
 refine goB 4 ?_ ?_
 ·intro p28
  refine av 11 ?_;intro a H;refine cK ?_;refine (fE H results268 (.cons (bq H rfl) (.cons (bq H rfl) (.cons (bq H rfl) .nil))) ?_).1
  first|(exfalso;omega)|exact H.rt ⟨by simp only [jc];repeat (first|rw [ak (by omega)]|rw [ah (by omega)]),rfl⟩
 intro p28
 refine av 9 ?_;intro a H;refine cK ?_;refine (fE H results268 (.cons (bq H rfl) (.cons (bq H rfl) (.cons (bq H rfl) .nil))) ?_).1
 first|(exfalso;omega)|exact H.rt ⟨by simp only [jc];repeat (first|rw [ak (by omega)]|rw [ah (by omega)]),rfl⟩
def gH (s:ByteArray) (i:Nat):Int:=if h:i < s.size then (s[i].toNat:Int) else 0
theorem mD {s:ByteArray} {i:Nat} (h:i < s.size):gH s i=(s[i].toNat:Int):=by simp [gH,h]
def qI (s:ByteArray) (at_ n:Nat):(fuel k:Nat)→(low high p:Int)→Int × Nat × Bool
 | 0,k,_,_,p=>(p,k,true)
 | f+1,k,low,high,p =>
  if n≤k then (p,k,true)
  else if s.size≤at_+k∨gH s (at_+k) < low∨high < gH s (at_+k) then (0,k,false)
  else qI s at_ n f (k+1) 128 191 (wN .or .i64 (IntKind.i64.wrap (p*2 ^ 6)) (wN .and .i64 (gH s (at_+k)) 63))
def lI (s:ByteArray) (at_:Nat):Int × Nat × Bool :=
 let b:=gH s at_
 let t:=jc b
 if t.2.2=0 then (0,0,false) else if t.2.2=1 then (b,1,true)
 else qI s at_ t.2.2.toNat 4 1 t.1 t.2.1 (wN .and .i64 b ((127:Int).fdiv (2 ^ t.2.2.toNat)))
theorem WY (n:UInt8):IntKind.i64.wrap (n.toNat:Int)=(n.toNat:Int):=Gx (by omega) (by have:=n.toNat_lt;omega)
theorem ahs (G:GH) (w0:World) (hG:Hold G w0) (s:ByteArray) (i:Nat) (hi:i < s.size) (hs:s.size < 4611686018427387904) :
  Calls prog 249 #[.string s,.int .i64 i] w0 (bB w0 G fun v G'=>v=.tuple #[.int .i64 (lI s i).1,.int .i64 (lI s i).2.1,.bool (lI s i).2.2]∧G=G'):=by
 have hb:=mD hi;obtain ⟨n,hn⟩:∃ n:Nat,(jc (gH s i)).2.2=(n:Int):=⟨(jc (gH s i)).2.2.toNat,by have:=WS (gH s i);omega⟩
 have hn4:n≤4:=by have:=WS (gH s i);omega
 refine eN [(0,_),(1,_)] func249 rfl ntmps249 rfl rfl hG ?_;refine av 8 ?_;intro a H;refine qx _ jB H wn rfl rfl rfl (by first|assumption|omega) rfl ?_;clear H;refine av 1 ?_;intro a H;rw [← hb] at H;refine bJ 3 H ?_;clear H;intro a H;refine s_call ajD H wn rfl (atw _ _ H.ro _) rfl ?_;clear H;rintro v16 _ a w ⟨rfl,rfl⟩ - H;refine bJ 1 H ?_;clear H;intro a H;(iterate 3 refine lQ H wn rfl rfl rfl ?_;clear H;intro a H);refine qb 13 H ?_ ?_ <;> clear H
 ·intro Dm
  refine av 5 ?_;intro a H;refine cK ?_;refine (fE H results249 (.cons (bq H rfl) (.cons (bq H rfl) (.cons (bq H rfl) .nil))) ?_).1;exact H.rt ⟨by simp [lI,Dm],rfl⟩
 intro Dm
 refine goB 4 ?_ ?_
 ·intro BP
  refine av 2 ?_;intro a H;refine BU (gH s i) lq JQ H wn rfl (by rw [hb];exact WY _) rfl ?_;clear H;refine av 4 ?_;intro a H;refine cK ?_;refine (fE H results249 (.cons (bq H rfl) (.cons (bq H rfl) (.cons (bq H rfl) .nil))) ?_).1;exact H.rt ⟨by simp [lI,Dm,BP],rfl⟩
 intro BP
 refine av 3 ?_;intro a H;refine BU (gH s i) lq JQ H wn rfl (by rw [hb];exact WY _) rfl ?_;clear H;refine av 1 ?_;intro a H;refine Qw n H wn rfl rfl (by rw [hn]) (by show n≤64;omega) rfl ?_;clear H;intro a H;refine Qq rfl H wn rfl rfl rfl ?_;clear H;refine av 7 ?_;intro a H;refine eH (ι:=Nat × Int × Int × Int) (Tc:=[(0,_),(1,_),(10,_)]) (Lc:=[]) (fun gh=>[(4,.int .i64 gh.2.2.2),(5,.int .i64 (gh.1:Int)),(8,.int .u8 gh.2.1),(9,.int .u8 gh.2.2.1)]) (fun gh=>[]) (fun gh=>G) (fun gh=>gh.1≤4∧lI s i=qI s i n (5 - gh.1) gh.1 gh.2.1 gh.2.2.1 gh.2.2.2) (fun gh=>5 - gh.1) ((1,_,_,_)) sB ?_ ?_
 ·refine ⟨by omega,?_⟩;simp only [lI,hn];rw [ah (by omega),ah (by omega)];rfl
 clear H;rintro ⟨k,low,high,p⟩ a w hI H;dsimp only at hI H;obtain ⟨hk,hdec⟩:=hI;dsimp only [lca,bK] at H;refine iI 6 H ?_ ?_ <;> clear H
 ·intro p34
  refine mX 12 43 ?_ ?_
  ·intro h43
   try have p43:=dT h43
   refine av 25 ?_;intro a H;refine cK ?_
   have hfin:lI s i=(if n≤k then (p,k,true) else (0,k,false)):=by
    rw [hdec];have e:5 - k=(4 - k)+1:=by omega
    rw [e,qI]
    by_cases hk2:n≤k
    ·rw [ak hk2,ak hk2]
    rw [ah hk2,ah hk2,ak (by first|omega|(rw [mD (by omega)];omega))]
   refine (fE H results249 (.cons (bq H rfl) (.cons (bq H rfl) (.cons (bq H rfl) .nil))) ?_).1;exact H.rt ⟨by rw [hfin];first|rw [ak (by omega)]|rw [ah (by omega)],rfl⟩
  intro h43
  try have p43:=dF h43
  refine av 3 ?_;intro a H;refine MG _ H (wg H rfl rfl h43) rfl rfl rfl (by omega) (by omega) rfl ?_;clear H;intro a H;refine qx _ jB H (wg H rfl rfl h43) rfl rfl rfl (by first|assumption|omega) rfl ?_;clear H;refine mX 4 52 ?_ ?_
  ·intro CK
   try have p52:=dT CK
   refine av 16 ?_;intro a H;refine cK ?_
   have hfin:lI s i=(if n≤k then (p,k,true) else (0,k,false)):=by
    rw [hdec];have e:5 - k=(4 - k)+1:=by omega
    rw [e,qI]
    by_cases hk2:n≤k
    ·rw [ak hk2,ak hk2]
    rw [ah hk2,ah hk2,ak (by first|omega|(rw [mD (by omega)];omega))]
   refine (fE H results249 (.cons (bq H rfl) (.cons (bq H rfl) (.cons (bq H rfl) .nil))) ?_).1;exact H.rt ⟨by rw [hfin];first|rw [ak (by omega)]|rw [ah (by omega)],rfl⟩
  intro CK
  try have p52:=dF CK
  refine av 3 ?_;intro a H;refine MG _ H (wg H rfl rfl CK) rfl rfl rfl (by omega) (by omega) rfl ?_;clear H;intro a H;refine qx _ jB H (wg H rfl rfl CK) rfl rfl rfl (by first|assumption|omega) rfl ?_;clear H;refine goB 4 ?_ ?_
  ·intro p60
   refine av 6 ?_;intro a H;refine cK ?_
   have hfin:lI s i=(if n≤k then (p,k,true) else (0,k,false)):=by
    rw [hdec];have e:5 - k=(4 - k)+1:=by omega
    rw [e,qI]
    by_cases hk2:n≤k
    ·rw [ak hk2,ak hk2]
    rw [ah hk2,ah hk2,ak (by first|omega|(rw [mD (by omega)];omega))]
   refine (fE H results249 (.cons (bq H rfl) (.cons (bq H rfl) (.cons (bq H rfl) .nil))) ?_).1;exact H.rt ⟨by rw [hfin];first|rw [ak (by omega)]|rw [ah (by omega)],rfl⟩
  intro p60
  refine av 3 ?_;intro a H;refine asb _ H wn rfl rfl rfl (by decide) rfl ?_;clear H;refine av 4 ?_;intro a H;refine qx _ jB H wn rfl rfl rfl (by first|assumption|omega) rfl ?_;clear H;intro a H;refine BU (gH s (i+k)) lq JQ H wn rfl (by rw [mD (by omega)];exact WY _) rfl ?_;clear H;intro a H;(iterate 2 refine Qq rfl H wn rfl rfl rfl ?_;clear H;intro a H);refine bJ 10 H ?_;clear H;intro a H;refine aC ?_;refine dx ((k+1,128,191,wN .or .i64 (IntKind.i64.wrap (p*2 ^ 6)) (wN .and .i64 (gH s (i+k)) 63))) sB ?_
  (try dsimp only);refine ⟨by omega,?_⟩
  have e:5 - k=(5 - (k+1))+1:=by omega
  rw [hdec,e,qI,ah (by omega),mD (by omega),ah (by omega)]
 intro p34
 refine av 8 ?_;intro a H;refine cK ?_
 have hfin:lI s i=(if n≤k then (p,k,true) else (0,k,false)):=by
  rw [hdec];have e:5 - k=(4 - k)+1:=by omega
  rw [e,qI]
  by_cases hk2:n≤k
  ·rw [ak hk2,ak hk2]
  rw [ah hk2,ah hk2,ak (by first|omega|(rw [mD (by omega)];omega))]
 refine (fE H results249 (.cons (bq H rfl) (.cons (bq H rfl) (.cons (bq H rfl) .nil))) ?_).1;exact H.rt ⟨by rw [hfin];first|rw [ak (by omega)]|rw [ah (by omega)],rfl⟩
theorem YT (s:ByteArray) (at_ n:Nat):∀ (f k:Nat) (low high p:Int),n≤k+f→k≤n→k≤(qI s at_ n f k low high p).2.1∧(qI s at_ n f k low high p).2.1≤n∧((qI s at_ n f k low high p).2.2=true→at_+k≤s.size→at_+(qI s at_ n f k low high p).2.1≤s.size)
 | 0,k,low,high,p,h1,h2=>by simp only [qI];omega
 | f+1,k,low,high,p,h1,h2=>by
  unfold qI
  split
  ·simp only [];omega
  split
  ·simp only [];omega
  have ih:=YT s at_ n f (k+1) 128 191 (wN .or .i64 (IntKind.i64.wrap (p*2 ^ 6)) (wN .and .i64 (gH s (at_+k)) 63)) (by omega) (by omega);refine ⟨by have:=ih.1;omega,ih.2.1,fun h3 h4=>ih.2.2 h3 (by omega)⟩
theorem Oa (s:ByteArray) (i:Nat) (hi:i < s.size):(lI s i).2.1≤4∧((lI s i).2.2=true→1≤(lI s i).2.1∧i+(lI s i).2.1≤s.size):=by
 have ht:=WS (gH s i)
 unfold lI
 simp only []
 split
 ·simp
 split
 ·simp;omega
 have:=YT s i (jc (gH s i)).2.2.toNat 4 1 (jc (gH s i)).1 (jc (gH s i)).2.1 (wN .and .i64 (gH s i) ((127:Int).fdiv (2 ^ (jc (gH s i)).2.2.toNat))) (by omega) (by omega);refine ⟨by omega,fun h=>⟨by omega,this.2.2 h (by omega)⟩⟩
def tY (s:ByteArray) (i:Nat):Int :=
 if h:i < s.size then (if h2:(lI s i).2.2=true then tY s (i+(lI s i).2.1) else i) else -1
 termination_by s.size - i
 decreasing_by have:=(Oa s i h).2 h2;omega
theorem alk (G:GH) (w0:World) (hG:Hold G w0) (s:ByteArray) (hs:s.size < 4611686018427387904) :
  Calls prog 225 #[.string s] w0 (bB w0 G fun v G'=>v=.int .i64 (tY s 0)∧G=G'):=by
 refine eN [(0,_)] func225 rfl ntmps225 rfl rfl hG ?_;refine av 8 ?_;intro a H;refine eH (ι:=Nat) (Tc:=[(0,_)]) (Lc:=[]) (fun gh=>[(3,.int .i64 (gh:Int))]) (fun gh=>[]) (fun gh=>G) (fun gh=>gh≤s.size∧tY s 0=tY s gh) (fun gh=>s.size - gh) (0) sB ?_ ?_
 ·exact ⟨by omega,rfl⟩
 clear H;intro i a w hI H;obtain ⟨hk,hf⟩:=hI;dsimp only [lca,bK] at H;refine iI 7 H ?_ ?_ <;> clear H
 ·intro iU
  refine av 5 ?_;intro a H;refine s_call ajs H wn rfl (ahs _ _ H.ro s i (by omega) hs) rfl ?_;clear H;rintro v14 _ a w ⟨rfl,rfl⟩ - H;have hd:=Oa s i (by omega);refine bJ 1 H ?_;clear H;intro a H;(iterate 3 refine lQ H wn rfl rfl rfl ?_;clear H;intro a H);refine lW 9 H ?_ ?_ <;> clear H
  ·intro h19
   try have uq:=dT h19
   refine bP 4 ?_;exact ⟨by rw [hf,tY,dif_pos (by omega),dif_neg (by simpa using h19)],rfl⟩
  intro h19
  try have uq:=dF h19
  refine av 6 ?_;intro a H;refine aC ?_;refine VI ((i+(lI s i).2.1)) sB ?_ ?_
  ·have h1:(lI s i).2.2=true:=by simpa using h19
   have h2:=hd.2 h1;refine ⟨by omega,?_⟩;rw [hf,tY,dif_pos (by omega),dif_pos h1]
  have h1:(lI s i).2.2=true:=by simpa using h19
  have h2:=hd.2 h1
  omega
 intro iU
 refine bP 4 ?_;exact ⟨by rw [hf,tY,dif_neg (by omega)],rfl⟩
def rM (s:ByteArray):Bool:=decide (tY s 0 < 0)
theorem MX (G:GH) (w0:World) (hG:Hold G w0) (s:ByteArray) (hs:s.size < 4611686018427387904) :
  Calls prog 193 #[.string s] w0 (bB w0 G fun v G'=>v=.bool (rM s)∧G=G'):=by
 refine eN [(0,_)] func193 rfl ntmps193 rfl rfl hG ?_;refine av 5 ?_;intro a H;refine s_call aji H wn rfl (alk _ _ H.ro s hs) rfl ?_;clear H;rintro v4 _ a w ⟨rfl,rfl⟩ - H;refine kJ 3 H ?_;exact ⟨rfl,rfl⟩
def qH (s:ByteArray) (i:Nat):Nat :=
 if i < s.size then (if wN .and .u8 (gH s i) 192=128 then 0 else 1)+qH s (i+1) else 0
 termination_by s.size - i
theorem Yw (s:ByteArray):∀ (n i:Nat),s.size - i=n→qH s i≤n
 | 0,i,h=>by rw [qH,ah (by omega)];exact bR _
 | n+1,i,h=>by
  have ih:=Yw s n (i+1) (by omega);rw [qH,ak (by omega)]
  split <;> omega
def tT (s:ByteArray):Nat:=if rM s then qH s 0 else 0
def JR (s:ByteArray):Int:=if rM s then 0 else 12
theorem Yx (s:ByteArray):tT s≤s.size:=by unfold tT;have:=Yw s s.size 0 (by omega);split <;> omega
theorem ahp (G:GH) (w0:World) (hG:Hold G w0) (s:ByteArray) (hs:s.size < 4611686018427387904) :
  Calls prog 197 #[.string s] w0 (bB w0 G fun v G'=>v=.tuple #[vi (tT s),vi (JR s)]∧G=G'):=by
 refine eN [(0,_)] func197 rfl ntmps197 rfl rfl hG ?_;refine av 7 ?_;intro a H;refine s_call KI H wn rfl (MX _ _ H.ro s hs) rfl ?_;clear H;rintro v6 _ a w ⟨rfl,rfl⟩ - H;refine lW 2 H ?_ ?_ <;> clear H
 ·intro h7
  refine av 4 ?_;intro a H;refine cK ?_;refine (fE H results197 (.cons (bq H rfl) (.cons (bq H rfl) .nil)) ?_).1;exact H.rt ⟨by simp [tT,JR,show rM s=false by simpa using h7],rfl⟩
 intro h7
 try have p7:=dF h7
 refine av 8 ?_;intro a H;refine eH (ι:=Nat × Nat) (Tc:=[(0,_),(9,_)]) (Lc:=[]) (fun gh=>[(2,vi gh.2),(10,vi gh.1)]) (fun gh=>[]) (fun gh=>G) (fun gh=>gh.1≤s.size∧gh.2≤gh.1∧gh.2+qH s gh.1=tT s) (fun gh=>s.size - gh.1) ((0,0)) sB ?_ ?_
 ·exact ⟨by omega,by omega,by simp [tT,show rM s=true by simpa using h7]⟩
 clear H;rintro ⟨i,n⟩ a w hI H;dsimp only at hI H;obtain ⟨hk,hn,hf⟩:=hI;dsimp only [lca,bK] at H;refine iI 4 H ?_ ?_ <;> clear H
 ·intro rH
  refine av 10 ?_;intro a H;refine qx _ jB H wn rfl rfl rfl (by first|assumption|omega) rfl ?_;clear H;intro a H;refine Qq rfl H wn rfl rfl rfl ?_;clear H;refine goB 2 ?_ ?_
  ·intro jZ
   refine av 8 ?_;intro a H;refine aC ?_;refine dx ((i+1,n+1)) sB ?_
   (try dsimp only);rw [← mD (by omega)] at jZ;rw [qH,ak (by omega),ah jZ] at hf;exact ⟨by omega,by omega,by omega⟩
  intro jZ
  refine av 4 ?_;intro a H;refine aC ?_;refine dx ((i+1,n)) sB ?_
  (try dsimp only);rw [← mD (by omega),nT] at jZ;rw [qH,ak (by omega),ak jZ] at hf;exact ⟨by omega,by omega,by omega⟩
 intro rH
 refine av 6 ?_;intro a H;refine cK ?_;refine (fE H results197 (.cons (bq H rfl) (.cons (bq H rfl) .nil)) ?_).1;exact H.rt ⟨by rw [qH,ah (by omega),xH] at hf;rw [hf];simp [JR,show rM s=true by simpa using h7],rfl⟩
theorem hmx:prog.follows .mixedOrders=true:=by kernel_rfl
instance vP:dR prog 68 0 0:=⟨by kernel_rfl⟩
instance aT:Ty prog 3 1 8 [.int .i64 0] false:=⟨by kernel_rfl,by kernel_rfl⟩
instance Ei:dR prog 68 3 3:=⟨by kernel_rfl⟩
instance kR:Ty prog 9 1 16 [.string ⟨#[]⟩] false:=⟨by kernel_rfl,by kernel_rfl⟩
theorem aiU:∀ args w,(callFunc 197 args).run prog w=.ok (.enter 197 args) w:=enters func197 rfl (by kernel_rfl)
theorem lT:prog.underlying 22=some (.slice 68):=by kernel_rfl
instance:lD prog 22 (.slice 68):=⟨lT⟩
instance gB:Ty prog 68 11 176 [.int .i64 0,.int .i64 0,.int .i64 0,.string ⟨#[]⟩,.slice none 0 0,.int .i64 0,.int .i64 0,.slice none 0 0,.slice none 0 0,.slice none 0 0,.slice none 0 0] true:=⟨by kernel_rfl,by kernel_rfl⟩
theorem gW:prog.underlying 23=some (.slice 187):=by kernel_rfl
instance:lD prog 23 (.slice 187):=⟨gW⟩
instance gL:Ty prog 187 2 16 [.int .i64 0,.int .i64 0] true:=⟨by kernel_rfl,by kernel_rfl⟩
theorem uD:prog.underlying 24=some (.slice 159):=by kernel_rfl
instance:lD prog 24 (.slice 159):=⟨uD⟩
instance oG:Ty prog 159 2 16 [.int .i64 0,.int .i64 0] true:=⟨by kernel_rfl,by kernel_rfl⟩
theorem nP:prog.underlying 25=some (.slice 161):=by kernel_rfl
instance:lD prog 25 (.slice 161):=⟨nP⟩
instance jy:Ty prog 161 4 32 [.int .i64 0,.int .i64 0,.int .i64 0,.bool false] true:=⟨by kernel_rfl,by kernel_rfl⟩
instance dB:Ty prog 29 5 88 [.slice none 0 0,.int .i64 0,.int .i64 0,.slice none 0 0,.slice none 0 0] true:=⟨by kernel_rfl,by kernel_rfl⟩
instance FE:dR prog 29 0 0:=⟨by kernel_rfl⟩
instance Ar:Ty prog 23 1 24 [.slice none 0 0] false:=⟨by kernel_rfl,by kernel_rfl⟩
theorem Od:∀ args w,(callFunc 168 args).run prog w=.ok (.enter 168 args) w:=enters func168 rfl (by kernel_rfl)
instance Bp:dR prog 29 1 1:=⟨by kernel_rfl⟩
instance FD:dR prog 27 2 2:=⟨by kernel_rfl⟩
instance Ce:Ty prog 24 1 24 [.slice none 0 0] false:=⟨by kernel_rfl,by kernel_rfl⟩
theorem aiA:∀ args w,(callFunc 169 args).run prog w=.ok (.enter 169 args) w:=enters func169 rfl (by kernel_rfl)
instance KN:dR prog 27 3 3:=⟨by kernel_rfl⟩
instance JM:Ty prog 25 1 24 [.slice none 0 0] false:=⟨by kernel_rfl,by kernel_rfl⟩
theorem aiB:∀ args w,(callFunc 170 args).run prog w=.ok (.enter 170 args) w:=enters func170 rfl (by kernel_rfl)
theorem tq:prog.underlying 66=some (.slice 74):=by kernel_rfl
instance:lD prog 66 (.slice 74):=⟨tq⟩
instance jA:Ty prog 74 6 112 [.slice none 0 0,.int .i64 0,.int .i64 0,.slice none 0 0,.slice none 0 0,.slice none 0 0] true:=⟨by kernel_rfl,by kernel_rfl⟩
theorem vB:prog.underlying 72=some (.slice 76):=by kernel_rfl
instance:lD prog 72 (.slice 76):=⟨vB⟩
instance jL:Ty prog 76 7 120 [.int .i64 0,.slice none 0 0,.int .i64 0,.int .i64 0,.slice none 0 0,.slice none 0 0,.slice none 0 0] true:=⟨by kernel_rfl,by kernel_rfl⟩
instance Tn:dR prog 76 0 0:=⟨by kernel_rfl⟩
instance Ou:dR prog 76 1 1:=⟨by kernel_rfl⟩
theorem FB:∀ args w,(callFunc 108 args).run prog w=.ok (.enter 108 args) w:=enters func108 rfl (by kernel_rfl)
instance Ov:dR prog 76 2 6:=⟨by kernel_rfl⟩
instance lS:Ty prog 22 1 24 [.slice none 0 0] false:=⟨by kernel_rfl,by kernel_rfl⟩
theorem SX:∀ args w,(callFunc 80 args).run prog w=.ok (.enter 80 args) w:=enters func80 rfl (by kernel_rfl)
theorem QA:qE prog 76 [(0,1),(1,5),(6,1)] [.int .i64 0,.slice none 0 0,.int .i64 0,.int .i64 0,.slice none 0 0,.slice none 0 0,.slice none 0 0]:=⟨by kernel_rfl,by kernel_rfl⟩
instance Ot:dR prog 74 0 0:=⟨by kernel_rfl⟩
instance Ej:dR prog 74 1 5:=⟨by kernel_rfl⟩
instance DF:Ty prog 72 1 24 [.slice none 0 0] false:=⟨by kernel_rfl,by kernel_rfl⟩
theorem Zj:∀ args w,(callFunc 172 args).run prog w=.ok (.enter 172 args) w:=enters func172 rfl (by kernel_rfl)
theorem Qz:qE prog 74 [(0,5),(5,1)] [.slice none 0 0,.int .i64 0,.int .i64 0,.slice none 0 0,.slice none 0 0,.slice none 0 0]:=⟨by kernel_rfl,by kernel_rfl⟩
instance Bt:dR prog 68 4 4:=⟨by kernel_rfl⟩
instance IK:dR prog 68 5 9:=⟨by kernel_rfl⟩
instance FH:dR prog 68 6 10:=⟨by kernel_rfl⟩
instance DC:Ty prog 66 1 24 [.slice none 0 0] false:=⟨by kernel_rfl,by kernel_rfl⟩
theorem Zb:∀ args w,(callFunc 110 args).run prog w=.ok (.enter 110 args) w:=enters func110 rfl (by kernel_rfl)
theorem Ze:∀ args w,(callFunc 140 args).run prog w=.ok (.enter 140 args) w:=enters func140 rfl (by kernel_rfl)
theorem aiW:∀ args w,(callFunc 203 args).run prog w=.ok (.enter 203 args) w:=enters func203 rfl (by kernel_rfl)
theorem aik:∀ args w,(callFunc 142 args).run prog w=.ok (.enter 142 args) w:=enters func142 rfl (by kernel_rfl)
theorem aij:∀ args w,(callFunc 141 args).run prog w=.ok (.enter 141 args) w:=enters func141 rfl (by kernel_rfl)
def jC (x:ay):Nat:=if x.kind=1 then tT x.text else 1
def MW (x:ay):Int:=if x.kind=1 then JR x.text else 0
def Oc (l:List ay):Bool:=l.all fun x=>decide (MW x=0)
def Hg:List ay→Nat
 | []=>0
 | x :: l=>jC x+Hg l
def EI (l:List ay):Int:=if Oc l then Hg l else 0
def oh:List ay→Nat
 | []=>0
 | x :: l=>x.text.size+1+oh l
theorem Hl (l m:List ay):oh (l++m)=oh l+oh m:=by
 induction l with
 | nil=>simp [oh]
 | cons x l ih=>simp [oh,ih];omega
theorem aep (l:List ay) (k:Nat):oh (l.take k)≤oh l:=by
 have:=Hl (l.take k) (l.drop k);rw [List.take_append_drop] at this;omega
theorem FJ {G:GH} {l:List ay} {A:Option Addr} {k:Nat} (hk:k < l.length) (hg:∀ k r,(l.map ay.dat)[k]?=some r→∃ b o cs,A=some ⟨b,o,none⟩∧cs.length=11∧(∀ j u,cs[j]?=some u→aH G b (o+k*11+j)=some u)∧aV G r cs) :
  ∃ b o pA pn pc dA dn dc yA yn yc fA fn fc rA rn rc,A=some ⟨b,o,none⟩∧(∀ j u,[vi l[k].kind,vi l[k].code,vi l[k].id,.string l[k].text,.slice pA pn pc,vi l[k].head.marks.ins,vi l[k].head.marks.move,.slice dA dn dc,.slice yA yn yc,.slice fA fn fc,.slice rA rn rc][j]?=some u→aH G b (o+k*11+j)=some u) ∧
   iA G l[k].head (.slice pA pn pc) (.slice dA dn dc) (.slice yA yn yc)∧au G (.sl 11 (l[k].flow.map ay.dat)) (.slice fA fn fc)∧au G (.sl 6 (l[k].rows.map aU.dat)) (.slice rA rn rc):=by
 obtain ⟨b,o,cs,h1,h2,h3,h4⟩:=hg k l[k].dat (by simp [hk]);obtain ⟨pA,pn,pc,dA,dn,dc,yA,yn,yc,fA,fn,fc,rA,rn,rc,rfl,h5,h6,h7⟩:=h4.item;exact ⟨b,o,pA,pn,pc,dA,dn,dc,yA,yn,yc,fA,fn,fc,rA,rn,rc,h1,h3,h5,h6,h7⟩
theorem VG:∀ l:List ay,l.length≤oh l
 | []=>bR _
 | x :: l=>by have:=VG l;simp only [kU,oh];omega
theorem aeo:∀ l:List ay,oh l≤cu l
 | []=>bR _
 | x :: l=>by
  have:=aeo l;have h2:=zy x
  simp only [oh,cu,fG,eG] at *;omega
theorem R4 (G:GH) (w0:World) (hG:Hold G w0) (rows:List (List Dat)) (A:Option Addr) (n c:Nat) (hv:au G (.sl 2 rows) (.slice A n c)) (hz:rows.length≤4294967296) :
  Calls prog 168 #[.slice A n c] w0 (bB w0 G fun v G'=>au G' (.sl 2 rows) v):=by
 obtain ⟨hn,hc1,hc2,hnil,hx⟩:=hv.cells;refine eN [(0,_)] func168 rfl ntmps168 rfl rfl hG ?_;intro a H;refine kP H (SR fun _ K1=>aF K1 rfl (SQ fun _ K2=>SR fun _ K3=>Rm rfl ?_));clear H K1;intro a H;refine BX gW H wn rfl rfl ?_;clear H;intro a H;refine K3 _ _ ?_;clear K3;refine mW H rfl ?_ ?_
 ·intro h4
  exact kP H (SR fun _ K4=>aF K4 rfl (LR results168 rfl fun H=>H.rt (by rw [hnil (by simpa using h4)];exact au.mg rfl (by simp [maxLen]))))
 intro h4
 try have p4:=dF h4
 refine iw ?_;refine K2 _ _ ?_;clear K2;refine eY (fun _ K5=>?_)
 have hA:¬ A=none:=by intro e;rw [e] at h4;cases h4
 refine tO ?_;refine BS gW gL H wn rfl ?_;clear H;intro b5 a w hb5 H;refine kH H (Rm rfl ?_);clear H;intro a H
 by_cases hr0:rows=[]
 ·have hn0:n=0:=by rw [hn,hr0];rfl
  subst hn0;refine BR gW gL H wn rfl rfl (bR _) rfl ?_;clear H;intro a H;exact kH H (gY K5 rfl (LR results168 rfl fun H=>H.rt (by rw [hr0];exact au.mg rfl (by simp [maxLen]))))
 obtain ⟨b,o,xs,rfl,hxl,hxc,hx1,dQ⟩:=hx hr0;refine mI (Li:=[]) (Lo:=[_]) (news:=xs) gW gL rfl rfl H wn rfl rfl bX.empty hxl (fun j u hj=>H.hp.aH (hxc j u hj)) hx1 (by omega) (by omega) rfl ?_;clear H;intro v7 Lo a w hrow H;obtain ⟨G',hm,hrep,H⟩:=H.nO hrow (rows:=rows) (by omega) (by simpa using dQ)
 try clear hG
 obtain ⟨G2,hG2⟩:∃ g,g=G':=⟨_,rfl⟩;subst hG2;exact kH H (gY K5 rfl (LR results168 rfl fun H=>H.rt hrep))
theorem agQ (G:GH) (w0:World) (hG:Hold G w0) (rows:List (List Dat)) (A:Option Addr) (n c:Nat) (hv:au G (.sl 2 rows) (.slice A n c)) (hz:rows.length≤4294967296) :
  Calls prog 169 #[.slice A n c] w0 (bB w0 G fun v G'=>au G' (.sl 2 rows) v):=by
 obtain ⟨hn,hc1,hc2,hnil,hx⟩:=hv.cells;refine eN [(0,_)] func169 rfl ntmps169 rfl rfl hG ?_;intro a H;refine kP H (SR fun _ K1=>aF K1 rfl (SQ fun _ K2=>SR fun _ K3=>Rm rfl ?_));clear H K1;intro a H;refine BX uD H wn rfl rfl ?_;clear H;intro a H;refine K3 _ _ ?_;clear K3;refine mW H rfl ?_ ?_
 ·intro h4
  exact kP H (SR fun _ K4=>aF K4 rfl (LR results169 rfl fun H=>H.rt (by rw [hnil (by simpa using h4)];exact au.mg rfl (by simp [maxLen]))))
 intro h4
 try have p4:=dF h4
 refine iw ?_;refine K2 _ _ ?_;clear K2;refine eY (fun _ K5=>?_)
 have hA:¬ A=none:=by intro e;rw [e] at h4;cases h4
 refine tO ?_;refine BS uD oG H wn rfl ?_;clear H;intro b5 a w hb5 H;refine kH H (Rm rfl ?_);clear H;intro a H
 by_cases hr0:rows=[]
 ·have hn0:n=0:=by rw [hn,hr0];rfl
  subst hn0;refine BR uD oG H wn rfl rfl (bR _) rfl ?_;clear H;intro a H;exact kH H (gY K5 rfl (LR results169 rfl fun H=>H.rt (by rw [hr0];exact au.mg rfl (by simp [maxLen]))))
 obtain ⟨b,o,xs,rfl,hxl,hxc,hx1,dQ⟩:=hx hr0;refine mI (Li:=[]) (Lo:=[_]) (news:=xs) uD oG rfl rfl H wn rfl rfl bX.empty hxl (fun j u hj=>H.hp.aH (hxc j u hj)) hx1 (by omega) (by omega) rfl ?_;clear H;intro v7 Lo a w hrow H;obtain ⟨G',hm,hrep,H⟩:=H.nO hrow (rows:=rows) (by omega) (by simpa using dQ)
 try clear hG
 obtain ⟨G2,hG2⟩:∃ g,g=G':=⟨_,rfl⟩;subst hG2;exact kH H (gY K5 rfl (LR results169 rfl fun H=>H.rt hrep))
theorem agV (G:GH) (w0:World) (hG:Hold G w0) (rows:List (List Dat)) (A:Option Addr) (n c:Nat) (hv:au G (.sl 4 rows) (.slice A n c)) (hz:rows.length≤4294967296) :
  Calls prog 170 #[.slice A n c] w0 (bB w0 G fun v G'=>au G' (.sl 4 rows) v):=by
 obtain ⟨hn,hc1,hc2,hnil,hx⟩:=hv.cells;refine eN [(0,_)] func170 rfl ntmps170 rfl rfl hG ?_;intro a H;refine kP H (SR fun _ K1=>aF K1 rfl (SQ fun _ K2=>SR fun _ K3=>Rm rfl ?_));clear H K1;intro a H;refine BX nP H wn rfl rfl ?_;clear H;intro a H;refine K3 _ _ ?_;clear K3;refine mW H rfl ?_ ?_
 ·intro h4
  exact kP H (SR fun _ K4=>aF K4 rfl (LR results170 rfl fun H=>H.rt (by rw [hnil (by simpa using h4)];exact au.mg rfl (by simp [maxLen]))))
 intro h4
 try have p4:=dF h4
 refine iw ?_;refine K2 _ _ ?_;clear K2;refine eY (fun _ K5=>?_)
 have hA:¬ A=none:=by intro e;rw [e] at h4;cases h4
 refine tO ?_;refine BS nP jy H wn rfl ?_;clear H;intro b5 a w hb5 H;refine kH H (Rm rfl ?_);clear H;intro a H
 by_cases hr0:rows=[]
 ·have hn0:n=0:=by rw [hn,hr0];rfl
  subst hn0;refine BR nP jy H wn rfl rfl (bR _) rfl ?_;clear H;intro a H;exact kH H (gY K5 rfl (LR results170 rfl fun H=>H.rt (by rw [hr0];exact au.mg rfl (by simp [maxLen]))))
 obtain ⟨b,o,xs,rfl,hxl,hxc,hx1,dQ⟩:=hx hr0;refine mI (Li:=[]) (Lo:=[_]) (news:=xs) nP jy rfl rfl H wn rfl rfl bX.empty hxl (fun j u hj=>H.hp.aH (hxc j u hj)) hx1 (by omega) (by omega) rfl ?_;clear H;intro v7 Lo a w hrow H;obtain ⟨G',hm,hrep,H⟩:=H.nO hrow (rows:=rows) (by omega) (by simpa using dQ)
 try clear hG
 obtain ⟨G2,hG2⟩:∃ g,g=G':=⟨_,rfl⟩;subst hG2;exact kH H (gY K5 rfl (LR results170 rfl fun H=>H.rt hrep))
theorem Fy (G:GH) (w0:World) (hG:Hold G w0) (h:dP) (pA dA yA:Option Addr) (pn pc dn dc yn yc:Nat) (hv:iA G h (.slice pA pn pc) (.slice dA dn dc) (.slice yA yn yc)) (hz:mh h≤4294967296) :
  Calls prog 108 #[.agg #[.slice pA pn pc,vi h.marks.ins,vi h.marks.move,.slice dA dn dc,.slice yA yn yc]] w0 (bB w0 G fun v G'=>∃ p d l,v=.agg #[p,vi h.marks.ins,vi h.marks.move,d,l]∧iA G' h p d l):=by
 have he:=E9 h;have h1:=qQ (h.props.map aS.dat);have h2:=qQ (h.marks.bH.map fO.dat);have h3:=qQ (h.marks.layers.map cB.dat);refine eN [(0,_)] func108 rfl ntmps108 rfl rfl hG ?_;intro a H;refine fK (fun _ K1=>?_);refine dW (cs:=[_,_,_,_,_]) H wn rfl rfl rfl ?_;clear H;intro b1 a w hb1 H;refine dJ dB H wn rfl ?_;clear H;intro b2 a w hb2 H;refine K1 _ _ ?_;clear K1;refine kP H (SR fun _ K2=>dU FE Ar 1 rfl rfl ?_);clear H;intro a H;refine s_call Od H wn rfl (R4 _ _ H.ro _ _ _ _ hv.props (by omega)) rfl ?_;clear H;rintro v5 G5 a w rD zZ H;obtain ⟨A5,n5,c5,rfl⟩:=rD.form;refine kH H (Rf FE rfl ?_);clear H;intro a H;refine aY Ar 1 (vs:=[_]) _ H wn rfl rfl rfl rfl rfl rfl rfl rfl ?_;clear H;intro w H;dsimp only [List.set,setRow] at H;refine K2 _ _ ?_;clear K2;refine eY (fun _ K3=>?_);obtain ⟨hvp,hvd,hvy⟩:=hv.mono zZ;clear hv
 have qL:AY (fun (bQ:Nat) (v:aj) (G:GH)=>match bQ with|0=>v=(aM b1 1)|1=>v=(aM b1 3)|2=>v=.slice dA dn dc|3=>au G (.sl 2 (h.marks.bH.map fO.dat)) v|4=>v=(aM b1 1)|5=>v=(aM b1 4)|6=>v=.slice yA yn yc|7=>au G (.sl 4 (h.marks.layers.map cB.dat)) v|8=>v=(aM b1 1)|9=>v=(aM b1 3)|_=>True):=by intro bQ v G G' hm h;(iterate 14 (rcases bQ with _|bQ;(first|exact h|exact au.mono hm h)));exact trivial
 refine zK (hmx) [[],[0],[0,1],[0,1,2],[],[4],[4,5],(ra 0 7),(ra 0 7),(ra 0 7++[8]),(ra 0 10),(ra 0 11),(ra 0 12),(ra 0 13)] (ra 10 4) (by kernel_rfl) (by kernel_rfl) _ qL H ?_ ?_
 ·clear H;refine aD ?_ ?_ ?_ ?_ (aD ?_ ?_ ?_ ?_ (aD ?_ ?_ (bS rfl) (bS rfl) (bM (bS rfl) (bM (bS rfl) cO))))
  ·refine cZ [] rfl trivial (by kernel_rfl) qL rfl rfl ?_;intro aP a w G1 hG HT H fin;exact kH H (Rf Bp rfl fun _ H=>fin H iJ rfl)
  ·refine cZ [(0,7,_)] rfl ⟨fun _ _ h=>h,aL⟩ (by kernel_rfl) qL rfl rfl ?_;intro aP a w G1 hG HT H fin;exact kH H (Rf FD rfl fun _ H=>fin H iJ rfl)
  ·refine cZ [(1,8,_)] rfl ⟨fun _ _ h=>h,aL⟩ (by kernel_rfl) qL rfl rfl ?_;intro aP a w G1 hG HT H fin;exact kH H (Ro Ce 1 rfl fun _ H=>fin H iJ rfl)
  ·refine cZ [(2,9,_)] rfl ⟨fun _ _ h=>h,aL⟩ (by kernel_rfl) qL rfl rfl ?_;intro aP a w G1 hG HT H fin;refine s_call aiA H wn rfl (agQ _ _ H.ro _ _ _ _ (hvd.mono hG) (by omega)) rfl ?_;clear H;rintro v10 zD a w uj ru H;exact fin H ru (uj)
  ·refine cZ [] rfl trivial (by kernel_rfl) qL rfl rfl ?_;intro aP a w G1 hG HT H fin;exact kH H (Rf Bp rfl fun _ H=>fin H iJ rfl)
  ·refine cZ [(4,11,_)] rfl ⟨fun _ _ h=>h,aL⟩ (by kernel_rfl) qL rfl rfl ?_;intro aP a w G1 hG HT H fin;exact kH H (Rf KN rfl fun _ H=>fin H iJ rfl)
  ·refine cZ [(5,12,_)] rfl ⟨fun _ _ h=>h,aL⟩ (by kernel_rfl) qL rfl rfl ?_;intro aP a w G1 hG HT H fin;exact kH H (Ro JM 1 rfl fun _ H=>fin H iJ rfl)
  ·refine cZ [(6,13,_)] rfl ⟨fun _ _ h=>h,aL⟩ (by kernel_rfl) qL rfl rfl ?_;intro aP a w G1 hG HT H fin;refine s_call aiB H wn rfl (agV _ _ H.ro _ _ _ _ (hvy.mono hG) (by omega)) rfl ?_;clear H;rintro v14 AJ a w rY xP H;exact fin H xP (rY)
  ·refine cZ [] rfl trivial (by kernel_rfl) qL rfl rfl ?_;intro aP a w G1 hG HT H fin;exact kH H (Rf Bp rfl fun _ H=>fin H iJ rfl)
  refine cZ [(8,15,_)] rfl ⟨fun _ _ h=>h,aL⟩ (by kernel_rfl) qL rfl rfl ?_;intro aP a w G1 hG HT H fin;exact kH H (Rf FD rfl fun _ H=>fin H iJ rfl)
 clear H;intro a w G CO H hv;obtain ⟨u10,L9,uj⟩:=hv 3 10 (by decide) rfl;(try dsimp only at uj);obtain ⟨Xn,n10,c10,rfl⟩:=uj.form;have H:=H.gI L9;obtain ⟨u14,Ma,rY⟩:=hv 7 14 (by decide) rfl;(try dsimp only at rY);obtain ⟨QV,n14,c14,rfl⟩:=rY.form;have H:=H.gI Ma;have H:=H.aN (hv 9 16 rfl rfl) rfl;clear hv;refine aY Ce 1 (vs:=[_]) _ H wn rfl rfl rfl rfl rfl rfl rfl rfl ?_;clear H;intro w H;dsimp only [List.set,setRow] at H;refine kH H (Rf Bp rfl (Rf KN rfl ?_));clear H;intro a H;refine aY JM 1 (vs:=[_]) _ H wn rfl rfl rfl rfl rfl rfl rfl rfl ?_;clear H;intro w H;dsimp only [List.set,setRow] at H;refine aC ⟨rfl,?_⟩;refine K3 _ _ ?_;clear K3;refine fK (fun _ K4=>?_);refine aR dB (cs:=[_,_,_,_,_]) H wn rfl rfl (H.hp.bT 1 rfl rfl) rfl ?_;clear H;intro a H;refine aY dB 0 (vs:=[_,_,_,_,_]) _ H wn rfl rfl rfl rfl rfl rfl rfl rfl ?_;clear H;intro w H;dsimp only [List.set,setRow] at H;refine K4 _ _ ?_;clear K4;refine cK ?_;refine (leave1 H results108 (.cons (nH dB (cs:=[_,_,_,_,_]) H rfl rfl (H.hp.bT 0 rfl rfl)) .nil) ?_).1;exact H.rt ⟨_,_,_,rfl,rD.mono CO,uj,rY⟩
theorem yh {G:GH} {w:World} (h:Hold G w):gG G [] w:=⟨h,fun _ h=>(by cases h),fun _ h=>(by cases h),List.Pairwise.nil⟩
theorem Il {P:Program} {f:FuncId} {args:Array aj} {w0:World} {G:GH} {e sz n:Nat} {rows:List (List Dat)} (hG:Hold G w0) (h:Calls P f args w0 (fP w0 G [] fun u G' L'=>∃ xs,bX e sz u n xs L'∧bV G' sz rows xs)) (hl:rows.length=n) :
  Calls P f args w0 (bB w0 G fun u G'=>au G' (.sl sz rows) u):=by
 intro cs;obtain ⟨e1,w',fr,⟨v,G',L',rfl,hch,xs,hrow,dQ⟩,h2,h3,h4⟩:=h cs;have hp0:Hp w0 (fun k=>k < w0.heap.size) G G ([]++[]) w0:=⟨rfl,rfl,rfl,bR _,fun _ h=>h,fun _ _=>rfl,hG,fun _ _ h=>h,fun _ _ h=>.inl h,fun _ h=>(by cases h),fun _ h=>(by cases h),fun _ h=>(by cases h),List.Pairwise.nil⟩;have hp1:=hp0.change hch;rw [oL] at hp1;refine ⟨_,w',fr,?_,h2,h3,h4⟩
 rcases hrow.2 with ⟨rfl,h5,rfl⟩|⟨b,cap,cur,rfl,rfl,h5,h6,h7,h8⟩
 ·refine hp1.ret ?_;have:rows=[]:=List.eq_nil_of_length_eq_zero (by omega);subst this
  simp only [au]
  exact ⟨none,0,by simp,by simp,by simp [maxLen],fun h=>absurd rfl h⟩
 have hn:=hp1.uy (b,.cells cur e (0,0)) (by simp);exact (hp1.giveUp 0 rfl).ret (au.fu (GH.Ig G' b _) hl h5 h6 h8 (dQ.mono fun k o h=>GH.Ie G' hn k o h))
def Cj (fv:aj) (w0:World) (G:GH) (d d':List Dat):Prop:=∀ (G1:GH) (w1:World) (cs:List aj),(∀ b o,G b=some o→G1 b=some o)→Hold G1 w1→aV G1 d cs →
 rO prog fv [.agg cs.toArray] w1 (bB w1 G1 fun u G'=>∃ cs',u=.agg cs'.toArray∧aV G' d' cs')
abbrev Hz (fv:aj) (w0:World) (G:GH) (d:List Dat):Prop:=Cj fv w0 G d d
theorem Y6 (φ:ay→ay) (G:GH) (w0:World) (hO:gG G [] w0) (l:List ay) (v fv:aj) (hv:au G (.sl 11 (l.map ay.dat)) v) (hz:l.length≤4294967296) (hf:∀ x∈l,Cj fv w0 G x.dat (φ x).dat) :
  Calls prog 140 #[v,fv] w0 (fP w0 G [] fun u G' L'=>∃ xs,bX 68 11 u l.length xs L'∧bV G' 11 (l.map fun x=>(φ x).dat) xs):=by
 obtain ⟨A,c,rfl,hc1,hc2,hg⟩:=hv.slice
 have hml:4294967297≤maxLen:=by decide
 rw [bO] at *;refine jr (N:=22) (T:=[(0,_),(1,_)]) func140 rfl ntmps140 rfl rfl hO ?_;intro a H;refine kP H (SR fun _ K1=>aF K1 rfl (SR fun _ K2=>aF K2 rfl (SQ fun _ K3=>SR fun _ K4=>Rm rfl (Rl lT rfl (Rm rfl (Kz K4 (SB ?_)))))));clear H K1 K2 K4;intro a H;skip;refine eH (ι:=Nat × aj × List aj × OL × GH) (Tc:=[(1,_),(8,_),(9,_)]) (Lc:=[]) (fun gh=>[(5,gh.2.1),(10,vi gh.1)]) (fun gh=>[]++gh.2.2.2.1) (fun gh=>gh.2.2.2.2) (fun gh=>gh.1≤l.length∧bX 68 11 gh.2.1 gh.1 gh.2.2.1 gh.2.2.2.1∧bV gh.2.2.2.2 11 ((l.map fun x=>(φ x).dat).take gh.1) gh.2.2.1∧(∀ b o,G b=some o→gh.2.2.2.2 b=some o)) (fun gh=>l.length - gh.1) ((0,.slice none 0 0,[],[],G)) (by exact (H).sub ⟨rfl,rfl,rfl,rfl,rfl,aL⟩) ?_ ?_
 ·exact ⟨by omega,bX.nil,by simpa using bV.nil,fun _ _ h=>h⟩
 clear H;rintro ⟨k,v,xs,Lo,g⟩ a w hI H;dsimp only at hI H;obtain ⟨hk,hrw,dQ,hgm⟩:=hI;dsimp only [lca,bK] at H;refine kP H (SR fun _ K5=>Rc rfl (Kz K5 (SQ fun _ K6=>Cd rfl ?_ ?_))) <;> clear H K5
 ·intro h11 a H
  try have rH:=dT h11
  have hk2:k < l.length:=by omega
  obtain ⟨b,o,cs,rfl,hcl,hrow,hrep⟩:=hg k l[k].dat (by simp [hk2]);obtain ⟨pA,pn,pc,dA,dn,dc,yA,yn,yc,fA,fn,fc,rA,rn,rc,rfl,-⟩:=hrep.item;replace hrow:=fun j u hj=>aG hgm (hrow j u hj);refine kP H (Kc K6 (SQ fun _ K7=>SB (SR fun _ K8=>Ri lT gB rfl rfl ?_)));clear H K6;intro a H;refine aR gB (cs:=[_,_,_,_,_,_,_,_,_,_,_]) H wn rfl rfl (fun j v hj=>H.hp.aH (hrow j v hj)) rfl ?_;clear H;intro a H;refine dJ gB H wn rfl ?_;clear H;intro b7 a w wT H;refine aY gB 0 (vs:=[_,_,_,_,_,_,_,_,_,_,_]) _ H wn rfl rfl rfl rfl rfl rfl rfl rfl ?_;clear H;intro w H;dsimp only [List.set,setRow] at H;refine K8 _ _ ?_;clear K8;refine kP H (SC (Rm rfl (Rm rfl ?_)));clear H;intro a H;refine aR gB (cs:=[_,_,_,_,_,_,_,_,_,_,_]) H wn rfl rfl (H.hp.bT 0 rfl rfl) rfl ?_;clear H;intro a H;refine jF H wn rfl rfl (hf _ (lH hk2) _ _ _ hgm H.ro (hrep.mono hgm)) rfl ?_;clear H;rintro v17 yG a w ⟨zL,rfl,eT⟩ sW H;obtain ⟨cs,hcs⟩:∃ cs,cs=zL:=⟨_,rfl⟩;obtain ⟨pA,pn,pc,dA,dn,dc,yA,yn,yc,fA,fn,fc,rA,rn,rc,wU,-⟩:=eT.item;rw [wU] at H;refine gQ lT gB [_,_,_,_,_,_,_,_,_,_,_] [_,_,_,_,_,_,_,_,_,_,_] H wn rfl rfl rfl rfl rfl (by intro i q h;match i,h with|0,h=>exact h|n+1,h=>simp at h) rfl rfl ?_;clear H;intro b18 a w OQ H;refine mI (Li:=[_,_]) (Lo:=Lo) (news:=zL) lT gB rfl rfl H wn rfl rfl hrw (by rw [wU];rfl) (by rw [wU];exact H.hp.bT 0 rfl rfl) eT.one (by omega) (by omega) rfl ?_;clear H;intro v19 Fq a w yX H;refine kH H (gY K7 rfl (SC (Rd rfl (Rm rfl ?_))));clear H K7;intro a H;refine aC ?_;refine dx ((k+1,v19,xs++zL,Fq,yG)) (by exact (H.dX (Pl:=[_,_]) (dN:=[]) [] (by decide) rfl).sub ⟨rfl,rfl,rfl,rfl,rfl,aL⟩) ?_
  (try dsimp only);refine ⟨by omega,yX,?_,fun b o h=>sW b o (hgm b o h)⟩;rw [fV (by simpa using hk2)];exact (dQ.mono sW).snoc (by simpa using eT) (by rw [wU];rfl)
 intro h11 a H
 try have rH:=dF h11
 refine jI ?_;refine K3 _ _ ?_;clear K3;refine kP H (SR fun _ K9=>Rm rfl (aF K9 rfl ?_));clear H K9;intro a H;refine lr H results140 rfl ?_
 obtain rfl:k=l.length:=by omega
 exact H.hp.dM ⟨_,hrw,by rw [gu (by simp)] at dQ;exact dQ⟩
theorem ahD (φ:ay→ay) (G:GH) (w0:World) (hG:Hold G w0) (l:List ay) (v fv:aj) (hv:au G (.sl 11 (l.map ay.dat)) v) (hz:l.length≤4294967296) (hf:∀ x∈l,Cj fv w0 G x.dat (φ x).dat) :
  Calls prog 140 #[v,fv] w0 (bB w0 G fun u G'=>au G' (.sl 11 (l.map fun x=>(φ x).dat)) u):=Il hG (Y6 φ G w0 (yh hG) l v fv hv hz hf) (by simp)
theorem ahz (G:GH) (w0:World) (hG:Hold G w0) (l:List ay) (v fv:aj) (hv:au G (.sl 11 (l.map ay.dat)) v) (hz:l.length≤4294967296) (hf:∀ x∈l,Hz fv w0 G x.dat) :
  Calls prog 140 #[v,fv] w0 (bB w0 G fun u G'=>au G' (.sl 11 (l.map ay.dat)) u):=ahD (fun x=>x) G w0 hG l v fv hv hz hf
theorem ahB (φ:aU→aU) (G:GH) (w0:World) (hO:gG G [] w0) (l:List aU) (v fv:aj) (hv:au G (.sl 6 (l.map aU.dat)) v) (hz:l.length≤4294967296) (hf:∀ x∈l,Cj fv w0 G x.dat (φ x).dat) :
  Calls prog 110 #[v,fv] w0 (fP w0 G [] fun u G' L'=>∃ xs,bX 74 6 u l.length xs L'∧bV G' 6 (l.map fun x=>(φ x).dat) xs):=by
 obtain ⟨A,c,rfl,hc1,hc2,hg⟩:=hv.slice
 have hml:4294967297≤maxLen:=by decide
 rw [bO] at *;refine jr (N:=22) (T:=[(0,_),(1,_)]) func110 rfl ntmps110 rfl rfl hO ?_;intro a H;refine kP H (SR fun _ K1=>aF K1 rfl (SR fun _ K2=>aF K2 rfl (SQ fun _ K3=>SR fun _ K4=>Rm rfl (Rl tq rfl (Rm rfl (Kz K4 (SB ?_)))))));clear H K1 K2 K4;intro a H;skip;refine eH (ι:=Nat × aj × List aj × OL × GH) (Tc:=[(1,_),(8,_),(9,_)]) (Lc:=[]) (fun gh=>[(5,gh.2.1),(10,vi gh.1)]) (fun gh=>[]++gh.2.2.2.1) (fun gh=>gh.2.2.2.2) (fun gh=>gh.1≤l.length∧bX 74 6 gh.2.1 gh.1 gh.2.2.1 gh.2.2.2.1∧bV gh.2.2.2.2 6 ((l.map fun x=>(φ x).dat).take gh.1) gh.2.2.1∧(∀ b o,G b=some o→gh.2.2.2.2 b=some o)) (fun gh=>l.length - gh.1) ((0,.slice none 0 0,[],[],G)) (by exact (H).sub ⟨rfl,rfl,rfl,rfl,rfl,aL⟩) ?_ ?_
 ·exact ⟨by omega,bX.nil,by simpa using bV.nil,fun _ _ h=>h⟩
 clear H;rintro ⟨k,v,xs,Lo,g⟩ a w hI H;dsimp only at hI H;obtain ⟨hk,hrw,dQ,hgm⟩:=hI;dsimp only [lca,bK] at H;refine kP H (SR fun _ K5=>Rc rfl (Kz K5 (SQ fun _ K6=>Cd rfl ?_ ?_))) <;> clear H K5
 ·intro h11 a H
  try have rH:=dT h11
  have hk2:k < l.length:=by omega
  obtain ⟨b,o,cs,rfl,hcl,hrow,hrep⟩:=hg k l[k].dat (by simp [hk2]);obtain ⟨pA,pn,pc,dA,dn,dc,yA,yn,yc,fA,fn,fc,rfl,-⟩:=hrep.row;replace hrow:=fun j u hj=>aG hgm (hrow j u hj);refine kP H (Kc K6 (SQ fun _ K7=>SB (SR fun _ K8=>Ri tq jA rfl rfl ?_)));clear H K6;intro a H;refine aR jA (cs:=[_,_,_,_,_,_]) H wn rfl rfl (fun j v hj=>H.hp.aH (hrow j v hj)) rfl ?_;clear H;intro a H;refine dJ jA H wn rfl ?_;clear H;intro b7 a w wT H;refine aY jA 0 (vs:=[_,_,_,_,_,_]) _ H wn rfl rfl rfl rfl rfl rfl rfl rfl ?_;clear H;intro w H;dsimp only [List.set,setRow] at H;refine K8 _ _ ?_;clear K8;refine kP H (SC (Rm rfl (Rm rfl ?_)));clear H;intro a H;refine aR jA (cs:=[_,_,_,_,_,_]) H wn rfl rfl (H.hp.bT 0 rfl rfl) rfl ?_;clear H;intro a H;refine jF H wn rfl rfl (hf _ (lH hk2) _ _ _ hgm H.ro (hrep.mono hgm)) rfl ?_;clear H;rintro v17 yG a w ⟨zL,rfl,eT⟩ sW H;obtain ⟨cs,hcs⟩:∃ cs,cs=zL:=⟨_,rfl⟩;obtain ⟨pA,pn,pc,dA,dn,dc,yA,yn,yc,fA,fn,fc,wU,-⟩:=eT.row;rw [wU] at H;refine gQ tq jA [_,_,_,_,_,_] [_,_,_,_,_,_] H wn rfl rfl rfl rfl rfl (by intro i q h;match i,h with|0,h=>exact h|n+1,h=>simp at h) rfl rfl ?_;clear H;intro b18 a w OQ H;refine mI (Li:=[_,_]) (Lo:=Lo) (news:=zL) tq jA rfl rfl H wn rfl rfl hrw (by rw [wU];rfl) (by rw [wU];exact H.hp.bT 0 rfl rfl) eT.one (by omega) (by omega) rfl ?_;clear H;intro v19 Fq a w yX H;refine kH H (gY K7 rfl (SC (Rd rfl (Rm rfl ?_))));clear H K7;intro a H;refine aC ?_;refine dx ((k+1,v19,xs++zL,Fq,yG)) (by exact (H.dX (Pl:=[_,_]) (dN:=[]) [] (by decide) rfl).sub ⟨rfl,rfl,rfl,rfl,rfl,aL⟩) ?_
  (try dsimp only);refine ⟨by omega,yX,?_,fun b o h=>sW b o (hgm b o h)⟩;rw [fV (by simpa using hk2)];exact (dQ.mono sW).snoc (by simpa using eT) (by rw [wU];rfl)
 intro h11 a H
 try have rH:=dF h11
 refine jI ?_;refine K3 _ _ ?_;clear K3;refine kP H (SR fun _ K9=>Rm rfl (aF K9 rfl ?_));clear H K9;intro a H;refine lr H results110 rfl ?_
 obtain rfl:k=l.length:=by omega
 exact H.hp.dM ⟨_,hrw,by rw [gu (by simp)] at dQ;exact dQ⟩
theorem Y8 (φ:aU→aU) (G:GH) (w0:World) (hG:Hold G w0) (l:List aU) (v fv:aj) (hv:au G (.sl 6 (l.map aU.dat)) v) (hz:l.length≤4294967296) (hf:∀ x∈l,Cj fv w0 G x.dat (φ x).dat) :
  Calls prog 110 #[v,fv] w0 (bB w0 G fun u G'=>au G' (.sl 6 (l.map fun x=>(φ x).dat)) u):=Il hG (ahB φ G w0 (yh hG) l v fv hv hz hf) (by simp)
theorem ahC (G:GH) (w0:World) (hG:Hold G w0) (l:List aU) (v fv:aj) (hv:au G (.sl 6 (l.map aU.dat)) v) (hz:l.length≤4294967296) (hf:∀ x∈l,Hz fv w0 G x.dat) :
  Calls prog 110 #[v,fv] w0 (bB w0 G fun u G'=>au G' (.sl 6 (l.map aU.dat)) u):=Y8 (fun x=>x) G w0 hG l v fv hv hz hf
theorem ahA (φ:aZ→aZ) (G:GH) (w0:World) (hO:gG G [] w0) (l:List aZ) (v fv:aj) (hv:au G (.sl 7 (l.map aZ.dat)) v) (hz:l.length≤4294967296) (hf:∀ x∈l,Cj fv w0 G x.dat (φ x).dat) :
  Calls prog 172 #[v,fv] w0 (fP w0 G [] fun u G' L'=>∃ xs,bX 76 7 u l.length xs L'∧bV G' 7 (l.map fun x=>(φ x).dat) xs):=by
 obtain ⟨A,c,rfl,hc1,hc2,hg⟩:=hv.slice
 have hml:4294967297≤maxLen:=by decide
 rw [bO] at *;refine jr (N:=22) (T:=[(0,_),(1,_)]) func172 rfl ntmps172 rfl rfl hO ?_;intro a H;refine kP H (SR fun _ K1=>aF K1 rfl (SR fun _ K2=>aF K2 rfl (SQ fun _ K3=>SR fun _ K4=>Rm rfl (Rl vB rfl (Rm rfl (Kz K4 (SB ?_)))))));clear H K1 K2 K4;intro a H;skip;refine eH (ι:=Nat × aj × List aj × OL × GH) (Tc:=[(1,_),(8,_),(9,_)]) (Lc:=[]) (fun gh=>[(5,gh.2.1),(10,vi gh.1)]) (fun gh=>[]++gh.2.2.2.1) (fun gh=>gh.2.2.2.2) (fun gh=>gh.1≤l.length∧bX 76 7 gh.2.1 gh.1 gh.2.2.1 gh.2.2.2.1∧bV gh.2.2.2.2 7 ((l.map fun x=>(φ x).dat).take gh.1) gh.2.2.1∧(∀ b o,G b=some o→gh.2.2.2.2 b=some o)) (fun gh=>l.length - gh.1) ((0,.slice none 0 0,[],[],G)) (by exact (H).sub ⟨rfl,rfl,rfl,rfl,rfl,aL⟩) ?_ ?_
 ·exact ⟨by omega,bX.nil,by simpa using bV.nil,fun _ _ h=>h⟩
 clear H;rintro ⟨k,v,xs,Lo,g⟩ a w hI H;dsimp only at hI H;obtain ⟨hk,hrw,dQ,hgm⟩:=hI;dsimp only [lca,bK] at H;refine kP H (SR fun _ K5=>Rc rfl (Kz K5 (SQ fun _ K6=>Cd rfl ?_ ?_))) <;> clear H K5
 ·intro h11 a H
  try have rH:=dT h11
  have hk2:k < l.length:=by omega
  obtain ⟨b,o,cs,rfl,hcl,hrow,hrep⟩:=hg k l[k].dat (by simp [hk2]);obtain ⟨pA,pn,pc,dA,dn,dc,yA,yn,yc,fA,fn,fc,rfl,-⟩:=hrep.cell;replace hrow:=fun j u hj=>aG hgm (hrow j u hj);refine kP H (Kc K6 (SQ fun _ K7=>SB (SR fun _ K8=>Ri vB jL rfl rfl ?_)));clear H K6;intro a H;refine aR jL (cs:=[_,_,_,_,_,_,_]) H wn rfl rfl (fun j v hj=>H.hp.aH (hrow j v hj)) rfl ?_;clear H;intro a H;refine dJ jL H wn rfl ?_;clear H;intro b7 a w wT H;refine aY jL 0 (vs:=[_,_,_,_,_,_,_]) _ H wn rfl rfl rfl rfl rfl rfl rfl rfl ?_;clear H;intro w H;dsimp only [List.set,setRow] at H;refine K8 _ _ ?_;clear K8;refine kP H (SC (Rm rfl (Rm rfl ?_)));clear H;intro a H;refine aR jL (cs:=[_,_,_,_,_,_,_]) H wn rfl rfl (H.hp.bT 0 rfl rfl) rfl ?_;clear H;intro a H;refine jF H wn rfl rfl (hf _ (lH hk2) _ _ _ hgm H.ro (hrep.mono hgm)) rfl ?_;clear H;rintro v17 yG a w ⟨zL,rfl,eT⟩ sW H;obtain ⟨cs,hcs⟩:∃ cs,cs=zL:=⟨_,rfl⟩;obtain ⟨pA,pn,pc,dA,dn,dc,yA,yn,yc,fA,fn,fc,wU,-⟩:=eT.cell;rw [wU] at H;refine gQ vB jL [_,_,_,_,_,_,_] [_,_,_,_,_,_,_] H wn rfl rfl rfl rfl rfl (by intro i q h;match i,h with|0,h=>exact h|n+1,h=>simp at h) rfl rfl ?_;clear H;intro b18 a w OQ H;refine mI (Li:=[_,_]) (Lo:=Lo) (news:=zL) vB jL rfl rfl H wn rfl rfl hrw (by rw [wU];rfl) (by rw [wU];exact H.hp.bT 0 rfl rfl) eT.one (by omega) (by omega) rfl ?_;clear H;intro v19 Fq a w yX H;refine kH H (gY K7 rfl (SC (Rd rfl (Rm rfl ?_))));clear H K7;intro a H;refine aC ?_;refine dx ((k+1,v19,xs++zL,Fq,yG)) (by exact (H.dX (Pl:=[_,_]) (dN:=[]) [] (by decide) rfl).sub ⟨rfl,rfl,rfl,rfl,rfl,aL⟩) ?_
  (try dsimp only);refine ⟨by omega,yX,?_,fun b o h=>sW b o (hgm b o h)⟩;rw [fV (by simpa using hk2)];exact (dQ.mono sW).snoc (by simpa using eT) (by rw [wU];rfl)
 intro h11 a H
 try have rH:=dF h11
 refine jI ?_;refine K3 _ _ ?_;clear K3;refine kP H (SR fun _ K9=>Rm rfl (aF K9 rfl ?_));clear H K9;intro a H;refine lr H results172 rfl ?_
 obtain rfl:k=l.length:=by omega
 exact H.hp.dM ⟨_,hrw,by rw [gu (by simp)] at dQ;exact dQ⟩
theorem Y7 (φ:aZ→aZ) (G:GH) (w0:World) (hG:Hold G w0) (l:List aZ) (v fv:aj) (hv:au G (.sl 7 (l.map aZ.dat)) v) (hz:l.length≤4294967296) (hf:∀ x∈l,Cj fv w0 G x.dat (φ x).dat) :
  Calls prog 172 #[v,fv] w0 (bB w0 G fun u G'=>au G' (.sl 7 (l.map fun x=>(φ x).dat)) u):=Il hG (ahA φ G w0 (yh hG) l v fv hv hz hf) (by simp)
theorem ahy (G:GH) (w0:World) (hG:Hold G w0) (l:List aZ) (v fv:aj) (hv:au G (.sl 7 (l.map aZ.dat)) v) (hz:l.length≤4294967296) (hf:∀ x∈l,Hz fv w0 G x.dat) :
  Calls prog 172 #[v,fv] w0 (bB w0 G fun u G'=>au G' (.sl 7 (l.map aZ.dat)) u):=Y7 (fun x=>x) G w0 hG l v fv hv hz hf
def Fa (n:Nat):Prop:=∀ (G:GH) (w0:World),Hold G w0→∀ (l:List ay) (v:aj),au G (.sl 11 (l.map ay.dat)) v→cu l < n →
 Calls prog 80 #[v] w0 (bB w0 G fun u G'=>au G' (.sl 11 (l.map ay.dat)) u)
theorem agP {n:Nat} (ih:Fa n) (hn:n≤4294967296) (G:GH) (w0:World) (hG:Hold G w0) (x:aZ) (cs:List aj) (hv:aV G x.dat cs) (hz:bZ x.dat < n+1) :
  Calls prog 203 #[.agg cs.toArray] w0 (bB w0 G fun u G'=>∃ cs',u=.agg cs'.toArray∧aV G' x.dat cs'):=by
 have he:=DJ x;obtain ⟨pA,pn,pc,dA,dn,dc,yA,yn,yc,fA,fn,fc,rfl,hh,hf⟩:=hv.cell;refine eN [(0,_)] func203 rfl ntmps203 rfl rfl hG ?_;intro a H;refine fK (fun _ K1=>?_);refine dW (cs:=[_,_,_,_,_,_,_]) H wn rfl rfl rfl ?_;clear H;intro b1 a w hb1 H;refine dJ jL H wn rfl ?_;clear H;intro b2 a w hb2 H;refine K1 _ _ ?_;clear K1;refine eY (fun _ K2=>?_)
 have dO:AY (fun (bQ:Nat) (v:aj) (G:GH)=>match bQ with|0=>v=(aM b1 0)|1=>v=vi x.id|2=>v=(aM b1 1)|3=>v=.agg #[.slice pA pn pc,vi x.head.marks.ins,vi x.head.marks.move,.slice dA dn dc,.slice yA yn yc]|4=>∃ p d l,v=.agg #[p,vi x.head.marks.ins,vi x.head.marks.move,d,l]∧iA G x.head p d l|5=>v=(aM b1 6)|6=>v=.slice fA fn fc|7=>au G (.sl 11 (x.flow.map ay.dat)) v|_=>True):=by intro bQ v G G' hm h;(iterate 10 (rcases bQ with _|bQ;(first|exact h|exact let ⟨p,d,l,h1,h2⟩:=h;⟨p,d,l,h1,h2.mono hm⟩|exact au.mono hm h)));exact trivial
 refine zK (hmx) [[],[0],[],[2],[2,3],[],[5],(ra 2 5),(ra 0 8),(ra 0 9)] [8,9] (by kernel_rfl) (by kernel_rfl) _ dO H ?_ ?_
 ·clear H;refine aD ?_ ?_ ?_ ?_ (aD ?_ ?_ ?_ ?_ (bM (bS rfl) (bM (bS rfl) cO)))
  ·refine cZ [] rfl trivial (by kernel_rfl) dO rfl rfl ?_;intro aP a w G1 hG HT H fin;exact kH H (Rf Tn rfl fun _ H=>fin H iJ rfl)
  ·refine cZ [(0,3,_)] rfl ⟨fun _ _ h=>h,aL⟩ (by kernel_rfl) dO rfl rfl ?_;intro aP a w G1 hG HT H fin;exact kH H (Ro aT 1 rfl fun _ H=>fin H iJ rfl)
  ·refine cZ [] rfl trivial (by kernel_rfl) dO rfl rfl ?_;intro aP a w G1 hG HT H fin;exact kH H (Rf Ou rfl fun _ H=>fin H iJ rfl)
  ·refine cZ [(2,5,_)] rfl ⟨fun _ _ h=>h,aL⟩ (by kernel_rfl) dO rfl rfl ?_;intro aP a w G1 hG HT H fin;refine aR dB (cs:=[_,_,_,_,_]) H wn rfl rfl (H.hp.bT 1 rfl rfl) rfl ?_;clear H;intro a H;exact fin H iJ rfl
  ·refine cZ [(3,6,_)] rfl ⟨fun _ _ h=>h,aL⟩ (by kernel_rfl) dO rfl rfl ?_;intro aP a w G1 hG HT H fin;refine s_call FB H wn rfl (Fy _ _ H.ro x.head _ _ _ _ _ _ _ _ _ (hh.mono hG) (by omega)) rfl ?_;clear H;rintro v7 G7 a w Da KW H;exact fin H KW (Da)
  ·refine cZ [] rfl trivial (by kernel_rfl) dO rfl rfl ?_;intro aP a w G1 hG HT H fin;exact kH H (Rf Ov rfl fun _ H=>fin H iJ rfl)
  ·refine cZ [(5,8,_)] rfl ⟨fun _ _ h=>h,aL⟩ (by kernel_rfl) dO rfl rfl ?_;intro aP a w G1 hG HT H fin;exact kH H (Ro lS 1 rfl fun _ H=>fin H iJ rfl)
  refine cZ [(6,9,_)] rfl ⟨fun _ _ h=>h,aL⟩ (by kernel_rfl) dO rfl rfl ?_;intro aP a w G1 hG HT H fin;refine s_call SX H wn rfl (ih _ _ H.ro x.flow _ (hf.mono hG) (by omega)) rfl ?_;clear H;rintro v10 zD a w uj ru H;exact fin H ru (uj)
 clear H;intro a w G iY H hv;have H:=H.aN (hv 1 4 rfl rfl) rfl;obtain ⟨u7,Vh,Da⟩:=hv 4 7 (by decide) rfl;(try dsimp only at Da);obtain ⟨p7,d7,l7,rfl,CU⟩:=Da;obtain ⟨a1,a2,a3,rfl⟩:=CU.props.form;obtain ⟨a4,a5,a6,rfl⟩:=CU.bH.form;obtain ⟨a7,a8,a9,rfl⟩:=CU.layers.form;have H:=H.gI Vh;obtain ⟨u10,L9,uj⟩:=hv 7 10 (by decide) rfl;(try dsimp only at uj);obtain ⟨Xn,n10,c10,rfl⟩:=uj.form;have H:=H.gI L9;clear hv;refine jl QA [_,_,_,_,_,_,_] H wn rfl rfl rfl rfl ?_;clear H;intro a H;refine aY jL 0 (vs:=[_,_,_,_,_,_,_]) _ H wn rfl rfl rfl rfl rfl rfl rfl rfl ?_;clear H;intro w H;dsimp only [List.set,setRow] at H;refine aC ⟨rfl,?_⟩;refine K2 _ _ ?_;clear K2;refine cK ?_;refine (leave1 H results203 (.cons (nH jL (cs:=[_,_,_,_,_,_,_]) H rfl rfl (H.hp.bT 0 rfl rfl)) .nil) ?_).1;exact H.rt ⟨_,rfl,aV.Ml CU uj⟩
theorem agO {n:Nat} (ih:Fa n) (hn:n≤4294967296) {G:GH} {w0:World} (x:aZ) (hz:bZ x.dat < n+1):Hz (.func (.func 203) #[] #[]) w0 G x.dat:=by
 intro G1 w1 cs hm1 hG1 hr;have h:=agP ih hn _ _ hG1 x cs hr hz;have h2:=jo (P:=prog) (caps:=[]) (args:=[.agg cs.toArray]) aiW h;exact h2
theorem ahd {n:Nat} (ih:Fa n) (hn:n≤4294967296) (G:GH) (w0:World) (hG:Hold G w0) (x:aU) (cs:List aj) (hv:aV G x.dat cs) (hz:bZ x.dat < n+1) :
  Calls prog 142 #[.agg cs.toArray] w0 (bB w0 G fun u G'=>∃ cs',u=.agg cs'.toArray∧aV G' x.dat cs'):=by
 have he:=DK x;have hl:=JW x.cells;obtain ⟨pA,pn,pc,dA,dn,dc,yA,yn,yc,fA,fn,fc,rfl,hh,hf⟩:=hv.row;refine eN [(0,_)] func142 rfl ntmps142 rfl rfl hG ?_;intro a H;refine fK (fun _ K1=>?_);refine dW (cs:=[_,_,_,_,_,_]) H wn rfl rfl rfl ?_;clear H;intro b1 a w hb1 H;refine dJ jA H wn rfl ?_;clear H;intro b2 a w hb2 H;refine K1 _ _ ?_;clear K1;refine eY (fun _ K2=>?_)
 have dO:AY (fun (bQ:Nat) (v:aj) (G:GH)=>match bQ with|0=>v=(aM b1 0)|1=>v=.agg #[.slice pA pn pc,vi x.head.marks.ins,vi x.head.marks.move,.slice dA dn dc,.slice yA yn yc]|2=>∃ p d l,v=.agg #[p,vi x.head.marks.ins,vi x.head.marks.move,d,l]∧iA G x.head p d l|3=>v=(aM b1 5)|4=>v=.slice fA fn fc|5=>au G (.sl 7 (x.cells.map aZ.dat)) v|_=>True):=by intro bQ v G G' hm h;(iterate 8 (rcases bQ with _|bQ;(first|exact h|exact let ⟨p,d,l,h1,h2⟩:=h;⟨p,d,l,h1,h2.mono hm⟩|exact au.mono hm h)));exact trivial
 refine zK (hmx) [[],[0],[0,1],[],[3],(ra 0 5),(ra 0 6),(ra 0 7)] [6,7] (by kernel_rfl) (by kernel_rfl) _ dO H ?_ ?_
 ·clear H;refine aD ?_ ?_ ?_ ?_ (aD ?_ ?_ (bS rfl) (bS rfl) cO)
  ·refine cZ [] rfl trivial (by kernel_rfl) dO rfl rfl ?_;intro aP a w G1 hG HT H fin;exact kH H (Rf Ot rfl fun _ H=>fin H iJ rfl)
  ·refine cZ [(0,3,_)] rfl ⟨fun _ _ h=>h,aL⟩ (by kernel_rfl) dO rfl rfl ?_;intro aP a w G1 hG HT H fin;refine aR dB (cs:=[_,_,_,_,_]) H wn rfl rfl (H.hp.bT 1 rfl rfl) rfl ?_;clear H;intro a H;exact fin H iJ rfl
  ·refine cZ [(1,4,_)] rfl ⟨fun _ _ h=>h,aL⟩ (by kernel_rfl) dO rfl rfl ?_;intro aP a w G1 hG HT H fin;refine s_call FB H wn rfl (Fy _ _ H.ro x.head _ _ _ _ _ _ _ _ _ (hh.mono hG) (by omega)) rfl ?_;clear H;rintro v5 G5 a w rD lZ H;exact fin H lZ (rD)
  ·refine cZ [] rfl trivial (by kernel_rfl) dO rfl rfl ?_;intro aP a w G1 hG HT H fin;exact kH H (Rf Ej rfl fun _ H=>fin H iJ rfl)
  ·refine cZ [(3,6,_)] rfl ⟨fun _ _ h=>h,aL⟩ (by kernel_rfl) dO rfl rfl ?_;intro aP a w G1 hG HT H fin;exact kH H (Ro DF 1 rfl fun _ H=>fin H iJ rfl)
  refine cZ [(4,7,_)] rfl ⟨fun _ _ h=>h,aL⟩ (by kernel_rfl) dO rfl rfl ?_;intro aP a w G1 hG HT H fin;refine s_call Zj H wn rfl (ahy _ _ H.ro x.cells _ _ (hf.mono hG) (by omega) (fun y hy=>agO ih hn y (by have:=aeW hy;omega))) rfl ?_;clear H;rintro v8 G8 a w nk oM H;exact fin H oM (nk)
 clear H;intro a w G iY H hv;obtain ⟨u5,Gw,rD⟩:=hv 2 5 (by decide) rfl;(try dsimp only at rD);obtain ⟨p5,d5,l5,rfl,sV⟩:=rD;obtain ⟨a1,a2,a3,rfl⟩:=sV.props.form;obtain ⟨a4,a5,a6,rfl⟩:=sV.bH.form;obtain ⟨a7,a8,a9,rfl⟩:=sV.layers.form;have H:=H.gI Gw;obtain ⟨u8,Ai,nk⟩:=hv 5 8 (by decide) rfl;(try dsimp only at nk);obtain ⟨A8,n8,c8,rfl⟩:=nk.form;have H:=H.gI Ai;clear hv;refine jl Qz [_,_,_,_,_,_] H wn rfl rfl rfl rfl ?_;clear H;intro a H;refine aY jA 0 (vs:=[_,_,_,_,_,_]) _ H wn rfl rfl rfl rfl rfl rfl rfl rfl ?_;clear H;intro w H;dsimp only [List.set,setRow] at H;refine aC ⟨rfl,?_⟩;refine K2 _ _ ?_;clear K2;refine cK ?_;refine (leave1 H results142 (.cons (nH jA (cs:=[_,_,_,_,_,_]) H rfl rfl (H.hp.bT 0 rfl rfl)) .nil) ?_).1;exact H.rt ⟨_,rfl,aV.Mq sV nk⟩
theorem ahc {n:Nat} (ih:Fa n) (hn:n≤4294967296) {G:GH} {w0:World} (x:aU) (hz:bZ x.dat < n+1):Hz (.func (.func 142) #[] #[]) w0 G x.dat:=by
 intro G1 w1 cs hm1 hG1 hr;have h:=ahd ih hn _ _ hG1 x cs hr hz;have h2:=jo (P:=prog) (caps:=[]) (args:=[.agg cs.toArray]) aik h;exact h2
theorem agN {n:Nat} (ih:Fa n) (hn:n≤4294967296) (G:GH) (w0:World) (hG:Hold G w0) (x:ay) (cs:List aj) (hv:aV G x.dat cs) (hz:bZ x.dat < n+1) :
  Calls prog 141 #[.agg cs.toArray] w0 (bB w0 G fun u G'=>∃ cs',u=.agg cs'.toArray∧aV G' x.dat cs'):=by
 have he:=zy x;have hl:=JY x.rows;obtain ⟨pA,pn,pc,dA,dn,dc,yA,yn,yc,fA,fn,fc,rA,rn,rc,rfl,hh,hf,hr⟩:=hv.item;refine eN [(0,_)] func141 rfl ntmps141 rfl rfl hG ?_;intro a H;refine fK (fun _ K1=>?_);refine dW (cs:=[_,_,_,_,_,_,_,_,_,_,_]) H wn rfl rfl rfl ?_;clear H;intro b1 a w hb1 H;refine dJ gB H wn rfl ?_;clear H;intro b2 a w hb2 H;refine K1 _ _ ?_;clear K1;refine eY (fun _ K2=>?_)
 have dO:AY (fun (bQ:Nat) (v:aj) (G:GH)=>match bQ with|0=>v=(aM b1 4)|1=>v=.agg #[.slice pA pn pc,vi x.head.marks.ins,vi x.head.marks.move,.slice dA dn dc,.slice yA yn yc]|2=>∃ p d l,v=.agg #[p,vi x.head.marks.ins,vi x.head.marks.move,d,l]∧iA G x.head p d l|3=>v=(aM b1 9)|4=>v=.slice fA fn fc|5=>au G (.sl 11 (x.flow.map ay.dat)) v|6=>v=(aM b1 10)|7=>v=.slice rA rn rc|8=>au G (.sl 6 (x.rows.map aU.dat)) v|9=>v=(aM b1 4)|_=>True):=by intro bQ v G G' hm h;(iterate 15 (rcases bQ with _|bQ;(first|exact h|exact let ⟨p,d,l,h1,h2⟩:=h;⟨p,d,l,h1,h2.mono hm⟩|exact au.mono hm h)));exact trivial
 refine zK (hmx) [[],[0],[0,1],[],[3],(ra 0 5),[],[6],(ra 0 8),[0,1,2,3,4,6,7],(ra 0 10),(ra 0 11),(ra 0 12),(ra 0 13),(ra 0 14)] (ra 10 5) (by kernel_rfl) (by kernel_rfl) _ dO H ?_ ?_
 ·clear H;refine aD ?_ ?_ ?_ ?_ (aD ?_ ?_ ?_ ?_ (aD ?_ ?_ (bS rfl) (bS rfl) (bM (bS rfl) (bM (bS rfl) (bM (bS rfl) cO)))))
  ·refine cZ [] rfl trivial (by kernel_rfl) dO rfl rfl ?_;intro aP a w G1 hG HT H fin;exact kH H (Rf Bt rfl fun _ H=>fin H iJ rfl)
  ·refine cZ [(0,3,_)] rfl ⟨fun _ _ h=>h,aL⟩ (by kernel_rfl) dO rfl rfl ?_;intro aP a w G1 hG HT H fin;refine aR dB (cs:=[_,_,_,_,_]) H wn rfl rfl (H.hp.bT 1 rfl rfl) rfl ?_;clear H;intro a H;exact fin H iJ rfl
  ·refine cZ [(1,4,_)] rfl ⟨fun _ _ h=>h,aL⟩ (by kernel_rfl) dO rfl rfl ?_;intro aP a w G1 hG HT H fin;refine s_call FB H wn rfl (Fy _ _ H.ro x.head _ _ _ _ _ _ _ _ _ (hh.mono hG) (by omega)) rfl ?_;clear H;rintro v5 G5 a w rD lZ H;exact fin H lZ (rD)
  ·refine cZ [] rfl trivial (by kernel_rfl) dO rfl rfl ?_;intro aP a w G1 hG HT H fin;exact kH H (Rf IK rfl fun _ H=>fin H iJ rfl)
  ·refine cZ [(3,6,_)] rfl ⟨fun _ _ h=>h,aL⟩ (by kernel_rfl) dO rfl rfl ?_;intro aP a w G1 hG HT H fin;exact kH H (Ro lS 1 rfl fun _ H=>fin H iJ rfl)
  ·refine cZ [(4,7,_)] rfl ⟨fun _ _ h=>h,aL⟩ (by kernel_rfl) dO rfl rfl ?_;intro aP a w G1 hG HT H fin;refine s_call SX H wn rfl (ih _ _ H.ro x.flow _ (hf.mono hG) (by omega)) rfl ?_;clear H;rintro v8 G8 a w nk oM H;exact fin H oM (nk)
  ·refine cZ [] rfl trivial (by kernel_rfl) dO rfl rfl ?_;intro aP a w G1 hG HT H fin;exact kH H (Rf FH rfl fun _ H=>fin H iJ rfl)
  ·refine cZ [(6,9,_)] rfl ⟨fun _ _ h=>h,aL⟩ (by kernel_rfl) dO rfl rfl ?_;intro aP a w G1 hG HT H fin;exact kH H (Ro DC 1 rfl fun _ H=>fin H iJ rfl)
  ·refine cZ [(7,10,_)] rfl ⟨fun _ _ h=>h,aL⟩ (by kernel_rfl) dO rfl rfl ?_;intro aP a w G1 hG HT H fin;refine s_call Zb H wn rfl (ahC _ _ H.ro x.rows _ _ (hr.mono hG) (by omega) (fun y hy=>ahc ih hn y (by have:=afa hy;omega))) rfl ?_;clear H;rintro v11 tC a w wZ mF H;exact fin H mF (wZ)
  refine cZ [] rfl trivial (by kernel_rfl) dO rfl rfl ?_;intro aP a w G1 hG HT H fin;exact kH H (Rf Bt rfl fun _ H=>fin H iJ rfl)
 clear H;intro a w G iY H hv;obtain ⟨u5,Gw,rD⟩:=hv 2 5 (by decide) rfl;(try dsimp only at rD);obtain ⟨p5,d5,l5,rfl,sV⟩:=rD;obtain ⟨a1,a2,a3,rfl⟩:=sV.props.form;obtain ⟨a4,a5,a6,rfl⟩:=sV.bH.form;obtain ⟨a7,a8,a9,rfl⟩:=sV.layers.form;have H:=H.gI Gw;obtain ⟨u8,Ai,nk⟩:=hv 5 8 (by decide) rfl;(try dsimp only at nk);obtain ⟨A8,n8,c8,rfl⟩:=nk.form;have H:=H.gI Ai;obtain ⟨WX,Gq,wZ⟩:=hv 8 11 (by decide) rfl;(try dsimp only at wZ);obtain ⟨A11,n11,c11,rfl⟩:=wZ.form;have H:=H.gI Gq;have H:=H.aN (hv 9 12 rfl rfl) rfl;clear hv;refine aY dB 1 (vs:=[_,_,_,_,_]) _ H wn rfl rfl rfl rfl rfl rfl rfl rfl ?_;clear H;intro w H;dsimp only [List.set,setRow] at H;refine kH H (Rf IK rfl ?_);clear H;intro a H;refine aY lS 1 (vs:=[_]) _ H wn rfl rfl rfl rfl rfl rfl rfl rfl ?_;clear H;intro w H;dsimp only [List.set,setRow] at H;refine kH H (Rf FH rfl ?_);clear H;intro a H;refine aY DC 1 (vs:=[_]) _ H wn rfl rfl rfl rfl rfl rfl rfl rfl ?_;clear H;intro w H;dsimp only [List.set,setRow] at H;refine aC ⟨rfl,?_⟩;refine K2 _ _ ?_;clear K2;refine fK (fun _ K3=>?_);refine aR gB (cs:=[_,_,_,_,_,_,_,_,_,_,_]) H wn rfl rfl (H.hp.bT 1 rfl rfl) rfl ?_;clear H;intro a H;refine aY gB 0 (vs:=[_,_,_,_,_,_,_,_,_,_,_]) _ H wn rfl rfl rfl rfl rfl rfl rfl rfl ?_;clear H;intro w H;dsimp only [List.set,setRow] at H;refine K3 _ _ ?_;clear K3;refine cK ?_;refine (leave1 H results141 (.cons (nH gB (cs:=[_,_,_,_,_,_,_,_,_,_,_]) H rfl rfl (H.hp.bT 0 rfl rfl)) .nil) ?_).1;exact H.rt ⟨_,rfl,aV.mkItem sV nk wZ⟩
theorem Yu {n:Nat} (ih:Fa n) (hn:n≤4294967296) {G:GH} {w0:World} (x:ay) (hz:bZ x.dat < n+1):Hz (.func (.func 141) #[] #[]) w0 G x.dat:=by
 intro G1 w1 cs hm1 hG1 hr;have h:=agN ih hn _ _ hG1 x cs hr hz;have h2:=jo (P:=prog) (caps:=[]) (args:=[.agg cs.toArray]) aij h;exact h2
theorem R5:∀ n:Nat,n≤4294967297→Fa n
 | 0,_=>fun _ _ _ _ _ _ h=>absurd h (by omega)
 | n+1,hn=>by
  intro G w0 hG l v hv hz;have ih:=R5 n (by omega);have hl:=Hu l;refine eN [(0,_)] func80 rfl ntmps80 rfl rfl hG ?_;intro a H;refine kP H (SR fun _ K1=>aF K1 rfl (SR fun _ K2=>Rm rfl ?_));clear H K1;intro a H;refine s_call Ze H wn rfl (ahz _ _ H.ro l _ _ hv (by omega) (fun y hy=>Yu ih (by omega) y (by have:=Xj hy;omega))) rfl ?_;clear H;rintro v4 G4 a w U1 Bv H;exact kH H (aF K2 rfl (LR results80 rfl fun H=>H.rt U1))
section
section
variable {P:Program} {N:Nat} {D:List Deferred} {w0 w w':World} {F:Nat→Prop} {G0 G G':GH} {L L' Li Lo:OL} {T:List (Nat × aj)} {a a':Act} {Q:Exit→Act→World→Prop}
theorem St.cast (h:St N D w0 F G0 G L T a w) (e:L=L'):St N D w0 F G0 G L' T a w:=e ▸ h
theorem St.assoc {A B C:OL} (h:St N D w0 F G0 G ((A++B)++C) T a w):St N D w0 F G0 G (A++(B++C)) T a w:=h.cast (jm _ _ _)
theorem St.un {A B C:OL} (h:St N D w0 F G0 G (A++(B++C)) T a w):St N D w0 F G0 G ((A++B)++C) T a w:=h.cast (jm _ _ _).symm
theorem St.Jy {A B:OL} (h:St N D w0 F G0 G (A++B) T a w):St N D w0 F G0 G (A++(B++[])) T a w:=h.cast (by rw [fZ])
theorem agf {ι κ:Type} {Lc:OL} {zP:Operand} {ps:List Nat} {assign body:Code} {gf:FuncId} {caps:List aj} {xs:List AP} {Gi:GH}
  (Lv:Nat→ι→OL) (Lt:Nat→ι→OL) (inv:Nat→ι→GH→Prop) (cx:κ→Code) (Lx Fu:κ→OL) (Ak:κ→GH→Prop) (i0:ι)
  (H:St N D w0 F G0 G (Lc++Lv 0 i0++Lt 0 i0) T a w) (hg:ev T zP=some (.func (.func gf) #[] caps.toArray)) (en:∀ args w,(callFunc gf args).run P w=.ok (.enter gf args) w) (hit:Iter P Gi (.func (.func gf) #[] caps.toArray) xs) (hGi:∀ b o,Gi b=some o→G b=some o)
  (hps:ps.all (Nat.blt · N)=true) (hlen:∀ k args g,yE xs k args g→args.length=ps.length) (hinv:∀ k i (G G':GH),(∀ b o,G b=some o→G' b=some o)→inv k i G→inv k i G') (UU:∀ x (G G':GH),(∀ b o,G b=some o→G' b=some o)→Ak x G→Ak x G') (h0:inv 0 i0 G)
  (round:∀ (l:Nat) (GZ Cu:Obj) (bk:OL) (k:Nat) (args:List aj) (i:ι) (G1:GH) (w1:World) (F1:Nat→Prop) (B1:Code→Exit→Act→World→Prop) (a1:Act),yE xs k args G1→(∀ b o,G b=some o→G1 b=some o)→inv k i G1 →
   (∀ T' G2 L2 a2 w2 c,St N [] w1 F1 G1 G2 ((l,GZ) :: L2) T' a2 w2→(∀ w3,St N [] w1 F1 G1 G2 ((l,Cu) :: L2) T' a2 w3→WP (some l) P c (B1 c) a2 w3)→Exit.then (fun a2 w2=>∃ w3,(Instr.beginRound l).run P w2=.ok () w3∧c.wpIn (FW (some l)) 0 P (B1 c) a2 w3) (fun _ _ _=>False) .normal a2 w2) →
   (∀ i' T' G2 a2 w2 c,St N [] w1 F1 G1 G2 ((l,Cu) :: (Lc++Lv (k+1) i'++(bk++Lt (k+1) i'))) T' a2 w2→inv (k+1) i' G2→B1 c .normal a2 w2) →
   (∀ x T' G2 a2 w2 c,St N [] w1 F1 G1 G2 ((l,Cu) :: (Lc++Lx x++(bk++Fu x))) T' a2 w2→Ak x G2→(cx x=.ret→B1 c .ret a2 w2)∧∀ n,cx x=.exit n→B1 c (.exit n) a2 w2) →
   St N [] w1 F1 G1 G1 ((l,GZ) :: (Lc++Lv k i++(bk++Lt k i))) (Bh ps args T) a1 w1 →
   WP (some l) P assign (Exit.then (fun a2 w2=>∃ w3,(Instr.beginRound l).run P w2=.ok () w3∧body.wpIn (FW (some l)) 0 P (B1 body) a2 w3) (fun _ _ _=>False)) a1 w1)
  (hdone:∀ Dk i G1 a1 w1,(∀ b o,G b=some o→G1 b=some o)→inv xs.length i G1→St N ({ target:=.collected Dk,args:=#[] } :: D) w0 F G0 G1 ((Dk,.deferred (some [])) :: (Lc++Lv xs.length i++Lt xs.length i)) T a1 w1→Q .normal a1 w1)
  (hstop:∀ Dk x G1 a1 w1,(∀ b o,G b=some o→G1 b=some o)→Ak x G1→St N ({ target:=.collected Dk,args:=#[] } :: D) w0 F G0 G1 ((Dk,.deferred (some [])) :: (Lc++Lx x++Fu x)) T a1 w1→WP none P (cx x) Q a1 w1) :
  WP none P (.rangeFunc zP ps.toArray assign body) Q a w:=by
 refine agc (J:=fun k g L=>∃ i,L=Lc++Lv k i++Lt k i∧inv k i g) (Jx:=fun c g L=>∃ x,c=cx x∧L=Lc++Lx x++Fu x∧Ak x g) H hg en hit hGi hps hlen (fun k G G' L hm ⟨i,e,h⟩=>⟨i,e,hinv k i G G' hm h⟩) (fun c G G' L hm ⟨x,e1,e2,h⟩=>⟨x,e1,e2,UU x G G' hm h⟩) ⟨i0,rfl,h0⟩ ?_ ?_ ?_
 ·rintro l q bk k args G1 L1 w1 a1 hk hm ⟨i,rfl,hi⟩ H1
  have pm:∀ A B:OL,(bk++(A++B)).Perm (A++(bk++B)):=fun A B=>by
   rw [← jm,← jm]
   exact List.Perm.append_right B vG
  refine round l (q.at .ready none) (q.at .busy none) bk k args i G1 w1 _ (fun _=>roundPost P l _) a1 hk hm hi ?_ ?_ ?_ (H1.perm (List.Perm.cons _ (pm _ _)))
  ·intro T' G2 L2 a2 w2 c H2 h
   exact Yj H2 h
  ·intro i' T' G2 a2 w2 c H2 h2
   exact JE none (H2.perm (List.Perm.cons _ (pm _ _).symm)) ⟨_,rfl,i',rfl,h2⟩
  ·intro x T' G2 a2 w2 c H2 h2
   have H3:=H2.perm (List.Perm.cons _ (pm _ _).symm)
   refine ⟨fun e=>?_,fun n e=>?_⟩
   ·exact JE (some .ret) H3 ⟨_,_,rfl,x,e.symm,rfl,h2⟩
   ·exact JE (some (.exit n)) H3 ⟨_,_,rfl,x,e.symm,rfl,h2⟩
 ·rintro Dk G1 L1 a1 w1 hm ⟨i,rfl,hi⟩ H1
  exact hdone Dk i G1 a1 w1 hm hi H1
 ·rintro Dk c G1 L1 a1 w1 hm ⟨x,rfl,rfl,hx⟩ H1
  exact hstop Dk x G1 a1 w1 hm hx H1
def VQ (ds:List Nat):List Deferred:=ds.map fun b=>{ target:=.collected b,args:=#[] }
def GL (ds:List Nat):OL:=ds.map fun b=>(b,.deferred (some []))
theorem agb {r:Option Nat} {ι:Type} {c:Code} {Tc:List (Nat × aj)} {Lc:List (Nat × Obj)} (Dv:ι→List Deferred) (Tv:ι→List (Nat × aj)) (Lv:ι→List (Nat × Obj)) (Gv:ι→GH) (Pr:ι→Prop) (m:ι→Nat) (i0:ι)
  (H:St N (Dv i0) w0 F G0 (Gv i0) (Lc++Lv i0) (Tv i0++Tc) a w) (hP:Pr i0)
  (round:∀ i a w,Pr i→St N (Dv i) w0 F G0 (Gv i) (Lc++Lv i) (Tv i++Tc) a w →
   WP r P c (Exit.then (fun a' w'=>∃ i',(St N (Dv i') w0 F G0 (Gv i') (Lc++Lv i') (Tv i'++Tc) a' w'∧Pr i')∧m i' < m i) Q) a w):WP r P (.loop c) Q a w :=
 Yl (fun i a w=>St N (Dv i) w0 F G0 (Gv i) (Lc++Lv i) (Tv i++Tc) a w∧Pr i) m i0 ⟨H,hP⟩ fun i a w hI=>round i a w hI.2 hI.1
theorem apm {ι:Type} {Dv:ι→List Deferred} {Tc:List (Nat × aj)} {Lc:List (Nat × Obj)} {Tv:ι→List (Nat × aj)} {Lv:ι→List (Nat × Obj)} {Gv:ι→GH} {Pr:ι→Prop} {m:ι→Nat} {i:ι} (i':ι)
  (H:St N (Dv i') w0 F G0 (Gv i') (Lc++Lv i') (Tv i'++Tc) a w) (hP:Pr i') (hm:m i' < m i) :
  ∃ i',(St N (Dv i') w0 F G0 (Gv i') (Lc++Lv i') (Tv i'++Tc) a w∧Pr i')∧m i' < m i:=⟨i',⟨H,hP⟩,hm⟩
theorem VE {fn:Func} {R:Ending→World→Prop} {Lh Lt:OL}:∀ (ds:List Nat) {a:Act} {w:World},St N (VQ ds) w0 F G0 G (Lh++(GL ds++Lt)) T a w →
  (∀ a' w',St N [] w0 F G0 G (Lh++Lt) T a' w'→bodyPostM (FW none) 0 P fn R .ret a' w')→bodyPostM (FW none) 0 P fn R .ret a w∧bodyPostM (FW none) 0 P fn R .normal a w
 | [],a,w,H,k=>⟨k a w H,k a w H⟩
 | b :: ds,a,w,H,k=>by
  refine VD (b:=b) (D:=VQ ds) H Lh.length (by rw [tN (bR _),Nat.sub_self];rfl) fun a' w' H'=>?_
  refine (VE ds (Lh:=Lh) (Lt:=Lt) (H'.cast ?_) k).1
  rw [List.eraseIdx_append_of_length_le (bR _),Nat.sub_self];rfl
end
end
def n1 (x:ay):Nat:=if MW x=0 then jC x else 0
theorem au.len {G:GH} {sz:Nat} {rows:List (List Dat)} {A:Option Addr} {n c:Nat} (h:au G (.sl sz rows) (.slice A n c)):n=rows.length:=h.cells.1
theorem au.at_ {G:GH} {sz:Nat} {rows:List (List Dat)} {A:Option Addr} {n c:Nat} (h:au G (.sl sz rows) (.slice A n c)):∀ k r,rows[k]?=some r→∃ b o cs,A=some ⟨b,o,none⟩∧cs.length=sz∧(∀ j u,cs[j]?=some u→aH G b (o+k*sz+j)=some u)∧aV G r cs:=by
 obtain ⟨A2,c2,e,_,_,hg⟩:=h.slice
 cases e;exact hg
theorem Mx {G:GH} {l:List aU} {A:Option Addr} {k:Nat} (hk:k < l.length) (hg:∀ k r,(l.map aU.dat)[k]?=some r→∃ b o cs,A=some ⟨b,o,none⟩∧cs.length=6∧(∀ j u,cs[j]?=some u→aH G b (o+k*6+j)=some u)∧aV G r cs) :
  ∃ b o pA pn pc dA dn dc yA yn yc cA cn cc,A=some ⟨b,o,none⟩∧(∀ j u,[.slice pA pn pc,vi l[k].head.marks.ins,vi l[k].head.marks.move,.slice dA dn dc,.slice yA yn yc,.slice cA cn cc][j]?=some u→aH G b (o+k*6+j)=some u) ∧
   iA G l[k].head (.slice pA pn pc) (.slice dA dn dc) (.slice yA yn yc)∧au G (.sl 7 (l[k].cells.map aZ.dat)) (.slice cA cn cc):=by
 obtain ⟨b,o,cs,h1,h2,h3,h4⟩:=hg k l[k].dat (by simp [hk]);obtain ⟨pA,pn,pc,dA,dn,dc,yA,yn,yc,cA,cn,cc,rfl,h5,h6⟩:=h4.row;exact ⟨b,o,pA,pn,pc,dA,dn,dc,yA,yn,yc,cA,cn,cc,h1,h3,h5,h6⟩
theorem Kt {G:GH} {l:List aZ} {A:Option Addr} {k:Nat} (hk:k < l.length) (hg:∀ k r,(l.map aZ.dat)[k]?=some r→∃ b o cs,A=some ⟨b,o,none⟩∧cs.length=7∧(∀ j u,cs[j]?=some u→aH G b (o+k*7+j)=some u)∧aV G r cs) :
  ∃ b o pA pn pc dA dn dc yA yn yc fA fn fc,A=some ⟨b,o,none⟩∧(∀ j u,[vi l[k].id,.slice pA pn pc,vi l[k].head.marks.ins,vi l[k].head.marks.move,.slice dA dn dc,.slice yA yn yc,.slice fA fn fc][j]?=some u→aH G b (o+k*7+j)=some u) ∧
   iA G l[k].head (.slice pA pn pc) (.slice dA dn dc) (.slice yA yn yc)∧au G (.sl 11 (l[k].flow.map ay.dat)) (.slice fA fn fc):=by
 obtain ⟨b,o,cs,h1,h2,h3,h4⟩:=hg k l[k].dat (by simp [hk]);obtain ⟨pA,pn,pc,dA,dn,dc,yA,yn,yc,fA,fn,fc,rfl,h5,h6⟩:=h4.cell;exact ⟨b,o,pA,pn,pc,dA,dn,dc,yA,yn,yc,fA,fn,fc,h1,h3,h5,h6⟩
structure iE where
 (f p d y r s1 s2 s3 s4:Option Addr × Nat × Nat)
 (ins move:Int)
abbrev aQ (x:Option Addr × Nat × Nat):aj:=.slice x.1 x.2.1 x.2.2
abbrev iE.cells (D:iE):List aj:=[aQ D.f,aQ D.p,vi D.ins,vi D.move,aQ D.d,aQ D.y,aQ D.r,aQ D.s1,aQ D.s2,aQ D.s3,aQ D.s4]
abbrev iE.val (D:iE):aj:=.agg D.cells.toArray
instance aer:Ty prog 129 3 16 [.bool false,.bool false,.int .i64 0] true:=⟨by kernel_rfl,by kernel_rfl⟩
instance Tm:dR prog 68 2 2:=⟨by kernel_rfl⟩
instance Te:dR prog 129 2 2:=⟨by kernel_rfl⟩
theorem MJ:qE prog 129 [(0,1),(1,1),(2,1)] [.bool false,.bool false,.int .i64 0]:=⟨by kernel_rfl,by kernel_rfl⟩
instance ZP:dR prog 129 1 1:=⟨by kernel_rfl⟩
instance Cg:Ty prog 4 1 1 [.bool false] false:=⟨by kernel_rfl,by kernel_rfl⟩
instance vO:dR prog 38 0 0:=⟨by kernel_rfl⟩
structure qB where
 id:Int
 items:List ay
 body:Bool
 note:Bool
 tables:Int
mutual
def M0 (note:Bool) (t:Int):ay→List qB
 | .mk k _ i _ _ f r=>if k=6 then ⟨i,f,false,true,t⟩ :: Ch true t f else if k=7 then E8 note t r else []
def Ch (note:Bool) (t:Int):List ay→List qB
 | []=>[]
 | x :: l=>M0 note t x++Ch note t l
def E8 (note:Bool) (t:Int):List aU→List qB
 | []=>[]
 | r :: l=>M4 note t r++E8 note t l
def M4 (note:Bool) (t:Int):aU→List qB
 | .mk _ cs=>E5 note t cs
def E5 (note:Bool) (t:Int):List aZ→List qB
 | []=>[]
 | c :: l=>MZ note t c++E5 note t l
def MZ (note:Bool) (t:Int):aZ→List qB
 | .mk i _ f=>⟨i,f,false,note,t+1⟩ :: Ch note (t+1) f
end
def IQ (l:List ay):List qB:=⟨0,l,true,false,0⟩ :: Ch false 0 l
instance gV:Ty prog 38 11 232 [.slice none 0 0,.slice none 0 0,.int .i64 0,.int .i64 0,.slice none 0 0,.slice none 0 0,.slice none 0 0,.slice none 0 0,.slice none 0 0,.slice none 0 0,.slice none 0 0] true:=⟨by kernel_rfl,by kernel_rfl⟩
theorem EG {α:Type} {p:α→Bool} {A:List α} {k:Nat} (hk:k < A.length) (h:(A.take k).findIdx? p=none) (hp:p A[k]=false):(A.take (k+1)).findIdx? p=none:=by
 rw [List.findIdx?_eq_none_iff] at h ⊢;rw [fV hk];intro x hx
 rcases mJ.1 hx with hx|hx
 ·exact h x hx
 rw [tL.1 hx];exact hp
theorem wm {α:Type} {p:α→Bool} {A:List α} {k:Nat} (hk:k < A.length) (h:(A.take k).findIdx? p=none) (hp:p A[k]=true):A.findIdx? p=some k:=by
 have e:A.findIdx? p=(A.take k++A.drop k).findIdx? p:=by rw [List.take_append_drop]
 rw [e,List.findIdx?_append,h,qR hk,List.findIdx?_cons,hp]
 simp;omega

theorem aiC:∀ args w,(callFunc 171 args).run prog w=.ok (.enter 171 args) w:=enters func171 rfl (by kernel_rfl)
def tH (fv:aj) (G:GH) (d:List Dat) (b:Bool):Prop:=∀ (G1:GH) (w1:World) (cs:List aj),(∀ b o,G b=some o→G1 b=some o)→Hold G1 w1→aV G1 d cs →
 rO prog fv [.agg cs.toArray] w1 (bB w1 G1 fun u G'=>u=.bool b)
def oC (o:Option Nat):Int:=match o with|some i=>i|none=>-1
theorem aoH (G:GH) (w0:World) (hG:Hold G w0) (l:List aU) (p:aU→Bool) (v fv:aj) (hv:au G (.sl 6 (l.map aU.dat)) v) (hf:∀ x∈l,tH fv G x.dat (p x)) :
  Calls prog 171 #[v,fv] w0 (bB w0 G fun u G'=>u=vi (oC (l.findIdx? p))):=by
 obtain ⟨A,c,rfl,hc1,hc2,hg⟩:=hv.slice;have hml:maxLen=9223372036854775807:=rfl;rw [bO] at *;refine eN [(0,_),(1,_)] func171 rfl ntmps171 rfl rfl hG ?_;intro a H;refine kP H (SR fun _ K1=>aF K1 rfl (SQ fun _ K2=>SR fun _ K3=>Rm rfl (Rl tq rfl (Rm rfl (Kz K3 (SB ?_))))));clear H K1 K3;intro a H;skip;refine eH (ι:=Nat × GH) (Tc:=[(0,_),(1,_),(7,_)]) (Lc:=[]) (fun gh=>[(8,vi gh.1)]) (fun gh=>[]) (fun gh=>gh.2) (fun gh=>gh.1≤l.length∧(l.take gh.1).findIdx? p=none∧(∀ b o,G b=some o→gh.2 b=some o)) (fun gh=>l.length - gh.1) ((0,G)) (by exact (H).sub ⟨rfl,rfl,rfl,rfl,aL⟩) ?_ ?_
 ·exact ⟨by omega,rfl,fun _ _ h=>h⟩
 clear H;rintro ⟨k,g⟩ a w hI H;dsimp only at hI H;obtain ⟨hk,hno,hgm⟩:=hI;dsimp only [lca,bK] at H;refine kP H (SR fun _ K4=>Rc rfl (Kz K4 (SQ fun _ K5=>Cd rfl ?_ ?_))) <;> clear H K4
 ·intro h9 a H
  try have p9:=dT h9
  have hk2:k < l.length:=by omega
  obtain ⟨b,o,cs,rfl,hcl,hrow,hrep⟩:=hg k l[k].dat (by simp [hk2]);obtain ⟨pA,pn,pc,dA,dn,dc,yA,yn,yc,fA,fn,fc,rfl,-⟩:=hrep.row;replace hrow:=fun j u hj=>aG hgm (hrow j u hj);refine kP H (Kc K5 (SQ fun _ K6=>SB (SR fun _ K7=>Rm rfl (aF K7 rfl (SR fun _ K8=>Rm rfl (Rm rfl (Rm rfl (Ri tq jA rfl rfl ?_))))))));clear H K5 K7;intro a H;refine aR jA (cs:=[_,_,_,_,_,_]) H wn rfl rfl (fun j v hj=>H.hp.aH (hrow j v hj)) rfl ?_;clear H;intro a H;refine jF H wn rfl rfl (hf _ (lH hk2) _ _ _ hgm H.ro (hrep.mono hgm)) rfl ?_;clear H;rintro v16 qC a w rfl jW H;refine K8 _ _ ?_;clear K8;refine mW H rfl ?_ ?_
  ·intro h16
   try have p16:=dT h16
   refine kP H (SR fun _ K9=>Rm rfl (aF K9 rfl ?_));clear H K9;intro a H;refine lr H results171 rfl ?_
   first
    | exact H.rt (by rw [wm hk2 hno h16];rfl)
    | exact H.rt (by rw [show l.take k=l from gu (by omega)] at hno;rw [hno];rfl)
  intro h16
  try have p16:=dF h16
  refine kP H (Kc K6 (SC (Rd rfl (Rm rfl ?_))));clear H K6;intro a H;refine aC ?_;refine dx ((k+1,qC)) (by exact (H).sub ⟨rfl,rfl,rfl,rfl,aL⟩) ?_
  (try dsimp only);exact ⟨by omega,EG hk2 hno h16,fun b o h=>jW b o (hgm b o h)⟩
 intro h9 a H
 try have p9:=dF h9
 refine jI ?_;refine K2 _ _ ?_;clear K2;refine kP H (SR fun _ eU=>aF eU rfl ?_);clear H eU;intro a H;refine lr H results171 rfl ?_
 first
  | exact H.rt (by rw [wm hk2 hno h16];rfl)
  | exact H.rt (by rw [show l.take k=l from gu (by omega)] at hno;rw [hno];rfl)
def mH (p:Nat→Bool):Nat→Nat→Nat→Nat
 | 0,i,_=>i
 | f+1,i,j=>if i < j then (if p ((i+j) / 2) then mH p f i ((i+j) / 2) else mH p f ((i+j) / 2+1) j) else i
theorem Vl {p:Nat→Bool} {f i j:Nat} (hf:j - i≤f) (h:i < j):mH p f i j=if p ((i+j) / 2) then mH p (f - 1) i ((i+j) / 2) else mH p (f - 1) ((i+j) / 2+1) j:=by
 match f,hf with
 | 0,hf=>omega
 | f+1,_=>rw [mH,ak h];rfl
theorem Vi {p:Nat→Bool} {f i j:Nat} (h:¬ i < j):mH p f i j=i:=by
 match f with
 | 0=>rfl
 | f+1=>rw [mH,ah h]
theorem Pw {p:Nat→Bool}:∀ (f i j:Nat),i≤j→mH p f i j≤j
 | 0,i,j,h=>h
 | f+1,i,j,h=>by
  rw [mH]
  split
  ·split
   ·exact Nat.le_trans (Pw f i _ (by omega)) (by omega)
   ·exact Pw f _ j (by omega)
  ·exact h
theorem Vm {z:Int} (h1:0≤z) (h2:z < 18446744073709551616):IntKind.u64.wrap z=z:=by
 simp only [IntKind.wrap,IntKind.bits,IntKind.signed,xI,tJ,if_false]
 omega
theorem Vj (n:Nat):((n:Nat):Int).fdiv (2 ^ 1)=((n / 2:Nat):Int):=by
 rw [Int.fdiv_eq_ediv_of_nonneg _ (by decide)];omega
def Bn (a b:Int):Int:=if a < b then -1 else if b < a then 1 else 0
theorem NW {a b:Int}:Bn a b < 0↔a < b:=by
 unfold Bn
 split
 ·simp [*]
 ·split <;> simp_all
theorem NV {a b:Int}:Bn a b=0↔a=b:=by
 unfold Bn
 split
 ·omega
 ·split <;> omega
def iB (ks:List Int) (t:Int):Nat:=mH (fun h=>decide (¬ ks.getD h 0 < t)) ks.length 0 ks.length
def ni (ks:List Int) (t:Int):Bool:=decide (ks[iB ks t]?=some t)
theorem D9 (ks:List Int) (t:Int):iB ks t≤ks.length:=Pw _ _ _ (iH _)
theorem Lb {ks:List Int} {t:Int} (h:ni ks t=true):iB ks t < ks.length:=by
 have:=nS h
 exact (jO.1 this).1
theorem La {ks:List Int} {t:Int} {n:Nat} (e:iB ks t=n) (h:n < ks.length):ni ks t=decide (Bn ks[n] t=0):=by
 unfold ni
 rw [e,dZ h]
 simp [NV]
theorem Le {ks:List Int} {t:Int} {n:Nat} (e:iB ks t=n) (h:¬ n < ks.length):ni ks t=false:=by
 unfold ni
 rw [e,List.getElem?_eq_none (by omega)]
 simp
theorem getD_map {α:Type} {f:α→Int} {l:List α} {n:Nat} (h:n < l.length):(l.map f).getD n 0=f l[n]:=by
 simp [List.getD,h]
theorem MS:prog.underlying 322=some (.slice 296):=by kernel_rfl
instance:lD prog 322 (.slice 296):=⟨MS⟩
instance wF:Ty prog 296 6 56 [.int .i64 0,.int .i64 0,.int .i64 0,.int .i64 0,.int .i64 0,.string ⟨#[]⟩] true:=⟨by kernel_rfl,by kernel_rfl⟩
theorem aeb:qE prog 296 [(0,1),(1,1),(2,1),(3,1),(4,1),(5,1)] [.int .i64 0,.int .i64 0,.int .i64 0,.int .i64 0,.int .i64 0,.string ⟨#[]⟩]:=⟨by kernel_rfl,by kernel_rfl⟩
theorem Sw:∀ args w,(callFunc 174 args).run prog w=.ok (.enter 174 args) w:=enters func174 rfl (by kernel_rfl)
structure ko where
 num:Int
 IW:Int
 low:Int
 high:Int
 std:Int
 name:ByteArray
def ko.dat (x:ko):List Dat:=[li x.num,li x.IW,li x.low,li x.high,li x.std,.lf (.string x.name)]
def ko.cells (x:ko):List aj:=[vi x.num,vi x.IW,vi x.low,vi x.high,vi x.std,.string x.name]
def aS.cells (x:aS):List aj:=[vi x.key,vi x.value]
theorem aoY (G:GH) (x:ko):aV G x.dat x.cells:=by
 simp only [ko.dat,ko.cells,aV]
 exact ⟨_,_,rfl,by simp [au,Value.oneCell'],_,_,rfl,by simp [au,Value.oneCell'],_,_,rfl,by simp [au,Value.oneCell'],_,_,rfl,by simp [au,Value.oneCell'],_,_,rfl,by simp [au,Value.oneCell'],_,_,rfl,by simp [au,Value.oneCell'],rfl⟩
theorem aoX {G:GH} {x:ko} {cs:List aj} (h:aV G x.dat cs):cs=x.cells:=by
 simp only [ko.dat,aV,au] at h
 obtain ⟨v1,_,rfl,⟨rfl,-⟩,v2,_,rfl,⟨rfl,-⟩,v3,_,rfl,⟨rfl,-⟩,v4,_,rfl,⟨rfl,-⟩,v5,_,rfl,⟨rfl,-⟩,v6,_,rfl,⟨rfl,-⟩,rfl⟩:=h
 rfl
theorem aqB (G:GH) (x:aS):aV G x.dat x.cells:=by
 simp only [aS.dat,aS.cells,aV]
 exact ⟨_,_,rfl,by simp [au,Value.oneCell'],_,_,rfl,by simp [au,Value.oneCell'],rfl⟩
theorem Qa {G:GH} {x:aS} {cs:List aj} (h:aV G x.dat cs):cs=x.cells:=by
 simp only [aS.dat,aV,au] at h
 obtain ⟨v1,_,rfl,⟨rfl,-⟩,v2,_,rfl,⟨rfl,-⟩,rfl⟩:=h
 rfl
theorem abZ (G:GH):∀ (B A:List ko),bV G 6 (A.map ko.dat) (A.map ko.cells).flatten→bV G 6 ((A++B).map ko.dat) ((A++B).map ko.cells).flatten
 | [],A,h=>by rw [fZ];exact h
 | x :: B,A,h=>by
  have h2:=h.snoc (aoY G x) rfl;have h3:=abZ G B (A++[x]) (by simpa using h2)
  simpa using h3
theorem aoZ (G:GH) (A:List ko):bV G 6 (A.map ko.dat) (A.map ko.cells).flatten:=abZ G A [] bV.nil
theorem Vx {G:GH} {l:List ko} {A:Option Addr} {n c k:Nat} (hv:au G (.sl 6 (l.map ko.dat)) (.slice A n c)) (hk:k < l.length):∃ b o,A=some ⟨b,o,none⟩∧(∀ j u,[vi l[k].num,vi l[k].IW,vi l[k].low,vi l[k].high,vi l[k].std,.string l[k].name][j]?=some u→aH G b (o+k*6+j)=some u):=by
 obtain ⟨A',c',he,_,_,hg⟩:=hv.slice
 injection he with e1 e2 e3
 subst e1;obtain ⟨b,o,cs,h1,h2,h3,h4⟩:=hg k l[k].dat (by simp [hk]);obtain rfl:=aoX h4;exact ⟨b,o,h1,h3⟩
theorem adf (G:GH):∀ (B A:List aS),bV G 2 (A.map aS.dat) (A.map aS.cells).flatten→bV G 2 ((A++B).map aS.dat) ((A++B).map aS.cells).flatten
 | [],A,h=>by rw [fZ];exact h
 | x :: B,A,h=>by
  have h2:=h.snoc (aqB G x) rfl;have h3:=adf G B (A++[x]) (by simpa using h2)
  simpa using h3
theorem Qb (G:GH) (A:List aS):bV G 2 (A.map aS.dat) (A.map aS.cells).flatten:=adf G A [] bV.nil
theorem GX {G:GH} {l:List aS} {A:Option Addr} {n c k:Nat} (hv:au G (.sl 2 (l.map aS.dat)) (.slice A n c)) (hk:k < l.length):∃ b o,A=some ⟨b,o,none⟩∧(∀ j u,[vi l[k].key,vi l[k].value][j]?=some u→aH G b (o+k*2+j)=some u):=by
 obtain ⟨A',c',he,_,_,hg⟩:=hv.slice
 injection he with e1 e2 e3
 subst e1;obtain ⟨b,o,cs,h1,h2,h3,h4⟩:=hg k l[k].dat (by simp [hk]);obtain rfl:=Qa h4;exact ⟨b,o,h1,h3⟩
def GI:List ko:=[⟨1,1,0,1073741824,0,⟨#[99,104,97,114,97,99,116,101,114,45,115,116,121,108,101]⟩⟩,⟨2,1,0,1,0,⟨#[98,111,108,100]⟩⟩,⟨3,1,0,1,0,⟨#[105,116,97,108,105,99]⟩⟩,⟨4,1,0,3,0,⟨#[117,110,100,101,114,108,105,110,101]⟩⟩,⟨5,1,2,1638,22,⟨#[115,105,122,101]⟩⟩,⟨6,1,0,16777215,0,⟨#[99,111,108,111,114]⟩⟩,⟨7,1,0,63,0,⟨#[102,111,110,116]⟩⟩,⟨8,1,0,255,0,⟨#[108,97,110,103,117,97,103,101]⟩⟩,⟨9,1,-400,400,0,⟨#[114,97,105,115,101]⟩⟩,⟨10,1,0,1,0,⟨#[104,105,100,100,101,110]⟩⟩,⟨20,2,0,1073741824,0,⟨#[112,97,114,97,103,114,97,112,104,45,115,116,121,108,101]⟩⟩,⟨21,2,0,3,0,⟨#[97,108,105,103,110]⟩⟩,⟨22,2,-31680,31680,0,⟨#[108,101,102,116]⟩⟩,⟨23,2,-31680,31680,0,⟨#[114,105,103,104,116]⟩⟩,⟨24,2,-31680,31680,0,⟨#[102,105,114,115,116]⟩⟩,⟨25,2,0,31680,0,⟨#[98,101,102,111,114,101]⟩⟩,⟨26,2,0,31680,0,⟨#[97,102,116,101,114]⟩⟩,⟨27,2,0,31680,0,⟨#[108,101,97,100,105,110,103]⟩⟩,⟨28,2,0,1,0,⟨#[107,101,101,112,45,110,101,120,116]⟩⟩,⟨29,2,0,1,0,⟨#[107,101,101,112,45,108,105,110,101,115]⟩⟩,⟨30,2,0,1,1,⟨#[119,105,100,111,119]⟩⟩,⟨31,2,0,1,0,⟨#[112,97,103,101,45,98,101,102,111,114,101]⟩⟩,⟨32,2,0,9,0,⟨#[111,117,116,108,105,110,101]⟩⟩,⟨33,2,0,1073741824,0,⟨#[108,105,115,116]⟩⟩,⟨34,2,1,9,1,⟨#[108,101,118,101,108]⟩⟩,⟨35,2,0,32767,0,⟨#[114,101,115,116,97,114,116]⟩⟩,⟨36,2,1,31680,720,⟨#[116,97,98,45,115,116,111,112]⟩⟩,⟨37,2,0,1,0,⟨#[104,121,112,104,101,110,97,116,101]⟩⟩,⟨40,3,720,31680,12240,⟨#[112,97,103,101,45,119,105,100,116,104]⟩⟩,⟨41,3,720,31680,15840,⟨#[112,97,103,101,45,104,101,105,103,104,116]⟩⟩,⟨42,3,0,31680,1440,⟨#[116,111,112]⟩⟩,⟨43,3,0,31680,1440,⟨#[98,111,116,116,111,109]⟩⟩,⟨44,3,0,31680,1440,⟨#[105,110,110,101,114]⟩⟩,⟨45,3,0,31680,1440,⟨#[111,117,116,101,114]⟩⟩,⟨46,3,0,32767,0,⟨#[102,105,114,115,116,45,112,97,103,101]⟩⟩,⟨47,3,1,6,1,⟨#[112,97,103,101,45,102,111,114,109,97,116]⟩⟩,⟨50,4,0,1,0,⟨#[104,101,97,100,101,114]⟩⟩,⟨51,4,0,1,0,⟨#[99,97,110,116,45,115,112,108,105,116]⟩⟩,⟨52,4,0,31680,0,⟨#[114,111,119,45,104,101,105,103,104,116]⟩⟩,⟨60,5,1,32,1,⟨#[99,111,108,117,109,110,45,115,112,97,110]⟩⟩,⟨61,5,0,2,0,⟨#[118,101,114,116,105,99,97,108,45,109,101,114,103,101]⟩⟩,⟨62,5,0,31680,0,⟨#[99,101,108,108,45,119,105,100,116,104]⟩⟩,⟨63,5,0,16777215,16777215,⟨#[115,104,97,100,101]⟩⟩,⟨70,6,0,31680,0,⟨#[116,97,98,108,101,45,119,105,100,116,104]⟩⟩,⟨71,6,0,2,0,⟨#[116,97,98,108,101,45,97,108,105,103,110]⟩⟩]
set_option maxRecDepth 20000 in
theorem apa (G:GH) (w0:World) (hG:Hold G w0):Calls prog 250 #[] w0 (bB w0 G fun u G'=>au G' (.sl 6 (GI.map ko.dat)) u):=by
 refine eN [] func250 rfl ntmps250 rfl rfl hG ?_;intro a H;refine kP H (SR fun _ K1=>aF K1 rfl (SR fun _ K2=>?_));clear H K1;intro a H;(iterate 45 refine jl aeb [_,_,_,_,_,_] H wn rfl rfl rfl rfl ?_;clear H;intro a H);refine arP MS wF (GI.map ko.cells) H wn rfl rfl rfl rfl rfl rfl rfl ?_;clear H;intro b46 a w auV H;refine kH H (aF K2 rfl ?_);clear H K2;intro a H;refine lr H results250 rfl ?_;obtain ⟨Gz,hmz,hbz,H⟩:=H.eB;exact H.rt (au.fu (n:=45) (cap:=45) hbz rfl (bR _) (show 45≤maxLen by decide) (gu (bR _)) (aoZ _ _))
theorem Vu (G:GH) (w0:World) (hG:Hold G w0) (x:Int):Calls prog 174 #[vi x] w0 (bB w0 G fun u G'=>u=.bool false∧G=G'):=by
 refine eN [(0,_)] func174 rfl ntmps174 rfl rfl hG ?_;intro a H;exact kP H (SR fun _ K1=>aF K1 rfl (SR fun _ K2=>Rm rfl (Rm rfl (Rc rfl (aF K2 rfl (LR results174 rfl fun H=>H.rt ⟨by simp,rfl⟩))))))
theorem R8 {x y z:Int} (h:(x < y∧z=-1)∨(y < x∧z=1)∨(x=y∧z=0)):z=Bn x y:=by
 unfold Bn;split
 ·omega
 split <;> omega
theorem YA (G:GH) (w0:World) (hG:Hold G w0) (x y:Int):Calls prog 253 #[vi x,vi y] w0 (bB w0 G fun u G'=>u=vi (Bn x y)):=by
 refine eN [(0,_),(1,_)] func253 rfl ntmps253 rfl rfl hG ?_;intro a H;refine kP H (SR fun _ K1=>aF K1 rfl (SR fun _ K2=>Rm rfl ?_));clear H K1;intro a H;refine s_call Sw H wn rfl (Vu _ _ H.ro x) rfl ?_;clear H;rintro v8 G8 a w ⟨rfl,-⟩ qj H;refine kH H (aF K2 rfl (SR fun _ K3=>Rm rfl ?_));clear H K2;intro a H;refine s_call Sw H wn rfl (Vu _ _ H.ro y) rfl ?_;clear H;rintro v10 zD a w ⟨rfl,-⟩ yS H;refine kH H (aF K3 rfl (SQ fun _ K4=>SR fun _ K5=>Rm rfl (Kz K5 (Cd rfl ?_ ?_)))) <;> clear H K3 K5
 ·intro h11 a H
  cases h11
 intro h11 a H
 try have rH:=dF h11
 refine kP H (Kc K4 (SQ fun _ K6=>SR fun _ K7=>Rm rfl (Kz K7 (Cd rfl ?_ ?_)))) <;> clear H K4 K7
 ·intro jD a H
  cases jD
 intro jD a H
 try have qp:=dF jD
 refine kP H (Kc K6 (SQ fun _ K8=>SR fun _ K9=>Rm rfl (Rm rfl (Rc rfl (Kz K9 (Cd rfl ?_ ?_)))))) <;> clear H K6 K9
 ·intro h16 a H
  try have p16:=dT h16
  exact kP H (SR fun _ eU=>aF eU rfl (LR results253 rfl fun H=>H.rt (aB vi (R8 (by omega)))))
 intro h16 a H
 try have p16:=dF h16
 refine kP H (Kc K8 (SQ fun _ fQ=>SR fun _ iF=>Rm rfl (Rm rfl (Rc rfl (Kz iF (Cd rfl ?_ ?_)))))) <;> clear H K8 iF
 ·intro h19 a H
  try have uq:=dT h19
  exact kP H (SR fun _ jd=>aF jd rfl (LR results253 rfl fun H=>H.rt (aB vi (R8 (by omega)))))
 intro h19 a H
 try have uq:=dF h19
 exact kP H (Kc fQ (SR fun _ iW=>aF iW rfl (LR results253 rfl fun H=>H.rt (aB vi (R8 (by omega))))))
def lU (l:List aS):List aj:=(l.map aS.cells).flatten
theorem Sg:∀ l:List aS,(lU l).length=l.length*2
 | []=>rfl
 | p :: l=>by
  have:=Sg l
  simp only [lU,fG,List.flatten_cons,iM] at this ⊢
  rw [this,show p.cells.length=2 from rfl,kU];omega
theorem KD (l m:List aS):lU (l++m)=lU l++lU m:=by simp [lU]
theorem aqC {G:GH} {l:List aS} {xs:List aj} (h:bV G 2 (l.map aS.dat) xs):xs=lU l:=by
 obtain ⟨css,rfl,h2,h3⟩:=h;rw [bO] at h2
 have e:css=l.map aS.cells:=by
  apply List.ext_getElem?
  intro j;rw [sM]
  by_cases hj:j < l.length
  ·have h4:=(h3 j l[j].dat css[j] (by simp [hj]) (dZ (by omega))).1;rw [dZ hj,dZ (by omega),Qa h4];rfl
  rw [List.getElem?_eq_none (by omega),List.getElem?_eq_none (by omega)];rfl
 rw [e];rfl
theorem ahb {G:GH} {w0:World} (hO:gG G [] w0) (l:List aS) (v:aj) (hv:au G (.sl 2 (l.map aS.dat)) v) (hz:l.length≤4294967296) :
  Calls prog 168 #[v] w0 (fP w0 G [] fun u G' L'=>bX 187 2 u l.length (lU l) L'):=by
 obtain ⟨A,c,rfl,_,_,-⟩:=hv.slice;obtain ⟨hn,hc1,hc2,hnil,hx⟩:=hv.cells;rw [bO] at *;refine jr (N:=8) (T:=[(0,_)]) func168 rfl ntmps168 rfl rfl hO ?_;intro a H;refine kP H (SR fun _ K1=>aF K1 rfl (SQ fun _ K2=>SR fun _ K3=>Rm rfl ?_));clear H K1;intro a H;refine BX gW H wn rfl rfl ?_;clear H;intro a H;refine K3 _ _ ?_;clear K3;refine mW H rfl ?_ ?_
 ·intro h4
  refine kP H (SR fun _ K4=>aF K4 rfl ?_);clear H K4;intro a H;refine lr H results168 rfl ?_
  have e:l=[]:=by simpa using hnil (by simpa using h4)
  subst e;exact H.hp.dM bX.nil
 intro h4
 try have p4:=dF h4
 refine iw ?_;refine K2 _ _ ?_;clear K2;refine eY (fun _ K5=>?_)
 have hA:¬ A=none:=by intro e;rw [e] at h4;cases h4
 refine tO ?_;refine BS gW gL H wn rfl ?_;clear H;intro b5 a w hb5 H;refine kH H (Rm rfl ?_);clear H;intro a H
 by_cases hr0:l=[]
 ·subst hr0;refine BR gW gL H wn rfl rfl (bR _) rfl ?_;clear H;intro a H;exact kH H (gY K5 rfl (LR results168 rfl fun H=>H.hp.dM bX.empty))
 obtain ⟨b,o,xs,rfl,hxl,hxc,hx1,dQ⟩:=hx (by simpa using hr0);obtain rfl:=aqC dQ;refine mI (Li:=[]) (Lo:=[_]) (news:=lU l) gW gL rfl rfl H wn rfl rfl bX.empty hxl (fun j u hj=>H.hp.aH (hxc j u hj)) hx1 (by omega) (by omega) rfl ?_;clear H;intro v7 Lo a w hrow H;rw [gD,oL] at hrow;exact kH H (gY K5 rfl (LR results168 rfl fun H=>H.hp.dM hrow))
theorem acZ {G:GH} {w0:World} (hO:gG G [] w0) (l:List aS) (v:aj) (hv:au G (.sl 2 (l.map aS.dat)) v) (hz:l.length≤4294967296) :
  Calls prog 159 #[v] w0 (fP w0 G [] fun u G' L'=>bX 187 2 u l.length (lU l) L'):=by
 obtain ⟨A,c,rfl,_,_,-⟩:=hv.slice;rw [bO] at *;refine jr (N:=5) (T:=[(0,_)]) func159 rfl ntmps159 rfl rfl hO ?_;intro a H;refine kP H (SR fun _ K1=>aF K1 rfl (SR fun _ K2=>Rm rfl ?_));clear H K1;intro a H;refine gK Od (Li:=[]) (L:=[]) H wn rfl (ahb (Hp.owns (Li:=[]) H.hp) l _ hv hz) rfl ?_;clear H;rintro v4 G4 L4 a w hrw Je H;dsimp only [List.nil_append] at H;obtain ⟨A4,c4,rfl,-,-⟩:=hrw.shape;exact kH H (aF K2 rfl (LR results159 rfl fun H=>H.hp.dM hrw))
instance ala:dR prog 296 0 0:=⟨by kernel_rfl⟩
theorem Zt:∀ args w,(callFunc 253 args).run prog w=.ok (.enter 253 args) w:=enters func253 rfl (by kernel_rfl)
theorem Hr:prog.underlying 199=some (.int .u64):=by kernel_rfl
instance:lD prog 199 (.int .u64):=⟨Hr⟩
instance zM:dR prog 187 0 0:=⟨by kernel_rfl⟩
theorem ajv:∀ args w,(callFunc 252 args).run prog w=.ok (.enter 252 args) w:=enters func252 rfl (by kernel_rfl)
theorem ajy:∀ args w,(callFunc 261 args).run prog w=.ok (.enter 261 args) w:=enters func261 rfl (by kernel_rfl)
theorem Yn (G:GH) (w0:World) (hG:Hold G w0) (x:ko) (t:Int):rO prog (.func (.func 252) #[] #[]) [.agg x.cells.toArray,vi t] w0 (bB w0 G fun u G'=>u=vi (Bn x.num t)):=by
 refine jo (caps:=[]) ajv ?_;refine eN [(0,_),(1,_)] func252 rfl ntmps252 rfl rfl hG ?_;intro a H;refine fK (fun _ K1=>?_);refine dW (cs:=[_,_,_,_,_,_]) H wn rfl rfl rfl ?_;clear H;intro b2 a w hb2 H;refine kH H (aF K1 rfl (SR fun _ K2=>dU ala aT 0 rfl rfl (Rm rfl ?_)));clear H K1;intro a H;refine s_call Zt H wn rfl (YA _ _ H.ro x.num t) rfl ?_;clear H;rintro v8 G8 a w rfl qj H;exact kH H (aF K2 rfl (LR results252 rfl fun H=>H.rt rfl))
theorem afP (G:GH) (w0:World) (hG:Hold G w0) (l:List ko) (t:Int) (v:aj) (hv:au G (.sl 6 (l.map ko.dat)) v) (hl:l.length≤4294967296) :
  Calls prog 251 #[v,vi t,.func (.func 252) #[] #[]] w0 (bB w0 G fun u G'=>u=.tuple #[vi (iB (l.map ko.num) t),.bool (ni (l.map ko.num) t)]):=by
 obtain ⟨A,c,rfl,hc1,hc2,-⟩:=hv.slice;rw [bO] at *;obtain ⟨p,hp⟩:∃ p:Nat→Bool,p=fun h=>decide (¬ (l.map ko.num).getD h 0 < t):=⟨_,rfl⟩
 have hbs:iB (l.map ko.num) t=mH p l.length 0 l.length:=by rw [hp,iB,bO]
 refine eN [(0,_),(1,_),(2,_)] func251 rfl ntmps251 rfl rfl hG ?_;intro a H;refine kP H (SR fun _ K1=>Ra rfl (aF K1 rfl (SR fun _ K2=>Rm rfl (Rl MS rfl (aF K2 rfl (SR fun _ K3=>Rm rfl (Ra rfl (aF K3 rfl (SQ fun _ K4=>SB ?_)))))))));clear H K1 K2 K3;intro a H;skip;refine eH (ι:=Nat × Nat × Nat × GH) (Tc:=[(0,_),(1,_),(2,_),(8,_)]) (Lc:=[]) (fun gh=>[(9,vi gh.1),(10,vi gh.2.1)]) (fun gh=>[]) (fun gh=>gh.2.2.2) (fun gh=>gh.1≤gh.2.1∧gh.2.1≤l.length∧gh.2.1 - gh.1≤gh.2.2.1∧mH p gh.2.2.1 gh.1 gh.2.1=iB (l.map ko.num) t∧(∀ b o,G b=some o→gh.2.2.2 b=some o)) (fun gh=>gh.2.1 - gh.1) ((0,l.length,l.length,G)) (by exact (H).sub ⟨rfl,rfl,rfl,rfl,rfl,rfl,aL⟩) ?_ ?_
 ·exact ⟨iH _,bR _,Nat.sub_le _ _,hbs.symm,fun _ _ h=>h⟩
 clear H;rintro ⟨i,j,f,g⟩ a w hI H;dsimp only at hI H;obtain ⟨hij,hj,hf1,heq,hgm⟩:=hI;have BL:=hv.mono hgm;dsimp only [lca,bK] at H;refine kP H (SQ fun _ K5=>SR fun _ K6=>Rm rfl (Rm rfl (Rc rfl (Kz K6 (Cd rfl ?_ ?_))))) <;> clear H K6
 ·intro eT a H
  try have jZ:=dT eT
  have hlt:i < j:=by omega
  rw [Vl hf1 hlt] at heq;obtain ⟨m,hm⟩:∃ m,m=(i+j) / 2:=⟨_,rfl⟩;rw [← hm] at heq
  have hml:m < l.length:=by omega
  obtain ⟨b,o,rfl,hrow⟩:=Vx BL hml
  have hpm:p m=decide (¬ l[m].num < t):=by rw [hp];dsimp only;rw [getD_map hml]
  rw [hpm] at heq;refine kP H (Kc K5 (SB (SR fun _ K7=>Rm rfl (Rm rfl (Rd rfl ?_)))));clear H K5;intro a H;rw [show ((i:Int)+(j:Int))=((i+j:Nat):Int) by push_cast;rfl] at H;refine BU ((i+j:Nat):Int) Hr lq H wn rfl (Vm (by omega) (by omega)) rfl ?_;clear H;intro a H;refine Qw _ H wn rfl rfl rfl (by decide) rfl ?_;clear H;intro a H;rw [Vj,← hm] at H;refine BU (m:Int) lq Hr H wn rfl (Gx (by omega) (by omega)) rfl ?_;clear H;intro a H;refine kH H (aF K7 rfl (SR fun _ K8=>Rm rfl (Rm rfl (Rm rfl (Ri MS wF rfl rfl ?_)))));clear H K7;intro a H;refine aR wF (cs:=[_,_,_,_,_,_]) H wn rfl rfl (fun j v hj=>H.hp.aH (hrow j v hj)) rfl ?_;clear H;intro a H;refine kH H (Rm rfl ?_);clear H;intro a H;refine jF H wn rfl rfl (Yn _ _ H.ro l[m] t) rfl ?_;clear H;rintro v30 zF a w rfl BG H;refine kH H (Rc rfl (Kz K8 (Cd rfl ?_ ?_))) <;> clear H K8
  ·intro h31 a H
   try have p31:=dT h31
   rw [ah (by simpa using NW.1 p31)] at heq;refine kP H (SC (Rm rfl (Rd rfl (Ra rfl ?_))));clear H;intro a H;refine aC ?_;refine dx ((m+1,j,f - 1,zF)) (by exact (H).sub ⟨rfl,rfl,rfl,rfl,rfl,rfl,aL⟩) ?_
   (try dsimp only);exact ⟨by omega,hj,by omega,heq,fun b o h=>BG b o (hgm b o h)⟩
  intro h31 a H
  try have p31:=dF h31
  rw [ak (by simpa using fun h=>p31 (NW.2 h))] at heq;refine kP H (SC (Rm rfl (Ra rfl ?_)));clear H;intro a H;refine aC ?_;refine dx ((i,m,f - 1,zF)) (by exact (H).sub ⟨rfl,rfl,rfl,rfl,rfl,rfl,aL⟩) ?_
  (try dsimp only);exact ⟨by omega,by omega,by omega,heq,fun b o h=>BG b o (hgm b o h)⟩
 intro eT a H
 try have jZ:=dF eT
 refine jI ?_;refine K4 _ _ ?_;clear K4;refine eY (fun _ K9=>?_);rw [Vi (by omega)] at heq;refine kP H (SC (Rm rfl (Rm rfl (Rm rfl (Rc rfl (Rm rfl (Sp 39 rfl ?_ ?_))))))) <;> clear H
 ·intro jV a H
  try have p39:=dT jV
  have hil:i < l.length:=by omega
  obtain ⟨b,o,rfl,hrow⟩:=Vx BL hil;refine kH H (YM jV rfl (YM jV rfl (YM jV rfl (YI MS wF jV rfl rfl ?_))));clear H;intro a H;refine aR wF (cs:=[_,_,_,_,_,_]) H (wg H rfl rfl jV) rfl rfl (fun j v hj=>H.hp.aH (hrow j v hj)) rfl ?_;clear H;intro a H;refine kH H (YM jV rfl ?_);clear H;intro a H;refine jF H (wg H rfl rfl jV) rfl rfl (Yn _ _ H.ro l[i] t) rfl ?_;clear H;rintro v46 Q8 a w rfl aaT H;refine kH H (YC jV rfl (Pt jV rfl (Ra rfl (gY K9 rfl ?_))));clear H K9;intro a H;refine cK ?_;refine (fE H results251 (.cons (bq H rfl) (.cons (bq H rfl) .nil)) ?_).1;exact H.rt (by rw [La heq.symm (by rw [bO];omega),← heq];simp)
 intro jV a H
 try have p39:=dF jV
 refine kH H (fB jV rfl (fB jV rfl (fU jV rfl (Pf jV rfl (Ra rfl (gY K9 rfl ?_))))));clear H K9;intro a H;refine cK ?_;refine (fE H results251 (.cons (bq H rfl) (.cons (bq H rfl) .nil)) ?_).1;exact H.rt (by rw [Le heq.symm (by rw [bO];omega),← heq])
theorem Yo (G:GH) (w0:World) (hG:Hold G w0) (x:aS) (t:Int):rO prog (.func (.func 261) #[] #[]) [.agg x.cells.toArray,vi t] w0 (bB w0 G fun u G'=>u=vi (Bn x.key t)):=by
 refine jo (caps:=[]) ajy ?_;refine eN [(0,_),(1,_)] func261 rfl ntmps261 rfl rfl hG ?_;intro a H;refine fK (fun _ K1=>?_);refine dW (cs:=[_,_]) H wn rfl rfl rfl ?_;clear H;intro b2 a w hb2 H;refine kH H (aF K1 rfl (SR fun _ K2=>dU zM aT 0 rfl rfl (Rm rfl ?_)));clear H K1;intro a H;refine s_call Zt H wn rfl (YA _ _ H.ro x.key t) rfl ?_;clear H;rintro v8 G8 a w rfl qj H;exact kH H (aF K2 rfl (LR results261 rfl fun H=>H.rt rfl))
theorem afQ (G:GH) (w0:World) (hG:Hold G w0) (l:List aS) (t:Int) (v:aj) (hv:au G (.sl 2 (l.map aS.dat)) v) (hl:l.length≤4294967296) :
  Calls prog 260 #[v,vi t,.func (.func 261) #[] #[]] w0 (bB w0 G fun u G'=>u=.tuple #[vi (iB (l.map aS.key) t),.bool (ni (l.map aS.key) t)]):=by
 obtain ⟨A,c,rfl,hc1,hc2,-⟩:=hv.slice;rw [bO] at *;obtain ⟨p,hp⟩:∃ p:Nat→Bool,p=fun h=>decide (¬ (l.map aS.key).getD h 0 < t):=⟨_,rfl⟩
 have hbs:iB (l.map aS.key) t=mH p l.length 0 l.length:=by rw [hp,iB,bO]
 refine eN [(0,_),(1,_),(2,_)] func260 rfl ntmps260 rfl rfl hG ?_;intro a H;refine kP H (SR fun _ K1=>Ra rfl (aF K1 rfl (SR fun _ K2=>Rm rfl (Rl gW rfl (aF K2 rfl (SR fun _ K3=>Rm rfl (Ra rfl (aF K3 rfl (SQ fun _ K4=>SB ?_)))))))));clear H K1 K2 K3;intro a H;skip;refine eH (ι:=Nat × Nat × Nat × GH) (Tc:=[(0,_),(1,_),(2,_),(8,_)]) (Lc:=[]) (fun gh=>[(9,vi gh.1),(10,vi gh.2.1)]) (fun gh=>[]) (fun gh=>gh.2.2.2) (fun gh=>gh.1≤gh.2.1∧gh.2.1≤l.length∧gh.2.1 - gh.1≤gh.2.2.1∧mH p gh.2.2.1 gh.1 gh.2.1=iB (l.map aS.key) t∧(∀ b o,G b=some o→gh.2.2.2 b=some o)) (fun gh=>gh.2.1 - gh.1) ((0,l.length,l.length,G)) (by exact (H).sub ⟨rfl,rfl,rfl,rfl,rfl,rfl,aL⟩) ?_ ?_
 ·exact ⟨iH _,bR _,Nat.sub_le _ _,hbs.symm,fun _ _ h=>h⟩
 clear H;rintro ⟨i,j,f,g⟩ a w hI H;dsimp only at hI H;obtain ⟨hij,hj,hf1,heq,hgm⟩:=hI;have BL:=hv.mono hgm;dsimp only [lca,bK] at H;refine kP H (SQ fun _ K5=>SR fun _ K6=>Rm rfl (Rm rfl (Rc rfl (Kz K6 (Cd rfl ?_ ?_))))) <;> clear H K6
 ·intro eT a H
  try have jZ:=dT eT
  have hlt:i < j:=by omega
  rw [Vl hf1 hlt] at heq;obtain ⟨m,hm⟩:∃ m,m=(i+j) / 2:=⟨_,rfl⟩;rw [← hm] at heq
  have hml:m < l.length:=by omega
  obtain ⟨b,o,rfl,hrow⟩:=GX BL hml
  have hpm:p m=decide (¬ l[m].key < t):=by rw [hp];dsimp only;rw [getD_map hml]
  rw [hpm] at heq;refine kP H (Kc K5 (SB (SR fun _ K7=>Rm rfl (Rm rfl (Rd rfl ?_)))));clear H K5;intro a H;rw [show ((i:Int)+(j:Int))=((i+j:Nat):Int) by push_cast;rfl] at H;refine BU ((i+j:Nat):Int) Hr lq H wn rfl (Vm (by omega) (by omega)) rfl ?_;clear H;intro a H;refine Qw _ H wn rfl rfl rfl (by decide) rfl ?_;clear H;intro a H;rw [Vj,← hm] at H;refine BU (m:Int) lq Hr H wn rfl (Gx (by omega) (by omega)) rfl ?_;clear H;intro a H;refine kH H (aF K7 rfl (SR fun _ K8=>Rm rfl (Rm rfl (Rm rfl (Ri gW gL rfl rfl ?_)))));clear H K7;intro a H;refine aR gL (cs:=[_,_]) H wn rfl rfl (fun j v hj=>H.hp.aH (hrow j v hj)) rfl ?_;clear H;intro a H;refine kH H (Rm rfl ?_);clear H;intro a H;refine jF H wn rfl rfl (Yo _ _ H.ro l[m] t) rfl ?_;clear H;rintro v30 zF a w rfl BG H;refine kH H (Rc rfl (Kz K8 (Cd rfl ?_ ?_))) <;> clear H K8
  ·intro h31 a H
   try have p31:=dT h31
   rw [ah (by simpa using NW.1 p31)] at heq;refine kP H (SC (Rm rfl (Rd rfl (Ra rfl ?_))));clear H;intro a H;refine aC ?_;refine dx ((m+1,j,f - 1,zF)) (by exact (H).sub ⟨rfl,rfl,rfl,rfl,rfl,rfl,aL⟩) ?_
   (try dsimp only);exact ⟨by omega,hj,by omega,heq,fun b o h=>BG b o (hgm b o h)⟩
  intro h31 a H
  try have p31:=dF h31
  rw [ak (by simpa using fun h=>p31 (NW.2 h))] at heq;refine kP H (SC (Rm rfl (Ra rfl ?_)));clear H;intro a H;refine aC ?_;refine dx ((i,m,f - 1,zF)) (by exact (H).sub ⟨rfl,rfl,rfl,rfl,rfl,rfl,aL⟩) ?_
  (try dsimp only);exact ⟨by omega,by omega,by omega,heq,fun b o h=>BG b o (hgm b o h)⟩
 intro eT a H
 try have jZ:=dF eT
 refine jI ?_;refine K4 _ _ ?_;clear K4;refine eY (fun _ K9=>?_);rw [Vi (by omega)] at heq;refine kP H (SC (Rm rfl (Rm rfl (Rm rfl (Rc rfl (Rm rfl (Sp 39 rfl ?_ ?_))))))) <;> clear H
 ·intro jV a H
  try have p39:=dT jV
  have hil:i < l.length:=by omega
  obtain ⟨b,o,rfl,hrow⟩:=GX BL hil;refine kH H (YM jV rfl (YM jV rfl (YM jV rfl (YI gW gL jV rfl rfl ?_))));clear H;intro a H;refine aR gL (cs:=[_,_]) H (wg H rfl rfl jV) rfl rfl (fun j v hj=>H.hp.aH (hrow j v hj)) rfl ?_;clear H;intro a H;refine kH H (YM jV rfl ?_);clear H;intro a H;refine jF H (wg H rfl rfl jV) rfl rfl (Yo _ _ H.ro l[i] t) rfl ?_;clear H;rintro v46 Q8 a w rfl aaT H;refine kH H (YC jV rfl (Pt jV rfl (Ra rfl (gY K9 rfl ?_))));clear H K9;intro a H;refine cK ?_;refine (fE H results260 (.cons (bq H rfl) (.cons (bq H rfl) .nil)) ?_).1;exact H.rt (by rw [La heq.symm (by rw [bO];omega),← heq];simp)
 intro jV a H
 try have p39:=dF jV
 refine kH H (fB jV rfl (fB jV rfl (fU jV rfl (Pf jV rfl (Ra rfl (gY K9 rfl ?_))))));clear H K9;intro a H;refine cK ?_;refine (fE H results260 (.cons (bq H rfl) (.cons (bq H rfl) .nil)) ?_).1;exact H.rt (by rw [Le heq.symm (by rw [bO];omega),← heq])
theorem ajt:∀ args w,(callFunc 250 args).run prog w=.ok (.enter 250 args) w:=enters func250 rfl (by kernel_rfl)
theorem aju:∀ args w,(callFunc 251 args).run prog w=.ok (.enter 251 args) w:=enters func251 rfl (by kernel_rfl)
theorem sJ:prog.underlying 41=some (.slice 3):=by kernel_rfl
instance:lD prog 41 (.slice 3):=⟨sJ⟩
theorem ajw:∀ args w,(callFunc 254 args).run prog w=.ok (.enter 254 args) w:=enters func254 rfl (by kernel_rfl)
theorem Zq:∀ args w,(callFunc 226 args).run prog w=.ok (.enter 226 args) w:=enters func226 rfl (by kernel_rfl)
theorem ajk:∀ args w,(callFunc 228 args).run prog w=.ok (.enter 228 args) w:=enters func228 rfl (by kernel_rfl)
instance alb:dR prog 296 1 1:=⟨by kernel_rfl⟩
theorem ajj:∀ args w,(callFunc 227 args).run prog w=.ok (.enter 227 args) w:=enters func227 rfl (by kernel_rfl)
instance:dR prog 296 2 2:=⟨by kernel_rfl⟩
instance:dR prog 296 3 3:=⟨by kernel_rfl⟩
def kz:ko:=⟨0,0,0,0,0,⟨#[]⟩⟩
def GD:List Int:=GI.map ko.num
def uN (k:Int):ko × Bool:=if ni GD k=true then (GI.getD (iB GD k) kz,true) else (kz,false)
theorem find_spec (G:GH) (w0:World) (hG:Hold G w0) (k:Int):Calls prog 226 #[vi k] w0 (bB w0 G fun u G'=>u=.tuple #[.agg (uN k).1.cells.toArray,.bool (uN k).2]):=by
 refine eN [(0,_)] func226 rfl ntmps226 rfl rfl hG ?_;refine av 1 ?_;intro a H;refine dJ wF H wn rfl ?_;clear H;intro b2 a w hb2 H;refine bJ 3 H ?_;clear H;intro a H;refine s_call ajt H wn rfl (apa _ _ H.ro) rfl ?_;clear H;rintro v7 G7 a w hv7 BH H;obtain ⟨A,c,rfl,hc1,hc2,-⟩:=hv7.slice;rw [bO] at *;refine bJ 5 H ?_;clear H;intro a H;refine s_call aju H wn rfl (afP _ _ H.ro GI k _ hv7 (by decide)) rfl ?_;clear H;rintro v11 tC a w rfl CV H;have hv7:=hv7.mono CV;have hkn:GI.map ko.num=GD:=rfl;rw [hkn] at H;obtain ⟨n,hn⟩:∃ n,n=iB GD k:=⟨_,rfl⟩;obtain ⟨q,hq⟩:∃ q,q=ni GD k:=⟨_,rfl⟩;rw [← hn,← hq] at H;refine bJ 1 H ?_;clear H;intro a H;(iterate 2 refine lQ H wn rfl rfl rfl ?_;clear H;intro a H);refine lW 8 H ?_ ?_ <;> clear H
 ·intro lX
  refine av 1 ?_;intro a H;refine jl aeb [_,_,_,_,_,_] H wn rfl rfl rfl rfl ?_;clear H;intro a H;refine aY wF 0 (vs:=[_,_,_,_,_,_]) _ H wn rfl rfl rfl rfl rfl rfl rfl rfl ?_;clear H;intro w H;dsimp only [List.set,setRow] at H;refine bJ 2 H ?_;clear H;intro a H;refine cK ?_;refine (fE H results226 (.cons (nH wF (cs:=[_,_,_,_,_,_]) H rfl rfl (H.hp.bT 0 rfl rfl)) (.cons (bq H rfl) .nil)) ?_).1;exact H.rt (by rw [uN,ah (by rw [← hq];simpa using lX)];rfl)
 intro lX
 have hlt:n < GI.length:=by have:=Lb (ks:=GD) (t:=k) (by rw [← hq];simpa using lX);rw [← hn] at this;simpa [GD] using this
 obtain ⟨b,o,rfl,hrow⟩:=Vx hv7 hlt;refine av 5 ?_;intro a H;refine aR wF (cs:=[_,_,_,_,_,_]) H wn rfl rfl (fun j v hj=>H.hp.aH (hrow j v hj)) rfl ?_;clear H;intro a H;refine aY wF 0 (vs:=[_,_,_,_,_,_]) _ H wn rfl rfl rfl rfl rfl rfl rfl rfl ?_;clear H;intro w H;dsimp only [List.set,setRow] at H;refine bJ 2 H ?_;clear H;intro a H;refine cK ?_;refine (fE H results226 (.cons (nH wF (cs:=[_,_,_,_,_,_]) H rfl rfl (H.hp.bT 0 rfl rfl)) (.cons (bq H rfl) .nil)) ?_).1;exact H.rt (by rw [uN,ak (by rw [← hq];simpa using lX),← hn,List.getD_eq_getElem?_getD,dZ hlt];rfl)
def eP (e:Int):List Int:=if e=1∨e=4∨e=5∨e=6 then [1] else if e=2 then [1,2] else if e=3 then [3] else if e=7 then [6] else if e=9 then [4] else if e=10 then [5] else []
theorem fH (G:GH) (A:List Int):bV G 1 (A.map fun k=>[li k]) (A.map vi):=by
 refine ⟨A.map fun k=>[vi k],?_,by simp,fun j r cs hr hc=>?_⟩
 ·induction A with
  | nil=>rfl
  | cons a A ih=>simpa using ih
 rw [sM] at hr hc
 cases h:A[j]? with
 | none=>rw [h] at hr;cases hr
 | some x =>
  rw [h] at hr hc
  cases hr;cases hc
  exact ⟨by simp only [aV];exact ⟨_,_,rfl,by simp [au,Value.oneCell'],rfl⟩,rfl⟩
theorem alA (G:GH) (w0:World) (hG:Hold G w0) (e:Int):Calls prog 228 #[vi e] w0 (bB w0 G fun u G'=>au G' (.sl 1 ((eP e).map fun k=>[li k])) u):=by
  refine eN [(0,_)] func228 rfl ntmps228 rfl rfl hG ?_;refine goC 13 ?_ ?_
  · intro h4
    try have p4:=dT h4
    refine av 3 ?_;intro a H;refine gQ sJ aT [_] [_] H wn rfl rfl rfl rfl rfl (by intro i q h;match i,h with|0,h=>exact h|n+1,h=>simp at h) rfl rfl ?_;clear H;intro b9 a w uT H;refine bJ 2 H ?_;clear H;intro a H;refine lr H results228 rfl ?_
    first
      | exact H.rt (by rw [eP,ah (by omega),ah (by omega),ah (by omega),ah (by omega),ah (by omega),ah (by omega)];exact au.mg rfl (by decide))
      | (obtain ⟨Gz,hmz,hbz,H⟩:=H.eB
         first
           | exact H.rt (by rw [eP,ak (by omega)];exact au.fu (n:=1) (cap:=1) hbz rfl (bR _) (show 1≤maxLen by decide) rfl (fH _ [1]))
           | exact H.rt (by rw [eP,ah (by omega),ak (by omega)];exact au.fu (n:=2) (cap:=2) hbz rfl (bR _) (show 2≤maxLen by decide) rfl (fH _ [1,2]))
           | exact H.rt (by rw [eP,ah (by omega),ah (by omega),ak (by omega)];exact au.fu (n:=1) (cap:=1) hbz rfl (bR _) (show 1≤maxLen by decide) rfl (fH _ [3]))
           | exact H.rt (by rw [eP,ah (by omega),ah (by omega),ah (by omega),ak (by omega)];exact au.fu (n:=1) (cap:=1) hbz rfl (bR _) (show 1≤maxLen by decide) rfl (fH _ [6]))
           | exact H.rt (by rw [eP,ah (by omega),ah (by omega),ah (by omega),ah (by omega),ak (by omega)];exact au.fu (n:=1) (cap:=1) hbz rfl (bR _) (show 1≤maxLen by decide) rfl (fH _ [4]))
           | exact H.rt (by rw [eP,ah (by omega),ah (by omega),ah (by omega),ah (by omega),ah (by omega),ak (by omega)];exact au.fu (n:=1) (cap:=1) hbz rfl (bR _) (show 1≤maxLen by decide) rfl (fH _ [5])))
  intro h4
  try have p4:=dF h4
  refine goC 4 ?_ ?_
  · intro h4
    try have p4:=dT h4
    refine av 3 ?_;intro a H;refine gQ sJ aT [_] [_] H wn rfl rfl rfl rfl rfl (by intro i q h;match i,h with|0,h=>exact h|n+1,h=>simp at h) rfl rfl ?_;clear H;intro b9 a w uT H;refine bJ 2 H ?_;clear H;intro a H;refine lr H results228 rfl ?_
    first
      | exact H.rt (by rw [eP,ah (by omega),ah (by omega),ah (by omega),ah (by omega),ah (by omega),ah (by omega)];exact au.mg rfl (by decide))
      | (obtain ⟨Gz,hmz,hbz,H⟩:=H.eB
         first
           | exact H.rt (by rw [eP,ak (by omega)];exact au.fu (n:=1) (cap:=1) hbz rfl (bR _) (show 1≤maxLen by decide) rfl (fH _ [1]))
           | exact H.rt (by rw [eP,ah (by omega),ak (by omega)];exact au.fu (n:=2) (cap:=2) hbz rfl (bR _) (show 2≤maxLen by decide) rfl (fH _ [1,2]))
           | exact H.rt (by rw [eP,ah (by omega),ah (by omega),ak (by omega)];exact au.fu (n:=1) (cap:=1) hbz rfl (bR _) (show 1≤maxLen by decide) rfl (fH _ [3]))
           | exact H.rt (by rw [eP,ah (by omega),ah (by omega),ah (by omega),ak (by omega)];exact au.fu (n:=1) (cap:=1) hbz rfl (bR _) (show 1≤maxLen by decide) rfl (fH _ [6]))
           | exact H.rt (by rw [eP,ah (by omega),ah (by omega),ah (by omega),ah (by omega),ak (by omega)];exact au.fu (n:=1) (cap:=1) hbz rfl (bR _) (show 1≤maxLen by decide) rfl (fH _ [4]))
           | exact H.rt (by rw [eP,ah (by omega),ah (by omega),ah (by omega),ah (by omega),ah (by omega),ak (by omega)];exact au.fu (n:=1) (cap:=1) hbz rfl (bR _) (show 1≤maxLen by decide) rfl (fH _ [5])))
  intro h4
  try have p4:=dF h4
  refine goC 4 ?_ ?_
  · intro h4
    try have p4:=dT h4
    refine av 3 ?_;intro a H;refine gQ sJ aT [_] [_] H wn rfl rfl rfl rfl rfl (by intro i q h;match i,h with|0,h=>exact h|n+1,h=>simp at h) rfl rfl ?_;clear H;intro b9 a w uT H;refine bJ 2 H ?_;clear H;intro a H;refine lr H results228 rfl ?_
    first
      | exact H.rt (by rw [eP,ah (by omega),ah (by omega),ah (by omega),ah (by omega),ah (by omega),ah (by omega)];exact au.mg rfl (by decide))
      | (obtain ⟨Gz,hmz,hbz,H⟩:=H.eB
         first
           | exact H.rt (by rw [eP,ak (by omega)];exact au.fu (n:=1) (cap:=1) hbz rfl (bR _) (show 1≤maxLen by decide) rfl (fH _ [1]))
           | exact H.rt (by rw [eP,ah (by omega),ak (by omega)];exact au.fu (n:=2) (cap:=2) hbz rfl (bR _) (show 2≤maxLen by decide) rfl (fH _ [1,2]))
           | exact H.rt (by rw [eP,ah (by omega),ah (by omega),ak (by omega)];exact au.fu (n:=1) (cap:=1) hbz rfl (bR _) (show 1≤maxLen by decide) rfl (fH _ [3]))
           | exact H.rt (by rw [eP,ah (by omega),ah (by omega),ah (by omega),ak (by omega)];exact au.fu (n:=1) (cap:=1) hbz rfl (bR _) (show 1≤maxLen by decide) rfl (fH _ [6]))
           | exact H.rt (by rw [eP,ah (by omega),ah (by omega),ah (by omega),ah (by omega),ak (by omega)];exact au.fu (n:=1) (cap:=1) hbz rfl (bR _) (show 1≤maxLen by decide) rfl (fH _ [4]))
           | exact H.rt (by rw [eP,ah (by omega),ah (by omega),ah (by omega),ah (by omega),ah (by omega),ak (by omega)];exact au.fu (n:=1) (cap:=1) hbz rfl (bR _) (show 1≤maxLen by decide) rfl (fH _ [5])))
  intro h4
  try have p4:=dF h4
  refine goB 4 ?_ ?_
  · intro p4
    refine av 1 ?_;intro a H;refine gQ sJ aT [_] [_] H wn rfl rfl rfl rfl rfl (by intro i q h;match i,h with|0,h=>exact h|n+1,h=>simp at h) rfl rfl ?_;clear H;intro b9 a w uT H;refine bJ 2 H ?_;clear H;intro a H;refine lr H results228 rfl ?_
    first
      | exact H.rt (by rw [eP,ah (by omega),ah (by omega),ah (by omega),ah (by omega),ah (by omega),ah (by omega)];exact au.mg rfl (by decide))
      | (obtain ⟨Gz,hmz,hbz,H⟩:=H.eB
         first
           | exact H.rt (by rw [eP,ak (by omega)];exact au.fu (n:=1) (cap:=1) hbz rfl (bR _) (show 1≤maxLen by decide) rfl (fH _ [1]))
           | exact H.rt (by rw [eP,ah (by omega),ak (by omega)];exact au.fu (n:=2) (cap:=2) hbz rfl (bR _) (show 2≤maxLen by decide) rfl (fH _ [1,2]))
           | exact H.rt (by rw [eP,ah (by omega),ah (by omega),ak (by omega)];exact au.fu (n:=1) (cap:=1) hbz rfl (bR _) (show 1≤maxLen by decide) rfl (fH _ [3]))
           | exact H.rt (by rw [eP,ah (by omega),ah (by omega),ah (by omega),ak (by omega)];exact au.fu (n:=1) (cap:=1) hbz rfl (bR _) (show 1≤maxLen by decide) rfl (fH _ [6]))
           | exact H.rt (by rw [eP,ah (by omega),ah (by omega),ah (by omega),ah (by omega),ak (by omega)];exact au.fu (n:=1) (cap:=1) hbz rfl (bR _) (show 1≤maxLen by decide) rfl (fH _ [4]))
           | exact H.rt (by rw [eP,ah (by omega),ah (by omega),ah (by omega),ah (by omega),ah (by omega),ak (by omega)];exact au.fu (n:=1) (cap:=1) hbz rfl (bR _) (show 1≤maxLen by decide) rfl (fH _ [5])))
  intro p4
  refine goB 4 ?_ ?_
  · intro iU
    refine av 1 ?_;intro a H;refine gQ sJ aT [_,_] [_,_] H wn rfl rfl rfl rfl rfl (by intro i q h;match i,h with|0,h=>exact h|1,h=>exact h|n+2,h=>simp at h) rfl rfl ?_;clear H;intro b12 a w FR H;refine bJ 2 H ?_;clear H;intro a H;refine lr H results228 rfl ?_
    first
      | exact H.rt (by rw [eP,ah (by omega),ah (by omega),ah (by omega),ah (by omega),ah (by omega),ah (by omega)];exact au.mg rfl (by decide))
      | (obtain ⟨Gz,hmz,hbz,H⟩:=H.eB
         first
           | exact H.rt (by rw [eP,ak (by omega)];exact au.fu (n:=1) (cap:=1) hbz rfl (bR _) (show 1≤maxLen by decide) rfl (fH _ [1]))
           | exact H.rt (by rw [eP,ah (by omega),ak (by omega)];exact au.fu (n:=2) (cap:=2) hbz rfl (bR _) (show 2≤maxLen by decide) rfl (fH _ [1,2]))
           | exact H.rt (by rw [eP,ah (by omega),ah (by omega),ak (by omega)];exact au.fu (n:=1) (cap:=1) hbz rfl (bR _) (show 1≤maxLen by decide) rfl (fH _ [3]))
           | exact H.rt (by rw [eP,ah (by omega),ah (by omega),ah (by omega),ak (by omega)];exact au.fu (n:=1) (cap:=1) hbz rfl (bR _) (show 1≤maxLen by decide) rfl (fH _ [6]))
           | exact H.rt (by rw [eP,ah (by omega),ah (by omega),ah (by omega),ah (by omega),ak (by omega)];exact au.fu (n:=1) (cap:=1) hbz rfl (bR _) (show 1≤maxLen by decide) rfl (fH _ [4]))
           | exact H.rt (by rw [eP,ah (by omega),ah (by omega),ah (by omega),ah (by omega),ah (by omega),ak (by omega)];exact au.fu (n:=1) (cap:=1) hbz rfl (bR _) (show 1≤maxLen by decide) rfl (fH _ [5])))
  intro iU
  refine goB 4 ?_ ?_
  · intro qp
    refine av 1 ?_;intro a H;refine gQ sJ aT [_] [_] H wn rfl rfl rfl rfl rfl (by intro i q h;match i,h with|0,h=>exact h|n+1,h=>simp at h) rfl rfl ?_;clear H;intro b15 a w amn H;refine bJ 2 H ?_;clear H;intro a H;refine lr H results228 rfl ?_
    first
      | exact H.rt (by rw [eP,ah (by omega),ah (by omega),ah (by omega),ah (by omega),ah (by omega),ah (by omega)];exact au.mg rfl (by decide))
      | (obtain ⟨Gz,hmz,hbz,H⟩:=H.eB
         first
           | exact H.rt (by rw [eP,ak (by omega)];exact au.fu (n:=1) (cap:=1) hbz rfl (bR _) (show 1≤maxLen by decide) rfl (fH _ [1]))
           | exact H.rt (by rw [eP,ah (by omega),ak (by omega)];exact au.fu (n:=2) (cap:=2) hbz rfl (bR _) (show 2≤maxLen by decide) rfl (fH _ [1,2]))
           | exact H.rt (by rw [eP,ah (by omega),ah (by omega),ak (by omega)];exact au.fu (n:=1) (cap:=1) hbz rfl (bR _) (show 1≤maxLen by decide) rfl (fH _ [3]))
           | exact H.rt (by rw [eP,ah (by omega),ah (by omega),ah (by omega),ak (by omega)];exact au.fu (n:=1) (cap:=1) hbz rfl (bR _) (show 1≤maxLen by decide) rfl (fH _ [6]))
           | exact H.rt (by rw [eP,ah (by omega),ah (by omega),ah (by omega),ah (by omega),ak (by omega)];exact au.fu (n:=1) (cap:=1) hbz rfl (bR _) (show 1≤maxLen by decide) rfl (fH _ [4]))
           | exact H.rt (by rw [eP,ah (by omega),ah (by omega),ah (by omega),ah (by omega),ah (by omega),ak (by omega)];exact au.fu (n:=1) (cap:=1) hbz rfl (bR _) (show 1≤maxLen by decide) rfl (fH _ [5])))
  intro qp
  refine goB 4 ?_ ?_
  · intro p16
    refine av 1 ?_;intro a H;refine gQ sJ aT [_] [_] H wn rfl rfl rfl rfl rfl (by intro i q h;match i,h with|0,h=>exact h|n+1,h=>simp at h) rfl rfl ?_;clear H;intro b18 a w OQ H;refine bJ 2 H ?_;clear H;intro a H;refine lr H results228 rfl ?_
    first
      | exact H.rt (by rw [eP,ah (by omega),ah (by omega),ah (by omega),ah (by omega),ah (by omega),ah (by omega)];exact au.mg rfl (by decide))
      | (obtain ⟨Gz,hmz,hbz,H⟩:=H.eB
         first
           | exact H.rt (by rw [eP,ak (by omega)];exact au.fu (n:=1) (cap:=1) hbz rfl (bR _) (show 1≤maxLen by decide) rfl (fH _ [1]))
           | exact H.rt (by rw [eP,ah (by omega),ak (by omega)];exact au.fu (n:=2) (cap:=2) hbz rfl (bR _) (show 2≤maxLen by decide) rfl (fH _ [1,2]))
           | exact H.rt (by rw [eP,ah (by omega),ah (by omega),ak (by omega)];exact au.fu (n:=1) (cap:=1) hbz rfl (bR _) (show 1≤maxLen by decide) rfl (fH _ [3]))
           | exact H.rt (by rw [eP,ah (by omega),ah (by omega),ah (by omega),ak (by omega)];exact au.fu (n:=1) (cap:=1) hbz rfl (bR _) (show 1≤maxLen by decide) rfl (fH _ [6]))
           | exact H.rt (by rw [eP,ah (by omega),ah (by omega),ah (by omega),ah (by omega),ak (by omega)];exact au.fu (n:=1) (cap:=1) hbz rfl (bR _) (show 1≤maxLen by decide) rfl (fH _ [4]))
           | exact H.rt (by rw [eP,ah (by omega),ah (by omega),ah (by omega),ah (by omega),ah (by omega),ak (by omega)];exact au.fu (n:=1) (cap:=1) hbz rfl (bR _) (show 1≤maxLen by decide) rfl (fH _ [5])))
  intro p16
  refine goB 4 ?_ ?_
  · intro uq
    refine av 1 ?_;intro a H;refine gQ sJ aT [_] [_] H wn rfl rfl rfl rfl rfl (by intro i q h;match i,h with|0,h=>exact h|n+1,h=>simp at h) rfl rfl ?_;clear H;intro b21 a w auO H;refine bJ 2 H ?_;clear H;intro a H;refine lr H results228 rfl ?_
    first
      | exact H.rt (by rw [eP,ah (by omega),ah (by omega),ah (by omega),ah (by omega),ah (by omega),ah (by omega)];exact au.mg rfl (by decide))
      | (obtain ⟨Gz,hmz,hbz,H⟩:=H.eB
         first
           | exact H.rt (by rw [eP,ak (by omega)];exact au.fu (n:=1) (cap:=1) hbz rfl (bR _) (show 1≤maxLen by decide) rfl (fH _ [1]))
           | exact H.rt (by rw [eP,ah (by omega),ak (by omega)];exact au.fu (n:=2) (cap:=2) hbz rfl (bR _) (show 2≤maxLen by decide) rfl (fH _ [1,2]))
           | exact H.rt (by rw [eP,ah (by omega),ah (by omega),ak (by omega)];exact au.fu (n:=1) (cap:=1) hbz rfl (bR _) (show 1≤maxLen by decide) rfl (fH _ [3]))
           | exact H.rt (by rw [eP,ah (by omega),ah (by omega),ah (by omega),ak (by omega)];exact au.fu (n:=1) (cap:=1) hbz rfl (bR _) (show 1≤maxLen by decide) rfl (fH _ [6]))
           | exact H.rt (by rw [eP,ah (by omega),ah (by omega),ah (by omega),ah (by omega),ak (by omega)];exact au.fu (n:=1) (cap:=1) hbz rfl (bR _) (show 1≤maxLen by decide) rfl (fH _ [4]))
           | exact H.rt (by rw [eP,ah (by omega),ah (by omega),ah (by omega),ah (by omega),ah (by omega),ak (by omega)];exact au.fu (n:=1) (cap:=1) hbz rfl (bR _) (show 1≤maxLen by decide) rfl (fH _ [5])))
  intro uq
  refine goB 4 ?_ ?_
  · intro jk
    refine av 1 ?_;intro a H;refine gQ sJ aT [_] [_] H wn rfl rfl rfl rfl rfl (by intro i q h;match i,h with|0,h=>exact h|n+1,h=>simp at h) rfl rfl ?_;clear H;intro b24 a w auQ H;refine bJ 2 H ?_;clear H;intro a H;refine lr H results228 rfl ?_
    first
      | exact H.rt (by rw [eP,ah (by omega),ah (by omega),ah (by omega),ah (by omega),ah (by omega),ah (by omega)];exact au.mg rfl (by decide))
      | (obtain ⟨Gz,hmz,hbz,H⟩:=H.eB
         first
           | exact H.rt (by rw [eP,ak (by omega)];exact au.fu (n:=1) (cap:=1) hbz rfl (bR _) (show 1≤maxLen by decide) rfl (fH _ [1]))
           | exact H.rt (by rw [eP,ah (by omega),ak (by omega)];exact au.fu (n:=2) (cap:=2) hbz rfl (bR _) (show 2≤maxLen by decide) rfl (fH _ [1,2]))
           | exact H.rt (by rw [eP,ah (by omega),ah (by omega),ak (by omega)];exact au.fu (n:=1) (cap:=1) hbz rfl (bR _) (show 1≤maxLen by decide) rfl (fH _ [3]))
           | exact H.rt (by rw [eP,ah (by omega),ah (by omega),ah (by omega),ak (by omega)];exact au.fu (n:=1) (cap:=1) hbz rfl (bR _) (show 1≤maxLen by decide) rfl (fH _ [6]))
           | exact H.rt (by rw [eP,ah (by omega),ah (by omega),ah (by omega),ah (by omega),ak (by omega)];exact au.fu (n:=1) (cap:=1) hbz rfl (bR _) (show 1≤maxLen by decide) rfl (fH _ [4]))
           | exact H.rt (by rw [eP,ah (by omega),ah (by omega),ah (by omega),ah (by omega),ah (by omega),ak (by omega)];exact au.fu (n:=1) (cap:=1) hbz rfl (bR _) (show 1≤maxLen by decide) rfl (fH _ [5])))
  intro jk
  refine av 4 ?_;intro a H;refine lr H results228 rfl ?_
  first
    | exact H.rt (by rw [eP,ah (by omega),ah (by omega),ah (by omega),ah (by omega),ah (by omega),ah (by omega)];exact au.mg rfl (by decide))
    | (obtain ⟨Gz,hmz,hbz,H⟩:=H.eB
       first
         | exact H.rt (by rw [eP,ak (by omega)];exact au.fu (n:=1) (cap:=1) hbz rfl (bR _) (show 1≤maxLen by decide) rfl (fH _ [1]))
         | exact H.rt (by rw [eP,ah (by omega),ak (by omega)];exact au.fu (n:=2) (cap:=2) hbz rfl (bR _) (show 2≤maxLen by decide) rfl (fH _ [1,2]))
         | exact H.rt (by rw [eP,ah (by omega),ah (by omega),ak (by omega)];exact au.fu (n:=1) (cap:=1) hbz rfl (bR _) (show 1≤maxLen by decide) rfl (fH _ [3]))
         | exact H.rt (by rw [eP,ah (by omega),ah (by omega),ah (by omega),ak (by omega)];exact au.fu (n:=1) (cap:=1) hbz rfl (bR _) (show 1≤maxLen by decide) rfl (fH _ [6]))
         | exact H.rt (by rw [eP,ah (by omega),ah (by omega),ah (by omega),ah (by omega),ak (by omega)];exact au.fu (n:=1) (cap:=1) hbz rfl (bR _) (show 1≤maxLen by decide) rfl (fH _ [4]))
         | exact H.rt (by rw [eP,ah (by omega),ah (by omega),ah (by omega),ah (by omega),ah (by omega),ak (by omega)];exact au.fu (n:=1) (cap:=1) hbz rfl (bR _) (show 1≤maxLen by decide) rfl (fH _ [5])))
theorem aoN {G:GH} {l:List Int} {A:Option Addr} {n c k:Nat} (hv:au G (.sl 1 (l.map fun k=>[li k])) (.slice A n c)) (hk:k < l.length):∃ b o,A=some ⟨b,o,none⟩∧aH G b (o+k*1)=some (vi l[k]):=by
 obtain ⟨A',c',he,_,_,hg⟩:=hv.slice
 injection he with e1 e2 e3
 subst e1;obtain ⟨b,o,cs,h1,h2,h3,h4⟩:=hg k [li l[k]] (by simp [hk])
 simp only [aV,au] at h4
 obtain ⟨v1,_,rfl,⟨rfl,-⟩,rfl⟩:=h4;exact ⟨b,o,h1,h3 0 _ rfl⟩
theorem aoI (G:GH) (w0:World) (hG:Hold G w0) (l:List Int) (t:Int) (v:aj) (hv:au G (.sl 1 (l.map fun k=>[li k])) v) :
  Calls prog 254 #[v,vi t] w0 (bB w0 G fun u G'=>u=vi (oC (l.findIdx? fun x=>decide (t=x)))):=by
 obtain ⟨A,c,rfl,hc1,hc2,-⟩:=hv.slice;have hml:maxLen=9223372036854775807:=rfl;rw [bO] at *;refine eN [(0,_),(1,_)] func254 rfl ntmps254 rfl rfl hG ?_;refine av 10 ?_;intro a H;refine eH (ι:=Nat) (Tc:=[(0,_),(1,_),(7,_)]) (Lc:=[]) (fun gh=>[(8,vi gh)]) (fun gh=>[]) (fun gh=>G) (fun gh=>gh≤l.length∧(l.take gh).findIdx? (fun x=>decide (t=x))=none) (fun gh=>l.length - gh) (0) sB ?_ ?_
 ·exact ⟨iH _,rfl⟩
 clear H;intro k a w hI H;obtain ⟨hk,hno⟩:=hI;dsimp only [lca,bK] at H;refine iI 4 H ?_ ?_ <;> clear H
 ·intro p9
  have hk2:k < l.length:=by omega
  obtain ⟨b,o,rfl,hrow⟩:=aoN hv hk2;refine goB 15 ?_ ?_
  ·intro p16
   refine bP 4 ?_;rw [wm hk2 hno (by simpa using p16)];rfl
  intro p16
  refine av 4 ?_;intro a H;refine aC ?_;refine dx ((k+1)) sB ?_
  exact ⟨by omega,EG hk2 hno (by simpa using p16)⟩
 intro p9
 refine bP 4 ?_;rw [show l.take k=l from gu (by omega)] at hno;rw [hno];rfl
theorem ahm (G:GH) (w0:World) (hG:Hold G w0) (l:List Int) (t:Int) (v:aj) (hv:au G (.sl 1 (l.map fun k=>[li k])) v) :
  Calls prog 227 #[v,vi t] w0 (bB w0 G fun u G'=>u=.bool (decide (t∈l))):=by
 obtain ⟨A,c,rfl,hc1,hc2,-⟩:=hv.slice;rw [bO] at *;refine eN [(0,_),(1,_)] func227 rfl ntmps227 rfl rfl hG ?_;refine av 6 ?_;intro a H;refine s_call ajw H wn rfl (aoI _ _ H.ro l t _ hv) rfl ?_;clear H;rintro v7 G7 a w rfl BH H;refine kJ 3 H ?_;exact (by
  congr 1
  cases h:l.findIdx? (fun x=>decide (t=x)) with
  | none =>
   rw [List.findIdx?_eq_none_iff] at h;have:t∉l:=fun hm=>absurd (h t hm) (by simp)
   simp [oC,this]
  | some i =>
   obtain ⟨hi,he,-⟩:=List.findIdx?_eq_some_iff_getElem.1 h
   have:t∈l:=by rw [nS he];exact lH _
   simp [oC,this])
def vQ (e k:Int):Bool:=(uN k).2 && decide ((uN k).1.IW∈eP e)
theorem Z5 (G:GH) (w0:World) (hG:Hold G w0) (e k:Int):Calls prog 194 #[vi e,vi k] w0 (bB w0 G fun u G'=>u=.bool (vQ e k)):=by
 refine eN [(0,_),(1,_)] func194 rfl ntmps194 rfl rfl hG ?_;refine av 5 ?_;intro a H;refine s_call Zq H wn rfl (find_spec _ _ H.ro k) rfl ?_;clear H;rintro v9 G9 a w rfl Aa H;dsimp only [ko.cells] at H;refine bJ 1 H ?_;clear H;intro a H;(iterate 2 refine lQ H wn rfl rfl rfl ?_;clear H;intro a H);refine dJ wF H wn rfl ?_;clear H;intro b5 a w hb5 H;refine aY wF 0 (vs:=[_,_,_,_,_,_]) _ H wn rfl rfl rfl rfl rfl rfl rfl rfl ?_;clear H;intro w H;dsimp only [List.set,setRow] at H;refine bJ 3 H ?_;clear H
 intro a H;by_cases c0:(uN k).2=true
 ·skip
  have qL:AY (fun (bQ:Nat) (v:aj) (G:GH)=>match bQ with|0=>v=.bool (uN k).2|1=>v=.bool (decide ((uN k).2=true))|2=>v=vi e|3=>(uN k).2=true→au G (.sl 1 ((eP e).map fun k=>[li k])) v|4=>v=(aM b5 1)|5=>v=vi (uN k).1.IW|6=>v=.bool (decide ((uN k).1.IW∈eP e))|7=>v=.bool (vQ e k)|_=>True):=by intro bQ v G G' hm h;(iterate 9 (rcases bQ with _|bQ;(first|exact h|exact fun hf=>(h hf).mono hm)));exact trivial
  refine zK (hmx) [[],[0],[0,1],[0,1,2],[0,1],[0,1,4],(ra 0 6),(ra 0 7),(ra 0 8)] [8] (by kernel_rfl) (by kernel_rfl) _ qL H ?_ ?_
  ·clear H;refine aD ?_ ?_ ?_ ?_ (aD ?_ ?_ ?_ ?_ (bM (bS rfl) cO))
   ·refine cZ [] rfl trivial (by kernel_rfl) qL rfl rfl ?_;intro aP a w G1 hG HT H fin;exact kH H (Rm rfl fun _ H=>fin H iJ rfl)
   ·refine cZ [(0,12,_)] rfl ⟨fun _ _ h=>h,aL⟩ (by kernel_rfl) qL rfl rfl ?_;intro aP a w G1 hG HT H fin;refine bJ 1 H ?_;clear H;intro a H;exact fin H iJ (by simp)
   ·refine cZ [(1,13,_)] rfl ⟨fun _ _ h=>h,aL⟩ (by kernel_rfl) qL rfl rfl ?_;intro aP a w G1 hG HT H fin;exact kH H (YM (aI c0) rfl fun _ H=>fin H iJ rfl)
   ·refine cZ [(2,14,_),(1,13,_)] rfl ⟨fun _ _ h=>h,fun _ _ h=>h,aL⟩ (by kernel_rfl) qL rfl rfl ?_;intro aP a w G1 hG HT H fin;refine s_call ajk H (wg H rfl rfl (aI c0)) rfl (alA _ _ H.ro e) rfl ?_;clear H;rintro v15 Cn a w Ae zS H;exact fin H zS (by first|exact fun _=>Ae|rfl)
   ·refine cZ [(1,13,_)] rfl ⟨fun _ _ h=>h,aL⟩ (by kernel_rfl) qL rfl rfl ?_;intro aP a w G1 hG HT H fin;exact kH H (YF alb (aI c0) rfl fun _ H=>fin H iJ rfl)
   ·refine cZ [(4,16,_),(1,13,_)] rfl ⟨fun _ _ h=>h,fun _ _ h=>h,aL⟩ (by kernel_rfl) qL rfl rfl ?_;intro aP a w G1 hG HT H fin;exact kH H (YO aT 0 (aI c0) rfl fun _ H=>fin H iJ rfl)
   ·intro aP a w G1 _ aK hc hG HT hv;have H:=HT;clear aK;obtain ⟨u15,Va,Ae⟩:=hv 3 15 (hc 3 (by decide)) rfl;(try dsimp only at Ae);have H:=H.gI Va;have H:=H.aN (hv 5 17 (hc 5 (by decide)) rfl) rfl;have H:=H.aN (hv 1 13 (hc 1 (by decide)) rfl) rfl;have Hb:=H.full;have H:=Hb;clear hc;refine s_call ajj H (wg H rfl rfl (aI c0)) rfl (ahm _ _ H.ro _ _ _ (Ae c0)) rfl ?_;clear H;rintro v18 Xx a w rfl alE H;refine aC ⟨rfl,?_⟩;exact dw (by kernel_rfl) qL rfl rfl HT Hb hG hv alE (rfl) H
   refine cZ [(1,13,_),(6,18,_)] rfl ⟨fun _ _ h=>h,fun _ _ h=>h,aL⟩ (by kernel_rfl) qL rfl rfl ?_;intro aP a w G1 hG HT H fin;refine bJ 1 H ?_;clear H;intro a H;exact fin H iJ (by unfold vQ;simp_all)
  clear H;intro a w G CO H hv;have H:=H.aN (hv 7 19 rfl rfl) rfl;clear hv;refine t1 2 H ?_;clear H;refine bP 0 ?_;exact rfl
 refine dI hmx [[],[0],[0,1],[0,1,2],[0,1],[0,1,4],(ra 0 6),(ra 0 7),(ra 0 8)] [8] (by kernel_rfl) [_,.bool (decide ((uN k).2=true)),undef,undef,undef,undef,undef,.bool (vQ e k)] H (aD (Z0 rfl (Rm rfl)) ?_ (aW 1 (aX c0) rfl rfl) ?_ (aD (aW 1 (aX c0) rfl rfl) (aW 1 (aX c0) rfl rfl) (aW 1 (aX c0) rfl rfl) ?_ (bM (bS rfl) cO))) ?_
 ·refine eu 0 12 rfl rfl fun _ a w G1 hG HT H fin=>?_;refine bJ 1 H ?_;clear H;intro a H;exact fin H iJ (by show _=_;simp)
 ·intro aP a w G1 _ aK hc hG HT hv;have H:=HT;clear aK;have H:=H.aN (hv 2 14 (hc 2 (by decide)) rfl) rfl;have H:=H.aN (hv 1 13 (hc 1 (by decide)) rfl) rfl;have Hb:=H.full;have H:=Hb;clear hc;refine bJ 1 H ?_;clear H;intro a H;refine aC ⟨rfl,?_⟩;exact dw (by kernel_rfl) (fun _ _ _ _ _ h=>h) rfl rfl HT Hb hG hv (fun _ _ h=>h) (by first|exact fun _=>Ae|rfl) H
 ·refine dL 1 13 6 18 rfl rfl fun _ a w G1 hG HT H fin=>?_;refine bJ 1 H ?_;clear H;intro a H;exact fin H iJ (by show _=_;unfold vQ;simp_all)
 clear H;intro a w G CO H hv;have H:=H.aN (hv 7 19 rfl rfl) rfl;clear hv;refine t1 2 H ?_;clear H;refine bP 0 ?_;exact rfl
def tQ (k v:Int):Int:=if (uN k).2=false then 4 else if v < (uN k).1.low∨(uN k).1.high < v then 5 else 0
theorem RU (G:GH) (w0:World) (hG:Hold G w0) (k x:Int):Calls prog 195 #[vi k,vi x] w0 (bB w0 G fun u G'=>u=vi (tQ k x)):=by
 refine eN [(0,_),(1,_)] func195 rfl ntmps195 rfl rfl hG ?_;refine av 5 ?_;intro a H;refine s_call Zq H wn rfl (find_spec _ _ H.ro k) rfl ?_;clear H;rintro v9 G9 a w rfl Aa H;dsimp only [ko.cells] at H;refine bJ 1 H ?_;clear H;intro a H;(iterate 2 refine lQ H wn rfl rfl rfl ?_;clear H;intro a H);refine dJ wF H wn rfl ?_;clear H;intro b5 a w hb5 H;refine aY wF 0 (vs:=[_,_,_,_,_,_]) _ H wn rfl rfl rfl rfl rfl rfl rfl rfl ?_;clear H;intro w H;dsimp only [List.set,setRow] at H;refine qb 9 H ?_ ?_ <;> clear H
 ·intro qo
  refine bP 3 ?_;unfold tQ;simp_all
 intro qo
 refine qJ 6 20 ?_ ?_
 ·intro Ms
  refine bP 11 ?_;unfold tQ;simp_all
 intro Ms
 refine goB 7 ?_ ?_
 ·intro sD
  refine bP 3 ?_;unfold tQ;simp_all
 intro sD
 refine bP 4 ?_;unfold tQ;simp_all
theorem Zl:∀ args w,(callFunc 194 args).run prog w=.ok (.enter 194 args) w:=enters func194 rfl (by kernel_rfl)
instance Tg:dR prog 187 1 1:=⟨by kernel_rfl⟩
theorem SF:∀ args w,(callFunc 195 args).run prog w=.ok (.enter 195 args) w:=enters func195 rfl (by kernel_rfl)
theorem ajx:∀ args w,(callFunc 260 args).run prog w=.ok (.enter 260 args) w:=enters func260 rfl (by kernel_rfl)
theorem SI:∀ args w,(callFunc 240 args).run prog w=.ok (.enter 240 args) w:=enters func240 rfl (by kernel_rfl)
def EK (q:Option Int) (k:Int):Bool:=match q with|some j=>decide (k < j)|none=>false
def yR (e:Int):Option Int→List aS→Int
 | _,[]=>0
 | q,p :: r=>if vQ e p.key=false then 4 else if q=some p.key then 7 else if EK q p.key=true then 6 else if tQ p.key p.value=0 then yR e (some p.key) r else tQ p.key p.value
def Ap (l:List aS) (k:Nat):Option Int:=if k=0 then none else l[k - 1]?.map aS.key
def ig (e:Int) (l:List aS):Int:=if e < 1∨10 < e then 3 else yR e none l
theorem agI {e:Int} {l:List aS} {k:Nat} (h:k < l.length):yR e (Ap l k) (l.drop k)=if vQ e l[k].key=false then 4 else if Ap l k=some l[k].key then 7 else if EK (Ap l k) l[k].key=true then 6 else if tQ l[k].key l[k].value=0 then yR e (Ap l (k+1)) (l.drop (k+1)) else tQ l[k].key l[k].value:=by
 rw [qR h,yR]
 have:Ap l (k+1)=some l[k].key:=by rw [Ap,ah (by omega),Nat.add_sub_cancel,dZ h];rfl
 rw [this]
theorem P8 {l:List aS} {k:Nat} (h:k=0):Ap l k=none:=ak h
theorem ade (G:GH) (w0:World) (hG:Hold G w0) (e:Int) (l:List aS) (v:aj) (hv:au G (.sl 2 (l.map aS.dat)) v) :
  Calls prog 129 #[vi e,v] w0 (bB w0 G fun u G'=>u=vi (ig e l)):=by
 obtain ⟨A,c,rfl,hc1,hc2,-⟩:=hv.slice;have hml:maxLen=9223372036854775807:=rfl;rw [bO] at *;refine eN [(0,_),(1,_)] func129 rfl ntmps129 rfl rfl hG ?_;intro a H;refine kP H (SR fun _ K1=>aF K1 rfl (SQ fun _ K2=>SR fun _ K3=>Rm rfl (Rc rfl (Rm rfl (Sp 10 rfl ?_ ?_))))) <;> clear H K1
 ·intro h10 a H
  try have iU:=dT h10
  refine kH H (fU h10 rfl (Pt h10 rfl (Kz K3 (Ct rfl rfl (SR fun _ K4=>aF K4 rfl ?_)))));clear H K3 K4;intro a H;refine lr H results129 rfl ?_
  first
   | exact H.rt (aB vi (by rw [ah (by simpa using p61)] at heq;rw [ig,ah (by omega)];exact heq))
   | exact H.rt (aB vi (by rw [ak (by simpa using h21)] at heq;rw [ig,ah (by omega)];exact heq))
   | exact H.rt (aB vi (by rw [ig,ah (by omega)];exact heq))
   | exact H.rt (aB vi (by rw [ig,ah (by omega),← heq,show l.drop k=[] from lG (by omega)];rfl))
   | exact H.rt (aB vi (by rw [ig,ak (by omega)]))
 intro h10 a H
 try have iU:=dF h10
 refine kH H (YM h10 rfl (YC h10 rfl (Pf h10 rfl (Kz K3 (Cd rfl ?_ ?_))))) <;> clear H K3
 ·intro jD a H
  try have qp:=dT jD
  refine kP H (SR fun _ K5=>aF K5 rfl ?_);clear H K5;intro a H;refine lr H results129 rfl ?_
  first
   | exact H.rt (aB vi (by rw [ah (by simpa using p61)] at heq;rw [ig,ah (by omega)];exact heq))
   | exact H.rt (aB vi (by rw [ak (by simpa using h21)] at heq;rw [ig,ah (by omega)];exact heq))
   | exact H.rt (aB vi (by rw [ig,ah (by omega)];exact heq))
   | exact H.rt (aB vi (by rw [ig,ah (by omega),← heq,show l.drop k=[] from lG (by omega)];rfl))
   | exact H.rt (aB vi (by rw [ig,ak (by omega)]))
 intro jD a H
 try have qp:=dF jD
 refine kP H (Kc K2 (SQ fun _ K6=>SR fun _ K7=>Rm rfl (Rl gW rfl (Rm rfl (Kz K7 (SB ?_))))));clear H K2 K7;intro a H;skip;refine eH (ι:=Nat × GH) (Tc:=[(0,_),(1,_),(14,_),(15,_)]) (Lc:=[]) (fun gh=>[(16,vi gh.1)]) (fun gh=>[]) (fun gh=>gh.2) (fun gh=>gh.1≤l.length∧yR e (Ap l gh.1) (l.drop gh.1)=yR e none l∧(∀ b o,G b=some o→gh.2 b=some o)) (fun gh=>l.length - gh.1) ((0,G)) (by exact (H).sub ⟨rfl,rfl,rfl,rfl,rfl,aL⟩) ?_ ?_
 ·exact ⟨iH _,rfl,fun _ _ h=>h⟩
 clear H;rintro ⟨k,g⟩ a w hI H;dsimp only at hI H;obtain ⟨hk,heq,hgm⟩:=hI;dsimp only [lca,bK] at H;refine kP H (SR fun _ K8=>Rc rfl (Kz K8 (SQ fun _ K9=>Cd rfl ?_ ?_))) <;> clear H K8
 ·intro eT a H
  try have jZ:=dT eT
  have hk2:k < l.length:=by omega
  have BL:=hv.mono hgm;obtain ⟨b,o,rfl,hrow⟩:=GX BL hk2
  obtain ⟨pk,hpk⟩:∃ pk,0 < k→aH g b (o+(k - 1)*2+0)=some (vi pk)∧Ap l k=some pk:=by
   by_cases h0:0 < k
   ·obtain ⟨b',o',he,hr'⟩:=GX BL (show k - 1 < l.length by omega)
    injection he with he
    injection he with e1 e2 e3
    subst e1;subst e2;exact ⟨_,fun _=>⟨hr' 0 _ rfl,by rw [Ap,ah (by omega),dZ (by omega)];rfl⟩⟩
   exact ⟨0,fun h=>absurd h h0⟩
  rw [agI hk2] at heq;have avg:=heq;refine kP H (Kc K9 (SQ fun _ eU=>SB (SR fun _ fQ=>Rm rfl (Ri gW gL rfl rfl ?_))));clear H K9;intro a H;refine aR gL (cs:=[_,_]) H wn rfl rfl (fun j v hj=>H.hp.aH (hrow j v hj)) rfl ?_;clear H;intro a H;refine dJ gL H wn rfl ?_;clear H;intro b6 a w hb6 H;refine kH H (Ra rfl ?_);clear H;intro a H;refine aY gL 0 (vs:=[_,_]) _ H wn rfl rfl rfl rfl rfl rfl rfl rfl ?_;clear H;intro w H;dsimp only [List.set,setRow] at H;refine fQ _ _ ?_;clear fQ;refine rR (ι:=GH) (Tc:=[(0,_),(1,_),(6,_),(14,_),(15,_),(16,_)]) (Lc:=[(_,_)]) (fun gh=>[]) (fun gh=>[]) (fun gh=>gh) (fun gh=>(if tQ l[k].key l[k].value=0 then yR e (Ap l (k+1)) (l.drop (k+1)) else tQ l[k].key l[k].value)=yR e none l∧(∀ b o,g b=some o→gh b=some o)) (by exact (H).sub ⟨rfl,rfl,rfl,rfl,rfl,rfl,aL⟩) ?_ ?_
  ·skip;refine kP H (SB (SR fun _ iF=>Rm rfl (dU zM aT 0 rfl rfl ?_)));clear H;intro a H;refine s_call Zl H wn rfl (Z5 _ _ H.ro e l[k].key) rfl ?_;clear H;rintro v25 J3 a w rfl zY H;replace hrow:=fun j u hj=>aG zY (hrow j u hj);refine kH H (Rn rfl (aF iF rfl (Cd rfl ?_ ?_))) <;> clear H iF
   ·intro h21 a H
    try have Dm:=dT h21
    refine kP H (SR fun _ jd=>aF jd rfl ?_);clear H jd;intro a H;refine lr H results129 rfl ?_
    first
     | exact H.rt (aB vi (by rw [ah (by simpa using p61)] at heq;rw [ig,ah (by omega)];exact heq))
     | exact H.rt (aB vi (by rw [ak (by simpa using h21)] at heq;rw [ig,ah (by omega)];exact heq))
     | exact H.rt (aB vi (by rw [ig,ah (by omega)];exact heq))
     | exact H.rt (aB vi (by rw [ig,ah (by omega),← heq,show l.drop k=[] from lG (by omega)];rfl))
     | exact H.rt (aB vi (by rw [ig,ak (by omega)]))
   intro h21 a H
   try have Dm:=dF h21
   rw [ah (by simpa using h21)] at heq;refine eY (fun _ iW=>?_)
   by_cases c0:0 < (k:Int)
   ·skip
    by_cases c1:l[k].key=pk
    ·skip;refine dI hmx [[],[0],[0,1],[0,1,2],(ra 0 4),[0,1,2],[0,1,2],[0,1,2,6],[0,1,2,5,6,7],[0,1,2,5,6,7,8],[0,1,2,5,6,7,8,9],(ra 0 11),(ra 0 12),(ra 0 13)] [13] (by kernel_rfl) [_,_,_,_,vi l[k].key,_,_,vi ((k - 1:Nat):Int),_,_,_,_,_] H (aD (Z0 rfl (Rm rfl)) (Z1 0 28 rfl (Rc rfl)) (Z1 1 29 rfl (Rm rfl)) (Z1 2 30 rfl (YF zM (aI c0) rfl)) (aD (Z2 3 31 2 30 rfl (YO aT 0 (aI c0) rfl)) (Z1 2 30 rfl (YM (aI c0) rfl)) (Z1 2 30 rfl (YM (aI c0) rfl)) ?_ (aD (Z3 5 33 7 35 2 30 rfl (YI gW gL (aI c0) rfl rfl)) (Z2 8 36 2 30 rfl (YF zM (aI c0) rfl)) (X2 9 37 2 30 rfl fun hG=>YR aT (aI c0) rfl (aG hG (aG zY (hpk (by omega)).1))) (Z3 4 32 10 38 2 30 rfl (YC (aI c0) rfl)) (bM (Z2 2 30 11 39 rfl (Pt (aI c0) rfl)) (bM (bS rfl) cO))))) ?_
     ·refine dL 6 34 2 30 rfl rfl fun _ a w G1 hG HT H fin=>?_;refine og _ H (wg H rfl rfl (aI c0)) rfl rfl rfl (by omega) (by omega) rfl ?_;clear H;intro a H;exact fin H iJ (by show _=_;first|rfl|exact aB vi (by omega))
     clear H;intro a w G oM H hv;have H:=H.aN (hv 12 40 rfl rfl) rfl;clear hv;refine kH H (Ra rfl ?_);clear H;intro a H;refine aC ⟨rfl,?_⟩;refine iW _ _ ?_;clear iW;refine Kr H rfl (aI c1) ?_;refine eY (fun _ mq=>?_);rw [ak (by rw [(hpk (by omega)).2,c1])] at heq;refine kP H (SC (gY mq rfl ?_));clear H mq;intro a H;refine lr H results129 rfl ?_
     first
      | exact H.rt (aB vi (by rw [ah (by simpa using p61)] at heq;rw [ig,ah (by omega)];exact heq))
      | exact H.rt (aB vi (by rw [ak (by simpa using h21)] at heq;rw [ig,ah (by omega)];exact heq))
      | exact H.rt (aB vi (by rw [ig,ah (by omega)];exact heq))
      | exact H.rt (aB vi (by rw [ig,ah (by omega),← heq,show l.drop k=[] from lG (by omega)];rfl))
      | exact H.rt (aB vi (by rw [ig,ak (by omega)]))
    skip;refine dI hmx [[],[0],[0,1],[0,1,2],(ra 0 4),[0,1,2],[0,1,2],[0,1,2,6],[0,1,2,5,6,7],[0,1,2,5,6,7,8],[0,1,2,5,6,7,8,9],(ra 0 11),(ra 0 12),(ra 0 13)] [13] (by kernel_rfl) [_,_,_,_,vi l[k].key,_,_,vi ((k - 1:Nat):Int),_,_,_,_,_] H (aD (Z0 rfl (Rm rfl)) (Z1 0 28 rfl (Rc rfl)) (Z1 1 29 rfl (Rm rfl)) (Z1 2 30 rfl (YF zM (aI c0) rfl)) (aD (Z2 3 31 2 30 rfl (YO aT 0 (aI c0) rfl)) (Z1 2 30 rfl (YM (aI c0) rfl)) (Z1 2 30 rfl (YM (aI c0) rfl)) ?_ (aD (Z3 5 33 7 35 2 30 rfl (YI gW gL (aI c0) rfl rfl)) (Z2 8 36 2 30 rfl (YF zM (aI c0) rfl)) (X2 9 37 2 30 rfl fun hG=>YR aT (aI c0) rfl (aG hG (aG zY (hpk (by omega)).1))) (Z3 4 32 10 38 2 30 rfl (YC (aI c0) rfl)) (bM (Z2 2 30 11 39 rfl (Pt (aI c0) rfl)) (bM (bS rfl) cO))))) ?_
    ·refine dL 6 34 2 30 rfl rfl fun _ a w G1 hG HT H fin=>?_;refine og _ H (wg H rfl rfl (aI c0)) rfl rfl rfl (by omega) (by omega) rfl ?_;clear H;intro a H;exact fin H iJ (by show _=_;first|rfl|exact aB vi (by omega))
    clear H;intro a w G oM H hv;have H:=H.aN (hv 12 40 rfl rfl) rfl;clear hv;refine kH H (Ra rfl ?_);clear H;intro a H;refine aC ⟨rfl,?_⟩;refine iW _ _ ?_;clear iW;refine zJ H rfl (aX c1) ?_;refine eY (fun _ oJ=>?_)
    have q1:¬ (0 < (k:Int)∧l[k].key=pk):=by first|exact fun h=>c1 h.2|exact fun h=>c0 h.1
    rw [ah (fun h=>q1 (by
     by_cases h0:0 < k
     ·rw [(hpk h0).2] at h
      injection h with h
      exact ⟨by omega,h.symm⟩
     rw [P8 (by omega)] at h
     cases h))] at heq
    by_cases c3:l[k].key < pk
    ·skip;refine dI hmx [[],[0],[0,1],[0,1,2],(ra 0 4),[0,1,2],[0,1,2],[0,1,2,6],[0,1,2,5,6,7],[0,1,2,5,6,7,8],[0,1,2,5,6,7,8,9],(ra 0 11),(ra 0 12),(ra 0 13)] [13] (by kernel_rfl) [_,_,_,_,vi l[k].key,_,_,vi ((k - 1:Nat):Int),_,_,vi pk,_,_] H (aD (Z0 rfl (Rm rfl)) (Z1 0 42 rfl (Rc rfl)) (Z1 1 43 rfl (Rm rfl)) (Z1 2 44 rfl (YF zM (aI c0) rfl)) (aD (Z2 3 45 2 44 rfl (YO aT 0 (aI c0) rfl)) (Z1 2 44 rfl (YM (aI c0) rfl)) (Z1 2 44 rfl (YM (aI c0) rfl)) ?_ (aD (Z3 5 47 7 49 2 44 rfl (YI gW gL (aI c0) rfl rfl)) (Z2 8 50 2 44 rfl (YF zM (aI c0) rfl)) ?_ (Z3 4 46 10 52 2 44 rfl (YC (aI c0) rfl)) (bM (Z2 2 44 11 53 rfl (Pt (aI c0) rfl)) (bM (bS rfl) cO))))) ?_
     ·refine dL 6 48 2 44 rfl rfl fun _ a w G1 hG HT H fin=>?_;refine og _ H (wg H rfl rfl (aI c0)) rfl rfl rfl (by omega) (by omega) rfl ?_;clear H;intro a H;exact fin H iJ (by show _=_;first|rfl|exact aB vi (by omega))
     ·refine dL 9 51 2 44 rfl rfl fun _ a w G1 hG HT H fin=>?_;refine kL aT H (wg H rfl rfl (aI c0)) rfl (H.hp.aH (aG hG (aG oM (aG zY (hpk (by omega)).1)))) rfl ?_;clear H;intro a H;exact fin H iJ rfl
     clear H;intro a w G ru H hv;have H:=H.aN (hv 12 54 rfl rfl) rfl;clear hv;refine kH H (Ra rfl ?_);clear H;intro a H;refine aC ⟨rfl,?_⟩;refine oJ _ _ ?_;clear oJ;refine Kr H rfl (aI c3) ?_;refine eY (fun _ qD=>?_);rw [ak (by rw [(hpk (by omega)).2];exact aI c3)] at heq;refine kP H (SC (gY qD rfl ?_));clear H qD;intro a H;refine lr H results129 rfl ?_
     first
      | exact H.rt (aB vi (by rw [ah (by simpa using p61)] at heq;rw [ig,ah (by omega)];exact heq))
      | exact H.rt (aB vi (by rw [ak (by simpa using h21)] at heq;rw [ig,ah (by omega)];exact heq))
      | exact H.rt (aB vi (by rw [ig,ah (by omega)];exact heq))
      | exact H.rt (aB vi (by rw [ig,ah (by omega),← heq,show l.drop k=[] from lG (by omega)];rfl))
      | exact H.rt (aB vi (by rw [ig,ak (by omega)]))
    skip;refine dI hmx [[],[0],[0,1],[0,1,2],(ra 0 4),[0,1,2],[0,1,2],[0,1,2,6],[0,1,2,5,6,7],[0,1,2,5,6,7,8],[0,1,2,5,6,7,8,9],(ra 0 11),(ra 0 12),(ra 0 13)] [13] (by kernel_rfl) [_,_,_,_,vi l[k].key,_,_,vi ((k - 1:Nat):Int),_,_,vi pk,_,_] H (aD (Z0 rfl (Rm rfl)) (Z1 0 42 rfl (Rc rfl)) (Z1 1 43 rfl (Rm rfl)) (Z1 2 44 rfl (YF zM (aI c0) rfl)) (aD (Z2 3 45 2 44 rfl (YO aT 0 (aI c0) rfl)) (Z1 2 44 rfl (YM (aI c0) rfl)) (Z1 2 44 rfl (YM (aI c0) rfl)) ?_ (aD (Z3 5 47 7 49 2 44 rfl (YI gW gL (aI c0) rfl rfl)) (Z2 8 50 2 44 rfl (YF zM (aI c0) rfl)) ?_ (Z3 4 46 10 52 2 44 rfl (YC (aI c0) rfl)) (bM (Z2 2 44 11 53 rfl (Pt (aI c0) rfl)) (bM (bS rfl) cO))))) ?_
    ·refine dL 6 48 2 44 rfl rfl fun _ a w G1 hG HT H fin=>?_;refine og _ H (wg H rfl rfl (aI c0)) rfl rfl rfl (by omega) (by omega) rfl ?_;clear H;intro a H;exact fin H iJ (by show _=_;first|rfl|exact aB vi (by omega))
    ·refine dL 9 51 2 44 rfl rfl fun _ a w G1 hG HT H fin=>?_;refine kL aT H (wg H rfl rfl (aI c0)) rfl (H.hp.aH (aG hG (aG oM (aG zY (hpk (by omega)).1)))) rfl ?_;clear H;intro a H;exact fin H iJ rfl
    clear H;intro a w G ru H hv;have H:=H.aN (hv 12 54 rfl rfl) rfl;clear hv;refine kH H (Ra rfl ?_);clear H;intro a H;refine aC ⟨rfl,?_⟩;refine oJ _ _ ?_;clear oJ;refine zJ H rfl (aX c3) ?_;refine iw ?_;refine ⟨_,by exact (H).sub ⟨rfl,rfl,rfl,rfl,rfl,rfl,aL⟩,?_⟩
    have q2:¬ (0 < (k:Int)∧l[k].key < pk):=by first|exact fun h=>c3 h.2|exact fun h=>c0 h.1
    rw [ah (fun h=>q2 (by
     by_cases h0:0 < k
     ·rw [(hpk h0).2] at h;exact ⟨by omega,nS h⟩
     rw [P8 (by omega)] at h
     cases h))] at heq
    exact ⟨heq,fun b o h=>ru b o (oM b o (zY b o h))⟩
   skip;refine dI hmx [[],[0],[0,1],[0,1,2],(ra 0 4),[0,1,2],[0,1,2],[0,1,2,6],[0,1,2,5,6,7],[0,1,2,5,6,7,8],[0,1,2,5,6,7,8,9],(ra 0 11),(ra 0 12),(ra 0 13)] [13] (by kernel_rfl) [_,_,_,undef,undef,undef,undef,undef,undef,undef,undef,undef,_] H (aD (Z0 rfl (Rm rfl)) (Z1 0 28 rfl (Rc rfl)) (Z1 1 29 rfl (Rm rfl)) (aW 2 (aX c0) rfl rfl) (aD (aW 2 (aX c0) rfl rfl) (aW 2 (aX c0) rfl rfl) (aW 2 (aX c0) rfl rfl) (aW 2 (aX c0) rfl rfl) (aD (aW 2 (aX c0) rfl rfl) (aW 2 (aX c0) rfl rfl) (aW 2 (aX c0) rfl rfl) (aW 2 (aX c0) rfl rfl) (bM (Z2 2 30 11 39 rfl (Pf (aX c0) rfl)) (bM (bS rfl) cO))))) ?_
   clear H;intro a w G oM H hv;have H:=H.aN (hv 12 40 rfl rfl) rfl;clear hv;refine kH H (Ra rfl ?_);clear H;intro a H;refine aC ⟨rfl,?_⟩;refine iW _ _ ?_;clear iW;refine zJ H rfl rfl ?_;refine eY (fun _ pR=>?_)
   have q1:¬ (0 < (k:Int)∧l[k].key=pk):=by first|exact fun h=>c1 h.2|exact fun h=>c0 h.1
   rw [ah (fun h=>q1 (by
    by_cases h0:0 < k
    ·rw [(hpk h0).2] at h
     injection h with h
     exact ⟨by omega,h.symm⟩
    rw [P8 (by omega)] at h
    cases h))] at heq
   refine dI hmx [[],[0],[0,1],[0,1,2],(ra 0 4),[0,1,2],[0,1,2],[0,1,2,6],[0,1,2,5,6,7],[0,1,2,5,6,7,8],[0,1,2,5,6,7,8,9],(ra 0 11),(ra 0 12),(ra 0 13)] [13] (by kernel_rfl) [_,_,_,undef,undef,undef,undef,undef,undef,undef,undef,undef,_] H (aD (Z0 rfl (Rm rfl)) (Z1 0 42 rfl (Rc rfl)) (Z1 1 43 rfl (Rm rfl)) (aW 2 (aX c0) rfl rfl) (aD (aW 2 (aX c0) rfl rfl) (aW 2 (aX c0) rfl rfl) (aW 2 (aX c0) rfl rfl) (aW 2 (aX c0) rfl rfl) (aD (aW 2 (aX c0) rfl rfl) (aW 2 (aX c0) rfl rfl) (aW 2 (aX c0) rfl rfl) (aW 2 (aX c0) rfl rfl) (bM (Z2 2 44 11 53 rfl (Pf (aX c0) rfl)) (bM (bS rfl) cO))))) ?_
   clear H;intro a w G ru H hv;have H:=H.aN (hv 12 54 rfl rfl) rfl;clear hv;refine kH H (Ra rfl ?_);clear H;intro a H;refine aC ⟨rfl,?_⟩;refine pR _ _ ?_;clear pR;refine zJ H rfl rfl ?_;refine iw ?_;refine ⟨_,by exact (H).sub ⟨rfl,rfl,rfl,rfl,rfl,rfl,aL⟩,?_⟩
   have q2:¬ (0 < (k:Int)∧l[k].key < pk):=by first|exact fun h=>c3 h.2|exact fun h=>c0 h.1
   rw [ah (fun h=>q2 (by
    by_cases h0:0 < k
    ·rw [(hpk h0).2] at h;exact ⟨by omega,nS h⟩
    rw [P8 (by omega)] at h
    cases h))] at heq
   exact ⟨heq,fun b o h=>ru b o (oM b o (zY b o h))⟩
  clear H;intro g2 a w hI H;obtain ⟨heq,jg⟩:=hI;replace hrow:=fun j u hj=>aG jg (hrow j u hj);dsimp only [lca,bK] at H;refine kP H (SR fun _ pz=>dU zM aT 0 rfl rfl (dU Tg aT 0 rfl rfl ?_));clear H;intro a H;refine s_call SF H wn rfl (RU _ _ H.ro l[k].key l[k].value) rfl ?_;clear H;rintro v59 G59 a w rfl anu H;refine kH H (aF pz rfl (SR fun _ pU=>Rm rfl (Rc rfl (Kz pU (Cd rfl ?_ ?_))))) <;> clear H pz pU
  ·intro TM a H
   try have p61:=dT TM
   refine kP H (SR fun _ pV=>Rm rfl (aF pV rfl ?_));clear H pV;intro a H;refine lr H results129 rfl ?_
   first
    | exact H.rt (aB vi (by rw [ah (by simpa using p61)] at heq;rw [ig,ah (by omega)];exact heq))
    | exact H.rt (aB vi (by rw [ak (by simpa using h21)] at heq;rw [ig,ah (by omega)];exact heq))
    | exact H.rt (aB vi (by rw [ig,ah (by omega)];exact heq))
    | exact H.rt (aB vi (by rw [ig,ah (by omega),← heq,show l.drop k=[] from lG (by omega)];rfl))
    | exact H.rt (aB vi (by rw [ig,ak (by omega)]))
  intro TM a H
  try have p61:=dF TM
  refine kP H (Kc eU (SC (Rd rfl (Rm rfl ?_))));clear H eU;intro a H;refine aC ?_;refine dx ((k+1,G59)) (by exact (H.dX (Pl:=[_]) (dN:=[]) [] (by decide) rfl).sub ⟨rfl,rfl,rfl,rfl,rfl,aL⟩) ?_
  (try dsimp only);exact ⟨by omega,by rw [ak (by simpa using p61)] at heq;exact heq,fun b o h=>anu b o (jg b o (hgm b o h))⟩
 intro eT a H
 try have jZ:=dF eT
 refine jI ?_;refine K6 _ _ ?_;clear K6;refine kP H (SR fun _ xE=>aF xE rfl ?_);clear H xE;intro a H;refine lr H results129 rfl ?_
 first
  | exact H.rt (aB vi (by rw [ah (by simpa using p61)] at heq;rw [ig,ah (by omega)];exact heq))
  | exact H.rt (aB vi (by rw [ak (by simpa using h21)] at heq;rw [ig,ah (by omega)];exact heq))
  | exact H.rt (aB vi (by rw [ig,ah (by omega)];exact heq))
  | exact H.rt (aB vi (by rw [ig,ah (by omega),← heq,show l.drop k=[] from lG (by omega)];rfl))
  | exact H.rt (aB vi (by rw [ig,ak (by omega)]))
def zO (l:List aS) (k:Int):Int × Bool:=if ni (l.map aS.key) k=true then ((l.getD (iB (l.map aS.key) k) ⟨0,0⟩).value,true) else (0,false)
theorem WE (G:GH) (w0:World) (hG:Hold G w0) (l:List aS) (t:Int) (v:aj) (hv:au G (.sl 2 (l.map aS.dat)) v) (hl:l.length≤4294967296) :
  Calls prog 240 #[v,vi t] w0 (bB w0 G fun u G'=>u=.tuple #[vi (iB (l.map aS.key) t),.bool (ni (l.map aS.key) t)]):=by
 obtain ⟨A,c,rfl,hc1,hc2,-⟩:=hv.slice;rw [bO] at *;refine eN [(0,_),(1,_)] func240 rfl ntmps240 rfl rfl hG ?_;intro a H;refine kP H (SR fun _ K1=>Ra rfl (aF K1 rfl (SR fun _ K2=>Rm rfl (Rm rfl ?_))));clear H K1;intro a H;refine s_call ajx H wn rfl (afQ _ _ H.ro l t _ hv hl) rfl ?_;clear H;rintro v8 G8 a w rfl qj H;(iterate 2 refine lQ H wn rfl rfl rfl ?_;clear H;intro a H);refine kH H (Ra rfl (aF K2 rfl ?_));clear H K2;intro a H;refine cK ?_;refine (fE H results240 (.cons (bq H rfl) (.cons (bq H rfl) .nil)) ?_).1;exact H.rt rfl
theorem alv (G:GH) (w0:World) (hG:Hold G w0) (l:List aS) (t:Int) (v:aj) (hv:au G (.sl 2 (l.map aS.dat)) v) (hl:l.length≤4294967296) :
  Calls prog 213 #[v,vi t] w0 (bB w0 G fun u G'=>u=.tuple #[vi (zO l t).1,.bool (zO l t).2]):=by
 obtain ⟨A,c,rfl,hc1,hc2,-⟩:=hv.slice;rw [bO] at *;refine eN [(0,_),(1,_)] func213 rfl ntmps213 rfl rfl hG ?_;intro a H;refine kP H (SR fun _ K1=>Ra rfl (aF K1 rfl (SR fun _ K2=>Rm rfl (Rm rfl ?_))));clear H K1;intro a H;refine s_call SI H wn rfl (WE _ _ H.ro l t _ hv hl) rfl ?_;clear H;rintro v11 tC a w rfl CV H;obtain ⟨n,hn⟩:∃ n,n=iB (l.map aS.key) t:=⟨_,rfl⟩;obtain ⟨q,hq⟩:∃ q,q=ni (l.map aS.key) t:=⟨_,rfl⟩;rw [← hn,← hq] at H;refine kH H (Rm rfl ?_);clear H;intro a H;(iterate 2 refine lQ H wn rfl rfl rfl ?_;clear H;intro a H);refine kH H (Ra rfl (aF K2 rfl (SQ fun _ K3=>SR fun _ K4=>Rm rfl (Rn rfl (Kz K4 (Cd rfl ?_ ?_)))))) <;> clear H K2 K4
 ·intro lX a H
  refine kP H (SR fun _ K5=>Ra rfl (aF K5 rfl ?_));clear H K5;intro a H;refine cK ?_;refine (fE H results213 (.cons (bq H rfl) (.cons (bq H rfl) .nil)) ?_).1;exact H.rt (by rw [zO,ah (by rw [← hq];simpa using lX)])
 intro lX a H
 try have sD:=dF lX
 have hlt:n < l.length:=by have:=Lb (ks:=l.map aS.key) (t:=t) (by rw [← hq];simpa using lX);rw [← hn] at this;simpa using this
 obtain ⟨b,o,rfl,hrow⟩:=GX (hv.mono CV) hlt;have r1:aH tC b (o+n*2+1)=some (vi l[n].value):=hrow 1 _ rfl;refine kP H (Kc K3 (SR fun _ K6=>Rm rfl (Rm rfl (Ri gW gL rfl rfl (Rf Tg rfl (Rg aT rfl (by assumption) ?_))))));clear H K3;intro a H;refine kH H (Ra rfl (aF K6 rfl ?_));clear H K6;intro a H;refine cK ?_;refine (fE H results213 (.cons (bq H rfl) (.cons (bq H rfl) .nil)) ?_).1;exact H.rt (by rw [zO,ak (by rw [← hq];simpa using lX),← hn,List.getD_eq_getElem?_getD,dZ hlt];rfl)
theorem Sv:∀ args w,(callFunc 159 args).run prog w=.ok (.enter 159 args) w:=enters func159 rfl (by kernel_rfl)
theorem ajl:∀ args w,(callFunc 241 args).run prog w=.ok (.enter 241 args) w:=enters func241 rfl (by kernel_rfl)
theorem atl:qE prog 187 [(0,1),(1,1)] [.int .i64 0,.int .i64 0]:=⟨by kernel_rfl,by kernel_rfl⟩
theorem ajm:∀ args w,(callFunc 242 args).run prog w=.ok (.enter 242 args) w:=enters func242 rfl (by kernel_rfl)
theorem asB {cur x ys A:List aj} {p q:Nat} (hA:cur.take p=A) (hp:p≤cur.length) (hx:x.length=q) (hl:p+q+ys.length≤cur.length):(seg (seg cur p x) (p+q) ys).take (p+q+ys.length)=A++x++ys∧(seg (seg cur p x) (p+q) ys).length=cur.length:=by
 have h1:(seg cur p x).length=cur.length:=EU (by omega);refine ⟨?_,by rw [EU (by rw [h1];omega),h1]⟩
 have h2:(seg cur p x).take (p+q)=A++x:=by
  rw [seg,hA,List.take_append_of_le_length (by rw [← hA];simp;omega),gu (by rw [← hA];simp;omega)]
 rw [seg,h2,List.take_append_of_le_length (by rw [← hA];simp;omega),gu (by rw [← hA];simp;omega)]
theorem asC {cur x ys A:List aj} {p q:Nat} (hA:cur.take p=A) (hp:p≤cur.length) (hx:x.length=q) (hl:p+q+ys.length≤cur.length):(seg (seg cur (p+q) ys) p x).take (p+q+ys.length)=A++x++ys∧(seg (seg cur (p+q) ys) p x).length=cur.length:=by
 have h1:(seg cur (p+q) ys).length=cur.length:=EU (by omega);refine ⟨?_,by rw [EU (by rw [h1];omega),h1]⟩
 have h2:(seg cur (p+q) ys).take p=A:=by
  rw [seg,jm,List.take_append_of_le_length (by simp;omega),List.take_take,Nat.min_eq_left (by omega),hA]
 have h3:(seg cur (p+q) ys).drop (p+q)=ys++cur.drop (p+q+ys.length):=by
  rw [seg,jm,List.drop_append_of_le_length (by simp;omega),lG (by simp;omega),oL]
 rw [seg,hx,h2,h3,← jm,List.take_append_of_le_length (by rw [← hA];simp;omega),gu (by rw [← hA];simp;omega)]
theorem asA {cur ys A:List aj} {p:Nat} (hA:cur.take p=A) (hl:p+ys.length≤cur.length):(seg cur p ys).take (p+ys.length)=A++ys:=by
 rw [seg,hA,List.take_append_of_le_length (by rw [← hA];simp;omega),gu (by rw [← hA];simp;omega)]
theorem Qy {b o lo n c sz o' n' c':Nat} (h:¬ c=lo) (ho:o+lo*sz=o') (hn:n - lo=n') (hc:c - lo=c'):Value.slice (if c=lo then some ⟨b,o,none⟩ else (some ⟨b,o,none⟩:Option Addr).map (·.add (lo*sz))) (n - lo) (c - lo)=.slice (some ⟨b,o',none⟩) n' c':=by
 subst ho hn hc;rw [ah h,vE,add_lit]
theorem aoM (G:GH) (w0:World) (Lo:OL) (hO:gG G Lo w0) (v:aj) (n i:Nat) (xs:List aj) (hrw:bX 187 2 v n xs Lo) (hx1:xs.all Value.oneCell'=true) (hi:i≤n) (hn:n≤4294967296) (bv:Nat) (x0 x1:aj) (hb:G bv=some (.cells #[x0,x1] 187 (0,0))) (h0:x0.oneCell'=true) (h1:x1.oneCell'=true) :
  Calls prog 241 #[v,vi i,.slice (some ⟨bv,0,none⟩) 1 1] w0 (fP w0 G Lo fun u G' L'=>bX 187 2 u (n+1) (xs.take (i*2)++[x0,x1]++xs.drop (i*2)) L'):=by
 have hml:maxLen=9223372036854775807:=rfl;obtain ⟨A,c,rfl,hc1,hc2⟩:=hrw.shape;have hxl:=hrw.1
 have hx2:[x0,x1].all Value.oneCell'=true:=by simp [h0,h1]
 have hgx:∀ {w:World} {G':GH},Hold G' w→(∀ b o,G b=some o→G' b=some o)→∀ j u,[x0,x1][j]?=some u→w.cell? ⟨bv,0+j,none⟩=some u:=fun {w} {G'} hG hm j u hj=>by
  simp [World.cell?,hG _ _ (hm _ _ hb),← hj]
 refine jr (N:=95) (T:=[(0,_),(1,_),(2,_)]) func241 rfl ntmps241 rfl rfl hO ?_;intro a H;refine kP H (SR fun _ K1=>aF K1 rfl (SR fun _ K2=>Rm rfl (Rm rfl ?_)));clear H K1;intro a H;refine zl gW gL i H wn rfl rfl rfl hi rfl ?_;clear H;intro a H;refine K2 _ _ ?_;clear K2;refine kP H (SR fun _ K3=>Rm rfl (Rl gW rfl (aF K3 rfl (SQ fun _ K4=>SR fun _ K5=>Rm rfl (Rc rfl (Kz K5 (Cd rfl ?_ ?_))))))) <;> clear H K3 K5
 ·intro h16 a H
  try have p16:=dT h16
  exact absurd p16 (by decide)
 intro h16 a H
 try have p16:=dF h16
 refine kP H (Kc K4 (SR fun _ K6=>Rm rfl (Rl gW rfl (aF K6 rfl (SQ fun _ K7=>SR fun _ K8=>Rm rfl (Rm rfl (Rc rfl (Kz K8 (Cd rfl ?_ ?_))))))))) <;> clear H K4 K6 K8
 ·intro h22 a H
  try have jk:=dT h22
  refine kP H (SR fun _ K9=>Rm rfl (Rm rfl ?_));clear H;intro a H;refine mI (Li:=[]) (Lo:=Lo) (news:=[x0,x1]) gW gL rfl rfl H wn rfl rfl hrw rfl (hgx H.ro fun _ _ h=>h) hx2 (by omega) (by omega) rfl ?_;clear H;intro v25 auB a w anT H;dsimp only [List.nil_append] at H;refine kH H (aF K9 rfl ?_);clear H K9;intro a H;refine lr H results241 rfl ?_
  exact H.hp.dM (by
   have e:i=n:=by omega
   have e1:xs.take (i*2)=xs:=gu (by omega);have e2:xs.drop (i*2)=[]:=lG (by omega)
   rw [e1,e2,fZ];exact anT)
 intro h22 a H
 try have jk:=dF h22
 have hlt:i < n:=by omega
 obtain ⟨b,cap,cur,he,rfl,-,-,hcs,hct⟩:=hrw.2.resolve_left (fun h=>by omega)
 injection he with e1 e2 e3
 subst e1 e3;obtain ⟨cur,rfl⟩:∃ l:List aj,cur=l.toArray:=⟨cur.toList,by simp⟩
 simp only [List.size_toArray,List.toList_toArray] at hcs hct
 have OW:cur.take (i*2)=xs.take (i*2):=by rw [← hct,List.take_take,Nat.min_eq_left (by omega)]
 have hcd:∀ j u,(xs.drop (i*2))[j]?=some u→cur[i*2+j]?=some u:=fun j u hj=>by
  rw [List.getElem?_drop,← hct,tK] at hj
  split at hj
  ·exact hj
  cases hj
 have amP:∀ j u,(xs.take (i*2))[j]?=some u→cur[j]?=some u:=fun j u hj=>by
  rw [← OW,tK] at hj
  split at hj
  ·exact hj
  cases hj
 have hyl:(xs.drop (i*2)).length=(n - i)*2:=by rw [List.length_drop,hxl];omega
 have hy1:(xs.drop (i*2)).all Value.oneCell'=true:=kE.2 fun u hu=>kE.1 hx1 u (List.mem_of_mem_drop hu)
 have hbne:bv≠b:=fun e=>by have:=hO.sep (b,_) (List.mem_singleton_self _);rw [← e,hb] at this;cases this
 refine kP H (Kc K7 (SQ fun _ eU=>SR fun _ fQ=>Rm rfl (Rm rfl (Rd rfl (Rm rfl ?_)))));clear H K7;intro a H;refine arR gW H wn rfl rfl ?_;clear H;intro a H;refine kH H (Rc rfl (Kz fQ (Cd rfl ?_ ?_))) <;> clear H fQ
 ·intro h31 a H
  try have p31:=dT h31
  refine kP H (SR fun _ iF=>Rm rfl (Rm rfl ?_));clear H;intro a H;refine ET gW gL i H wn rfl rfl rfl (by omega) rfl ?_;clear H;intro a H;refine kH H (Rm rfl (Rm rfl (Rd rfl (Rm rfl (Rs rfl ?_)))));clear H;intro a H;refine arN (m:=n+1 - i) gW lq gL rfl rfl (xs.take (i*2)) H wn rfl rfl (by omega) (by rw [List.length_take,hxl];omega) (fun j u hj=>H.hp.sw 0 rfl (by rw [gD];simpa using amP j u hj)) (by omega) (by omega) (by omega) (by omega) rfl ?_;clear H;intro b2 cap2 Ed a w hq1 hq2 hq3 hq4 H;rw [show i+(n+1 - i)=n+1 by omega] at hq1 H;refine kH H (aF iF rfl (SR fun _ jd=>Rm rfl (Rm rfl ?_)));clear H iF;intro a H;refine zl gW gL i H wn rfl rfl rfl (by omega) rfl ?_;clear H;intro a H;rw [ah (by omega),vE,add_lit,gD] at H;refine kH H (Rm rfl ?_);clear H;intro a H;refine Qr gW gL 0 1 [x0,x1] H wn rfl rfl rfl (by omega) rfl (hgx H.ro fun _ _ h=>h) (by simp;omega) hx2 rfl ?_;clear H;intro a w H;dsimp only [List.set] at H;obtain ⟨aoe,aof⟩:=asB (x:=[x0,x1]) (ys:=xs.drop (i*2)) (q:=2) hq4 (by omega) rfl (by rw [hyl];omega);refine jd _ _ ?_;clear jd;refine eY (fun _ iW=>?_);refine dI hmx [[],[],[],[1,2],(ra 0 4),[],[],[5,6],(ra 0 8)] [8] (by kernel_rfl) [_,_,_,_,.slice (some ⟨b2,i*2+2,none⟩) (n - i) (cap2 - (i+1)),_,_,.slice (some ⟨b,i*2,none⟩) (n - i) (c - i)] H (aD (Z0 rfl (Rm rfl)) (Z0 rfl (Rm rfl)) (Z0 rfl (Rm rfl)) (Z2 1 47 2 48 rfl (Rd rfl)) (aD ?_ (Z0 rfl (Rm rfl)) (Z0 rfl (Rm rfl)) ?_ (bM (bS rfl) cO))) ?_
  ·refine dL 0 46 3 49 rfl rfl fun _ a w G1 hG HT H fin=>?_;refine zl gW gL (i+1) H wn rfl rfl (by omega) (by omega) rfl ?_;clear H;intro a H;exact fin H iJ (Qy (by omega) (by omega) (by omega) rfl)
  ·refine dL 5 51 6 52 rfl rfl fun _ a w G1 hG HT H fin=>?_;refine zl gW gL i H wn rfl rfl rfl (by omega) rfl ?_;clear H;intro a H;exact fin H iJ (Qy (by omega) (by omega) (by omega) rfl)
  clear H;intro a w G mF H hv;have H:=H.aN (hv 4 50 rfl rfl) rfl;have H:=H.aN (hv 7 53 rfl rfl) rfl;clear hv;refine Qr gW gL 0 (n - i) (xs.drop (i*2)) H wn rfl rfl rfl (by omega) hyl (fun j u hj=>H.hp.sw 1 rfl (by simpa using hcd j u hj)) (by rw [EU (by simp;omega),hyl];omega) hy1 rfl ?_;clear H;intro a w H;dsimp only [List.set] at H;refine aC ⟨rfl,?_⟩;refine iW _ _ ?_;clear iW;exact kP H (SR fun _ mq=>Rm rfl (aF mq rfl (LR results241 rfl fun H=>H.hp.kZ (L':=[_]) (List.Sublist.cons_cons _ (List.nil_sublist _)) ⟨by simp [List.length_take,hxl,hyl];omega,.inr ⟨b2,cap2,_,rfl,rfl,hq1,hq2,by rw [List.size_toArray,aof,hq3],by rw [List.toList_toArray];rw [← aoe];congr 1;rw [hyl];omega⟩⟩)))
 intro h31 a H
 try have p31:=dF h31
 refine kP H (Kc eU (SR fun _ oJ=>Rm rfl (Rm rfl (Rm rfl (Rd rfl ?_)))));clear H eU;intro a H;refine ET gW gL (n+1) H wn rfl rfl (by omega) (by omega) rfl ?_;clear H;intro a H;refine kH H (aF oJ rfl (SQ fun _ qD=>SR fun _ pR=>Rm rfl (Rm rfl (Rm rfl (Rm rfl (Rd rfl ?_))))));clear H oJ;intro a H;refine zl gW gL (i+1) H wn rfl rfl (by omega) (by omega) rfl ?_;clear H;intro a H;rw [ah (by omega),vE,add_lit,gD] at H;refine asa (t:=23) (tr:=4) func262 (by kernel_rfl) (by kernel_rfl) (by kernel_rfl) (by kernel_rfl) gW gL H wn rfl rfl (H.ro _ _ hb) (H.hp.own (b,_) (List.mem_singleton_self _)) hbne (by rw [List.size_toArray,hcs];omega) rfl ?_;clear H;intro a H;refine kH H (Rn rfl (Kz pR (Cd rfl ?_ ?_))) <;> clear H pR
 ·intro h68 a H
  try have p68:=dT h68
  refine eY (fun _ pz=>?_);refine dI hmx [[],[],[],[1,2],(ra 0 4),[],[],[5,6],(ra 0 8)] [8] (by kernel_rfl) [_,_,_,_,.slice (some ⟨b,i*2+2,none⟩) (n - i) (c - (i+1)),_,_,.slice (some ⟨b,i*2,none⟩) (n+1 - i) (c - i)] H (aD (Z0 rfl (Rm rfl)) (Z0 rfl (Rm rfl)) (Z0 rfl (Rm rfl)) (Z2 1 70 2 71 rfl (Rd rfl)) (aD ?_ (Z0 rfl (Rm rfl)) (Z0 rfl (Rm rfl)) ?_ (bM (bS rfl) cO))) ?_
  ·refine dL 0 69 3 72 rfl rfl fun _ a w G1 hG HT H fin=>?_;refine zl gW gL (i+1) H wn rfl rfl (by omega) (by omega) rfl ?_;clear H;intro a H;exact fin H iJ (Qy (by omega) (by omega) (by omega) rfl)
  ·refine dL 5 74 6 75 rfl rfl fun _ a w G1 hG HT H fin=>?_;refine zl gW gL i H wn rfl rfl rfl (by omega) rfl ?_;clear H;intro a H;exact fin H iJ (Qy (by omega) (by omega) (by omega) rfl)
  clear H;intro a w G zS H hv;have H:=H.aN (hv 4 73 rfl rfl) rfl;have H:=H.aN (hv 7 76 rfl rfl) rfl;clear hv;refine Qr gW gL 0 (n - i) (xs.drop (i*2)) H wn rfl rfl rfl (by omega) hyl (fun j u hj=>H.hp.sw 0 rfl (by simpa using hcd j u hj)) (by rw [hyl];omega) hy1 rfl ?_;clear H;intro a w H;dsimp only [List.set] at H;obtain ⟨aog,aoh⟩:=asC (x:=[x0,x1]) (ys:=xs.drop (i*2)) (q:=2) OW (by omega) rfl (by rw [hyl];omega);refine aC ⟨rfl,?_⟩;refine pz _ _ ?_;clear pz;refine kP H (SR fun _ pU=>Rm rfl (Rm rfl ?_));clear H;intro a H;refine zl gW gL i H wn rfl rfl rfl (by omega) rfl ?_;clear H;intro a H;rw [ah (by omega),vE,add_lit,gD] at H;refine kH H (Rm rfl ?_);clear H;intro a H;refine Qr gW gL 0 1 [x0,x1] H wn rfl rfl rfl (by omega) rfl (hgx H.ro zS) (by rw [EU (by rw [hyl];omega)];simp;omega) hx2 rfl ?_;clear H;intro a w H;dsimp only [List.set] at H;refine pU _ _ ?_;clear pU;exact kP H (SR fun _ pV=>Rm rfl (aF pV rfl (LR results241 rfl fun H=>H.hp.dM ⟨by simp [List.length_take,hxl,hyl];omega,.inr ⟨b,c,_,rfl,rfl,by omega,hc2,by rw [List.size_toArray,aoh,hcs],by rw [List.toList_toArray];rw [← aog];congr 1;rw [hyl];omega⟩⟩)))
 intro h68 a H
 exact absurd (show true=false from h68) (by decide)
theorem aht (G:GH) (w0:World) (Lo:OL) (hO:gG G Lo w0) (v:aj) (n i:Nat) (xs:List aj) (hrw:bX 187 2 v n xs Lo) (hx1:xs.all Value.oneCell'=true) (hi:i < n) (hn:n≤4294967296) :
  Calls prog 242 #[v,vi i,vi ((i:Int)+1)] w0 (fP w0 G Lo fun u G' L'=>bX 187 2 u (n - 1) (xs.take (i*2)++xs.drop ((i+1)*2)) L'):=by
 have hml:maxLen=9223372036854775807:=rfl;have hxl:=hrw.1;obtain ⟨b,c,cur,rfl,rfl,hc1,hc2,hcs,hct⟩:=hrw.2.resolve_left (fun h=>by omega);obtain ⟨cur,rfl⟩:∃ l:List aj,cur=l.toArray:=⟨cur.toList,by simp⟩
 simp only [List.size_toArray,List.toList_toArray] at hcs hct
 have OW:cur.take (i*2)=xs.take (i*2):=by rw [← hct,List.take_take,Nat.min_eq_left (by omega)]
 have hcd:∀ j u,(xs.drop ((i+1)*2))[j]?=some u→cur[(i+1)*2+j]?=some u:=fun j u hj=>by
  rw [List.getElem?_drop,← hct,tK] at hj
  split at hj
  ·exact hj
  cases hj
 have hyl:(xs.drop ((i+1)*2)).length=(n - (i+1))*2:=by rw [List.length_drop,hxl];omega
 have hy1:(xs.drop ((i+1)*2)).all Value.oneCell'=true:=kE.2 fun u hu=>kE.1 hx1 u (List.mem_of_mem_drop hu)
 obtain ⟨o2,ho2,ho3⟩:∃ o2,(if c=i+1 then some ⟨b,0,none⟩ else (some ⟨b,0,none⟩:Option Addr).map (·.add ((i+1)*2)))=some ⟨b,o2,none⟩∧(i+1 < n→o2=(i+1)*2):=by
  by_cases h:c=i+1
  ·rw [ak h];exact ⟨0,rfl,fun h=>by omega⟩
  rw [ah h,vE,add_lit,gD];exact ⟨_,rfl,fun _=>rfl⟩
 have hsd:=asA (ys:=xs.drop ((i+1)*2)) OW (by rw [hyl];omega);rw [hyl,show i*2+(n - (i+1))*2=(n - 1)*2 by omega] at hsd;refine jr (N:=33) (T:=[(0,_),(1,_),(2,_)]) func242 rfl ntmps242 rfl rfl hO ?_;intro a H;refine kP H (SR fun _ K1=>aF K1 rfl (SR fun _ K2=>Rm rfl (Rm rfl (Rm rfl (Rm rfl (Rl gW rfl ?_))))));clear H K1;intro a H;refine asf gW gL i (i+1) n H wn rfl rfl rfl rfl rfl (by omega) rfl (by omega) (by omega) hc1 rfl ?_;clear H;intro v13 a H;refine K2 _ _ ?_;clear K2;refine kP H (SQ fun _ K3=>SR fun _ K4=>Rm rfl (Rm rfl (Rc rfl (Kz K4 (Cd rfl ?_ ?_))))) <;> clear H K4
 ·intro h16 a H
  try have p16:=dT h16
  exfalso;omega
 intro h16 a H
 try have p16:=dF h16
 refine kP H (Kc K3 (SR fun _ K5=>Rm rfl (Rl gW rfl (aF K5 rfl (SQ fun _ K6=>?_)))));clear H K3 K5;intro a H;refine dI hmx [[],[],[0,1],[],[],[3,4],(ra 0 6),(ra 0 7)] [6,7] (by kernel_rfl) [_,_,.slice (some ⟨b,0,none⟩) i c,_,_,.slice (some ⟨b,o2,none⟩) (n - (i+1)) (c - (i+1))] H (aD (Z0 rfl (Rm rfl)) (Z0 rfl (Rm rfl)) ?_ (Z0 rfl (Rm rfl)) (aD (Z0 rfl (Rm rfl)) ?_ (bS rfl) (bS rfl) cO)) ?_
 ·refine dL 0 20 1 21 rfl rfl fun _ a w G1 hG HT H fin=>?_;refine ET gW gL i H wn rfl rfl rfl (by omega) rfl ?_;clear H;intro a H;exact fin H iJ rfl
 ·refine dL 3 23 4 24 rfl rfl fun _ a w G1 hG HT H fin=>?_;refine zl gW gL (i+1) H wn rfl rfl (by omega) (by omega) rfl ?_;clear H;intro a H;exact fin H iJ (aB (fun A=>Value.slice A (n - (i+1)) (c - (i+1))) ho2)
 clear H;intro a w G lZ H hv;have H:=H.aN (hv 2 22 rfl rfl) rfl;have H:=H.aN (hv 5 25 rfl rfl) rfl;clear hv
 refine arM gW gL 0 (xs.drop ((i+1)*2)) H wn rfl rfl rfl hyl (fun j u hj=>H.hp.sw 0 rfl (by
  have hj2:=(jO.1 hj).1;rw [hyl] at hj2
  rw [ho3 (by omega)];simpa using hcd j u hj)) hy1 (by omega) (by rw [hyl];omega) rfl ?_;clear H;intro a w H
 dsimp only [List.set] at H;rw [show i+(n - (i+1))=n - 1 by omega] at H;refine kH H (Ra rfl ?_);clear H;intro a H;refine aC ⟨rfl,?_⟩;refine K6 _ _ ?_;clear K6;refine kP H (SR fun _ K7=>Rm rfl (Rm rfl (Rl gW rfl (Rm rfl ?_))));clear H;intro a H;refine ase gW gL (n - 1) n H wn rfl rfl rfl rfl rfl (by omega) (by omega) rfl ?_;clear H;intro a H;rw [ah (by omega),vE,add_lit,gD,show n - (n - 1)=1 by omega] at H;refine adM gW gL rfl rfl 0 H wn rfl rfl (by omega) (by rw [EU (by rw [hyl];omega)];omega) ?_;clear H;intro c2 w hq1 hq2 H;dsimp only [List.set] at H;refine K7 _ _ ?_;clear K7;exact kP H (SR fun _ K8=>Rm rfl (aF K8 rfl (LR results242 rfl fun H=>H.hp.dM ⟨by simp [List.length_take,hxl];omega,.inr ⟨b,c,_,rfl,rfl,by omega,hc2,by rw [List.size_toArray,hq1,EU (by rw [hyl];omega),hcs],by rw [List.toList_toArray,hq2,hsd]⟩⟩)))
def EW (l:List aS) (k v:Int):List aS:=if ni (l.map aS.key) k=true then l.set (iB (l.map aS.key) k) ⟨(l.getD (iB (l.map aS.key) k) ⟨0,0⟩).key,v⟩ else l.take (iB (l.map aS.key) k)++⟨k,v⟩ :: l.drop (iB (l.map aS.key) k)
def Eb (l:List aS) (k:Int):List aS:=if ni (l.map aS.key) k=true then l.take (iB (l.map aS.key) k)++l.drop (iB (l.map aS.key) k+1) else l
theorem NY (l:List aS) (i:Nat) (h:i≤l.length):(lU l).take (i*2)=lU (l.take i)∧(lU l).drop (i*2)=lU (l.drop i):=by
 have e:lU l=lU (l.take i)++lU (l.drop i):=by rw [← KD,List.take_append_drop]
 have hl:(lU (l.take i)).length=i*2:=by rw [Sg,List.length_take,Nat.min_eq_left h]
 rw [e];exact ⟨by rw [List.take_append_of_le_length (by omega),gu (by omega)],by rw [List.drop_append_of_le_length (by omega),lG (by omega),oL]⟩
theorem YD (l:List aS):(lU l).all Value.oneCell'=true:=by
 rw [kE];intro u hu;obtain ⟨cs,hcs,hu⟩:=List.mem_flatten.1 hu;obtain ⟨p,-,rfl⟩:=List.mem_map.1 hcs
 simp only [aS.cells,iX,List.mem_nil_iff,or_false] at hu
 rcases hu with rfl|rfl <;> rfl
theorem ahr (l:List aS) (i:Nat) (h:i < l.length) (v:Int):(lU l).set (i*2+1) (vi v)=lU (l.set i ⟨l[i].key,v⟩):=by
 have e:lU l=lU (l.take i)++([vi l[i].key,vi l[i].value]++lU (l.drop (i+1))):=by
  conv=>lhs;rw [← List.take_append_drop i l,qR h,KD]
  rfl
 have hl:(lU (l.take i)).length=i*2:=by rw [Sg,List.length_take,Nat.min_eq_left (by omega)]
 rw [e,List.set_append_right _ _ (by omega),hl,show i*2+1 - i*2=1 by omega,show ([vi l[i].key,vi l[i].value]++lU (l.drop (i+1))).set 1 (vi v)=[vi l[i].key,vi v]++lU (l.drop (i+1)) from rfl,List.set_eq_take_append_cons_drop (l:=l),ak h,KD]
 rfl
theorem asH (G:GH) (w0:World) (hG:Hold G w0) (l:List aS) (k x:Int) (v:aj) (hv:au G (.sl 2 (l.map aS.dat)) v) (hl:l.length≤4294967295) :
  Calls prog 214 #[v,vi k,vi x] w0 (bB w0 G fun u G'=>au G' (.sl 2 ((EW l k x).map aS.dat)) u):=by
 obtain ⟨A,c,rfl,hc1,hc2,-⟩:=hv.slice;rw [bO] at *;refine eN [(0,_),(1,_),(2,_)] func214 rfl ntmps214 rfl rfl hG ?_;intro a H;refine kP H (SR fun _ K1=>aF K1 rfl (SR fun _ K2=>Rm rfl (Rm rfl ?_)));clear H K1;intro a H;refine s_call SI H wn rfl (WE _ _ H.ro l k _ hv (by omega)) rfl ?_;clear H;rintro v13 DR a w rfl yT H;obtain ⟨n,hn⟩:∃ n,n=iB (l.map aS.key) k:=⟨_,rfl⟩;obtain ⟨q,hq⟩:∃ q,q=ni (l.map aS.key) k:=⟨_,rfl⟩;rw [← hn,← hq] at H;refine kH H (Rm rfl ?_);clear H;intro a H;(iterate 2 refine lQ H wn rfl rfl rfl ?_;clear H;intro a H);refine kH H (Ra rfl (aF K2 rfl (SR fun _ K3=>Rm rfl ?_)));clear H K2;intro a H;refine gK Sv (Li:=[]) (L:=[]) H wn rfl (acZ (Hp.owns (Li:=[]) H.hp) l _ (hv.mono yT) (by omega)) rfl ?_;clear H;rintro v17 yG Rq a w Pn sW H;dsimp only [List.nil_append] at H;obtain ⟨A17,c17,rfl,-,-⟩:=Pn.shape;refine kH H (aF K3 rfl (SQ fun _ K4=>SR fun _ K5=>Rm rfl (Kz K5 (Cd rfl ?_ ?_)))) <;> clear H K3 K5
 ·intro h18 a H
  try have sF:=dT h18
  refine eY (fun _ K6=>?_)
  have hlt:n < l.length:=by
   have:=Lb (ks:=l.map aS.key) (t:=k) (by rw [← hq];assumption);rw [← hn] at this;simpa using this
  obtain ⟨bb,rfl⟩:=Pn.ptr (by omega);obtain ⟨cur,-,rfl,hcur,hset⟩:=Pn.set1;refine kP H (SC (Rm rfl (Rm rfl (Rm rfl ?_))));clear H;intro a H;refine yx gW gL n H wn rfl rfl rfl (by omega) rfl ?_;clear H;intro a H;refine kH H (Rf Tg rfl ?_);clear H;intro a H;refine aY aT 0 (c:=cur) (vs:=[vi x]) (cur.set (n*2+1) (vi x)) H wn rfl rfl rfl rfl rfl rfl (by simp;omega) (by rw [gD];rfl) ?_;clear H;intro w H;dsimp only [List.set] at H;have hrwn:=hset (n*2+1) (vi x);rw [ahr l n hlt] at hrwn;obtain ⟨G',hm',hrep,H⟩:=St.nO (Li:=[]) H hrwn (rows:=(l.set n ⟨l[n].key,x⟩).map aS.dat) (by simp) (Qb _ _);exact kH H (Kn K6 (SR fun _ K7=>Rm rfl (aF K7 rfl (LR results214 rfl fun H=>H.rt (by rw [EW,ak (by rw [← hq];assumption),← hn,List.getD_eq_getElem?_getD,dZ hlt];exact hrep)))))
 intro h18 a H
 try have sF:=dF h18
 refine kP H (Kc K4 (SR fun _ K8=>Rm rfl (Rm rfl (Rm rfl (Rm rfl ?_)))));clear H K4;intro a H;refine jl atl [_,_] H wn rfl rfl rfl rfl ?_;clear H;intro a H;refine gQ gW gL [_,_] [_,_] H wn rfl rfl rfl rfl rfl (by intro i q h;match i,h with|0,h=>exact h|n+1,h=>simp at h) rfl rfl ?_;clear H;intro Yb a w ams H;obtain ⟨Gb,hmb,amt,H⟩:=H.eB;refine gK ajl (Li:=[]) (L:=Rq) H wn rfl (aoM _ _ Rq (Hp.owns (Li:=[]) H.hp) _ l.length n (lU l) Pn (YD l) (by rw [hn];exact Nat.le_trans (D9 _ _) (by simp)) (by omega) Yb (vi k) (vi x) amt rfl rfl) rfl ?_;clear H;rintro v31 G31 L31 a w Po avn H;rw [(NY l n (by rw [hn];exact Nat.le_trans (D9 _ _) (by simp))).1,(NY l n (by rw [hn];exact Nat.le_trans (D9 _ _) (by simp))).2] at Po
 obtain ⟨G',hm',hrep,H⟩:=St.nO (Li:=[]) H Po (rows:=(l.take n++⟨k,x⟩ :: l.drop n).map aS.dat) (by simp;have:=D9 (l.map aS.key) k;rw [← hn] at this;simp at this;omega) (by
  have h:bV G31 2 ((l.take n++⟨k,x⟩ :: l.drop n).map aS.dat) (lU (l.take n++⟨k,x⟩ :: l.drop n)):=Qb _ _;rw [KD] at h
  simpa [lU,aS.cells] using h)
 exact kH H (aF K8 rfl (LR results214 rfl fun H=>H.rt (by rw [EW,ah (by rw [← hq];simp_all),← hn];exact hrep)))
theorem agM (G:GH) (w0:World) (hG:Hold G w0) (l:List aS) (k:Int) (v:aj) (hv:au G (.sl 2 (l.map aS.dat)) v) (hl:l.length≤4294967295) :
  Calls prog 215 #[v,vi k] w0 (bB w0 G fun u G'=>au G' (.sl 2 ((Eb l k).map aS.dat)) u):=by
 obtain ⟨A,c,rfl,hc1,hc2,-⟩:=hv.slice;rw [bO] at *;refine eN [(0,_),(1,_)] func215 rfl ntmps215 rfl rfl hG ?_;intro a H;refine kP H (SR fun _ K1=>aF K1 rfl (SR fun _ K2=>Rm rfl (Rm rfl ?_)));clear H K1;intro a H;refine s_call SI H wn rfl (WE _ _ H.ro l k _ hv (by omega)) rfl ?_;clear H;rintro v11 tC a w rfl CV H;obtain ⟨n,hn⟩:∃ n,n=iB (l.map aS.key) k:=⟨_,rfl⟩;obtain ⟨q,hq⟩:∃ q,q=ni (l.map aS.key) k:=⟨_,rfl⟩;rw [← hn,← hq] at H;refine kH H (Rm rfl ?_);clear H;intro a H;(iterate 2 refine lQ H wn rfl rfl rfl ?_;clear H;intro a H);refine kH H (Ra rfl (aF K2 rfl (SR fun _ K3=>Rm rfl ?_)));clear H K2;intro a H;refine gK Sv (Li:=[]) (L:=[]) H wn rfl (acZ (Hp.owns (Li:=[]) H.hp) l _ (hv.mono CV) (by omega)) rfl ?_;clear H;rintro v15 Cn Rp a w U7 BD H;dsimp only [List.nil_append] at H;obtain ⟨Xo,c15,rfl,-,-⟩:=U7.shape;refine kH H (aF K3 rfl (SQ fun _ K4=>SR fun _ K5=>Rm rfl (Kz K5 (Cd rfl ?_ ?_)))) <;> clear H K3 K5
 ·intro h16 a H
  try have p16:=dT h16
  have hlt:n < l.length:=by
   have:=Lb (ks:=l.map aS.key) (t:=k) (by rw [← hq];assumption);rw [← hn] at this;simpa using this
  refine kP H (SC (Rm rfl (Rm rfl (Rm rfl (Rd rfl ?_)))));clear H;intro a H;refine gK ajm (Li:=[]) (L:=Rp) H wn rfl (aht _ _ Rp (Hp.owns (Li:=[]) H.hp) _ l.length n (lU l) U7 (YD l) hlt (by omega)) rfl ?_;clear H;rintro v21 Nj L21 a w abC BF H;rw [(NY l n (by omega)).1,(NY l (n+1) (by omega)).2,← KD] at abC;obtain ⟨G',hm',hrep,H⟩:=St.nO (Li:=[]) H abC (rows:=(l.take n++l.drop (n+1)).map aS.dat) (by simp;omega) (Qb _ _);exact kH H (gY K4 rfl (SR fun _ K6=>Rm rfl (aF K6 rfl (LR results215 rfl fun H=>H.rt (by rw [Eb,ak (by rw [← hq];assumption),← hn];exact hrep)))))
 intro h16 a H
 try have p16:=dF h16
 obtain ⟨G',hm',hrep,H⟩:=St.nO (Li:=[]) H U7 (rows:=l.map aS.dat) (by simp) (Qb _ _);exact kP H (Kc K4 (SR fun _ K7=>Rm rfl (aF K7 rfl (LR results215 rfl fun H=>H.rt (by rw [Eb,ah (by rw [← hq];simp_all)];exact hrep)))))
theorem akB:Nh prog 187 [(0,false),(1,false)]:=⟨by kernel_rfl,by kernel_rfl,by kernel_rfl,by kernel_rfl,by kernel_rfl⟩
theorem akz:Nh prog 159 [(0,false),(1,false)]:=⟨by kernel_rfl,by kernel_rfl,by kernel_rfl,by kernel_rfl,by kernel_rfl⟩
theorem akA:Nh prog 161 [(0,false),(1,false),(2,false),(3,true)]:=⟨by kernel_rfl,by kernel_rfl,by kernel_rfl,by kernel_rfl,by kernel_rfl⟩
theorem Za:∀ args w,(callFunc 102 args).run prog w=.ok (.enter 102 args) w:=enters func102 rfl (by kernel_rfl)
instance Cz:dR prog 27 0 0:=⟨by kernel_rfl⟩
instance ZR:dR prog 27 1 1:=⟨by kernel_rfl⟩
theorem ahH:∀ args w,(callFunc 103 args).run prog w=.ok (.enter 103 args) w:=enters func103 rfl (by kernel_rfl)
theorem ahI:∀ args w,(callFunc 104 args).run prog w=.ok (.enter 104 args) w:=enters func104 rfl (by kernel_rfl)
abbrev fO.cells (x:fO):List aj:=[vi x.rev,vi x.move]
abbrev cB.cells (x:cB):List aj:=[vi x.rev,vi x.key,vi x.before,.bool x.had]
theorem KG {G:GH} {x:fO} {cs:List aj} (h:aV G x.dat cs):cs=x.cells:=by
 simp only [fO.dat,aV,au] at h
 obtain ⟨_,_,rfl,⟨rfl,_⟩,_,_,rfl,⟨rfl,_⟩,rfl⟩:=h
 rfl
theorem VB {G:GH} {x:cB} {cs:List aj} (h:aV G x.dat cs):cs=x.cells:=by
 simp only [cB.dat,aV,au] at h
 obtain ⟨_,_,rfl,⟨rfl,_⟩,_,_,rfl,⟨rfl,_⟩,_,_,rfl,⟨rfl,_⟩,_,_,rfl,⟨rfl,_⟩,rfl⟩:=h
 rfl
theorem aS.eq_iff (a b:aS):(a.key=b.key∧a.value=b.value)↔a=b:=by cases a;cases b;simp
theorem fO.eq_iff (a b:fO):(a.rev=b.rev∧a.move=b.move)↔a=b:=by cases a;cases b;simp
theorem cB.eq_iff (a b:cB):(a.rev=b.rev∧a.key=b.key∧a.before=b.before∧a.had=b.had)↔a=b:=by cases a;cases b;simp
instance:DecidableEq aS:=fun a b=>decidable_of_iff _ (aS.eq_iff a b)
instance:DecidableEq fO:=fun a b=>decidable_of_iff _ (fO.eq_iff a b)
instance:DecidableEq cB:=fun a b=>decidable_of_iff _ (cB.eq_iff a b)
theorem apH (a b:aS):(!([(0,false),(1,false)].all fun o=>lV #[vi a.key,vi a.value] o == lV #[vi b.key,vi b.value] o))=!decide (a=b):=by
 have h:=aS.eq_iff a b;rw [nL]
 simp only [vI,mU]
 rw [← h]
 simp [lV]
theorem apF (a b:fO):(!([(0,false),(1,false)].all fun o=>lV #[vi a.rev,vi a.move] o == lV #[vi b.rev,vi b.move] o))=!decide (a=b):=by
 have h:=fO.eq_iff a b;rw [nL]
 simp only [vI,mU]
 rw [← h]
 simp [lV]
theorem apG (a b:cB):(!([(0,false),(1,false),(2,false),(3,true)].all fun o=>lV #[vi a.rev,vi a.key,vi a.before,.bool a.had] o == lV #[vi b.rev,vi b.key,vi b.before,.bool b.had] o))=!decide (a=b):=by
 have h:=cB.eq_iff a b;rw [nL]
 simp only [vI,mU]
 rw [← h]
 simp [lV]
theorem ZF (G:GH) (w0:World) (hG:Hold G w0) (A B:List aS) (v u:aj) (hv:au G (.sl 2 (A.map aS.dat)) v) (hu:au G (.sl 2 (B.map aS.dat)) u) :
  Calls prog 102 #[v,u] w0 (bB w0 G fun r G'=>r=.bool (decide (A=B))):=by
 obtain ⟨vA,vc,rfl,hc1,hc2,hg⟩:=hv.slice;obtain ⟨uA,uc,rfl,hd1,hd2,hh⟩:=hu.slice;have hml:maxLen=9223372036854775807:=rfl;(iterate 2 rw [bO] at *);refine eN [(0,_),(1,_)] func102 rfl ntmps102 rfl rfl hG ?_;refine goB 11 ?_ ?_
 ·intro iU
  refine bP 3 ?_;exact (dG (jf fun e=>absurd (aB List.length e) (by omega)).symm)
 intro iU
 refine av 8 ?_;intro a H;refine eH (ι:=Nat × GH) (Tc:=[(0,_),(1,_),(12,_)]) (Lc:=[]) (fun gh=>[(13,vi gh.1)]) (fun gh=>[]) (fun gh=>gh.2) (fun gh=>gh.1≤A.length∧A.take gh.1=B.take gh.1∧(∀ b o,G b=some o→gh.2 b=some o)) (fun gh=>A.length - gh.1) ((0,G)) sB ?_ ?_
 ·exact ⟨by omega,rfl,fun _ _ h=>h⟩
 clear H;rintro ⟨k,g⟩ a w hI H;dsimp only at hI H;obtain ⟨hk,hsame,hgm⟩:=hI;dsimp only [lca,bK] at H;refine iI 4 H ?_ ?_ <;> clear H
 ·intro lN
  have hk2:k < A.length:=by omega
  have hk3:k < B.length:=by omega
  obtain ⟨b1,o1,cs1,rfl,zW,pI,hr1⟩:=hg k A[k].dat (by simp [hk2]);obtain rfl:=Qa hr1;obtain ⟨b2,o2,cs2,rfl,zX,hrow2,hr2⟩:=hh k B[k].dat (by simp [hk3]);obtain rfl:=Qa hr2;refine av 8 ?_;intro a H;refine dI hmx [[],[],[0,1],[0,1,2],[],[],[4,5],[4,5,6],(ra 0 8)] [] (by kernel_rfl) [_,_,_,.agg A[k].cells.toArray,_,_,_,.agg B[k].cells.toArray,.bool (!decide (A[k]=B[k]))] H (aD (Z0 rfl (Rm rfl)) (Z0 rfl (Rm rfl)) (Z2 0 16 1 17 rfl (Ri gW gL rfl rfl)) ?_ (aD (Z0 rfl (Rm rfl)) (Z0 rfl (Rm rfl)) (Z2 4 20 5 21 rfl (Ri gW gL rfl rfl)) ?_ (bM ?_ cO))) ?_
  ·refine eu 2 18 rfl rfl fun _ a w G1 hG HT H fin=>?_;refine aR gL (cs:=A[k].cells) H wn rfl rfl (fun j v hj=>H.hp.aH (aG hG (aG hgm (pI j v hj)))) rfl ?_;clear H;intro a H;exact fin H iJ rfl
  ·refine eu 6 22 rfl rfl fun _ a w G1 hG HT H fin=>?_;refine aR gL (cs:=B[k].cells) H wn rfl rfl (fun j v hj=>H.hp.aH (aG hG (aG hgm (hrow2 j v hj)))) rfl ?_;clear H;intro a H;exact fin H iJ rfl
  ·refine dL 3 19 7 23 rfl rfl fun _ a w G1 hG HT H fin=>?_;refine WA (.inr rfl) akB H wn rfl rfl rfl rfl ?_;clear H;intro a H;exact fin H iJ (dG (apH A[k] B[k]))
  clear H;intro a w G gM H hv;have H:=H.aN (hv 8 24 rfl rfl) rfl;clear hv;refine t0 1 H ?_;clear H;refine goC 0 ?_ ?_
  ·intro fq
   refine bP 3 ?_;exact (dG (jf fun e=>absurd fq (by subst e;simp)).symm)
  intro fq
  try have jT:=dF fq
  have hsm:A[k]=B[k]:=by simpa using fq
  refine av 4 ?_;intro a H;refine aC ?_;refine dx ((k+1,G)) sB ?_
  (try dsimp only);exact ⟨by omega,by rw [fV hk2,fV hk3,hsame,hsm],fun b o h=>gM b o (hgm b o h)⟩
 intro lN
 refine bP 4 ?_;exact (dG (iO (by rw [gu (by omega),gu (by omega)] at hsame;exact hsame)).symm)
theorem akg (G:GH) (w0:World) (hG:Hold G w0) (A B:List fO) (v u:aj) (hv:au G (.sl 2 (A.map fO.dat)) v) (hu:au G (.sl 2 (B.map fO.dat)) u) :
  Calls prog 103 #[v,u] w0 (bB w0 G fun r G'=>r=.bool (decide (A=B))):=by
 obtain ⟨vA,vc,rfl,hc1,hc2,hg⟩:=hv.slice;obtain ⟨uA,uc,rfl,hd1,hd2,hh⟩:=hu.slice;have hml:maxLen=9223372036854775807:=rfl;(iterate 2 rw [bO] at *);refine eN [(0,_),(1,_)] func103 rfl ntmps103 rfl rfl hG ?_;refine goB 11 ?_ ?_
 ·intro iU
  refine bP 3 ?_;exact (dG (jf fun e=>absurd (aB List.length e) (by omega)).symm)
 intro iU
 refine av 8 ?_;intro a H;refine eH (ι:=Nat × GH) (Tc:=[(0,_),(1,_),(12,_)]) (Lc:=[]) (fun gh=>[(13,vi gh.1)]) (fun gh=>[]) (fun gh=>gh.2) (fun gh=>gh.1≤A.length∧A.take gh.1=B.take gh.1∧(∀ b o,G b=some o→gh.2 b=some o)) (fun gh=>A.length - gh.1) ((0,G)) sB ?_ ?_
 ·exact ⟨by omega,rfl,fun _ _ h=>h⟩
 clear H;rintro ⟨k,g⟩ a w hI H;dsimp only at hI H;obtain ⟨hk,hsame,hgm⟩:=hI;dsimp only [lca,bK] at H;refine iI 4 H ?_ ?_ <;> clear H
 ·intro lN
  have hk2:k < A.length:=by omega
  have hk3:k < B.length:=by omega
  obtain ⟨b1,o1,cs1,rfl,zW,pI,hr1⟩:=hg k A[k].dat (by simp [hk2]);obtain rfl:=KG hr1;obtain ⟨b2,o2,cs2,rfl,zX,hrow2,hr2⟩:=hh k B[k].dat (by simp [hk3]);obtain rfl:=KG hr2;refine av 8 ?_;intro a H;refine dI hmx [[],[],[0,1],[0,1,2],[],[],[4,5],[4,5,6],(ra 0 8)] [] (by kernel_rfl) [_,_,_,.agg A[k].cells.toArray,_,_,_,.agg B[k].cells.toArray,.bool (!decide (A[k]=B[k]))] H (aD (Z0 rfl (Rm rfl)) (Z0 rfl (Rm rfl)) (Z2 0 16 1 17 rfl (Ri uD oG rfl rfl)) ?_ (aD (Z0 rfl (Rm rfl)) (Z0 rfl (Rm rfl)) (Z2 4 20 5 21 rfl (Ri uD oG rfl rfl)) ?_ (bM ?_ cO))) ?_
  ·refine eu 2 18 rfl rfl fun _ a w G1 hG HT H fin=>?_;refine aR oG (cs:=A[k].cells) H wn rfl rfl (fun j v hj=>H.hp.aH (aG hG (aG hgm (pI j v hj)))) rfl ?_;clear H;intro a H;exact fin H iJ rfl
  ·refine eu 6 22 rfl rfl fun _ a w G1 hG HT H fin=>?_;refine aR oG (cs:=B[k].cells) H wn rfl rfl (fun j v hj=>H.hp.aH (aG hG (aG hgm (hrow2 j v hj)))) rfl ?_;clear H;intro a H;exact fin H iJ rfl
  ·refine dL 3 19 7 23 rfl rfl fun _ a w G1 hG HT H fin=>?_;refine WA (.inr rfl) akz H wn rfl rfl rfl rfl ?_;clear H;intro a H;exact fin H iJ (dG (apF A[k] B[k]))
  clear H;intro a w G gM H hv;have H:=H.aN (hv 8 24 rfl rfl) rfl;clear hv;refine t0 1 H ?_;clear H;refine goC 0 ?_ ?_
  ·intro fq
   refine bP 3 ?_;exact (dG (jf fun e=>absurd fq (by subst e;simp)).symm)
  intro fq
  try have jT:=dF fq
  have hsm:A[k]=B[k]:=by simpa using fq
  refine av 4 ?_;intro a H;refine aC ?_;refine dx ((k+1,G)) sB ?_
  (try dsimp only);exact ⟨by omega,by rw [fV hk2,fV hk3,hsame,hsm],fun b o h=>gM b o (hgm b o h)⟩
 intro lN
 refine bP 4 ?_;exact (dG (iO (by rw [gu (by omega),gu (by omega)] at hsame;exact hsame)).symm)
theorem akm (G:GH) (w0:World) (hG:Hold G w0) (A B:List cB) (v u:aj) (hv:au G (.sl 4 (A.map cB.dat)) v) (hu:au G (.sl 4 (B.map cB.dat)) u) :
  Calls prog 104 #[v,u] w0 (bB w0 G fun r G'=>r=.bool (decide (A=B))):=by
 obtain ⟨vA,vc,rfl,hc1,hc2,hg⟩:=hv.slice;obtain ⟨uA,uc,rfl,hd1,hd2,hh⟩:=hu.slice;have hml:maxLen=9223372036854775807:=rfl;(iterate 2 rw [bO] at *);refine eN [(0,_),(1,_)] func104 rfl ntmps104 rfl rfl hG ?_;refine goB 11 ?_ ?_
 ·intro iU
  refine bP 3 ?_;exact (dG (jf fun e=>absurd (aB List.length e) (by omega)).symm)
 intro iU
 refine av 8 ?_;intro a H;refine eH (ι:=Nat × GH) (Tc:=[(0,_),(1,_),(12,_)]) (Lc:=[]) (fun gh=>[(13,vi gh.1)]) (fun gh=>[]) (fun gh=>gh.2) (fun gh=>gh.1≤A.length∧A.take gh.1=B.take gh.1∧(∀ b o,G b=some o→gh.2 b=some o)) (fun gh=>A.length - gh.1) ((0,G)) sB ?_ ?_
 ·exact ⟨by omega,rfl,fun _ _ h=>h⟩
 clear H;rintro ⟨k,g⟩ a w hI H;dsimp only at hI H;obtain ⟨hk,hsame,hgm⟩:=hI;dsimp only [lca,bK] at H;refine iI 4 H ?_ ?_ <;> clear H
 ·intro lN
  have hk2:k < A.length:=by omega
  have hk3:k < B.length:=by omega
  obtain ⟨b1,o1,cs1,rfl,zW,pI,hr1⟩:=hg k A[k].dat (by simp [hk2]);obtain rfl:=VB hr1;obtain ⟨b2,o2,cs2,rfl,zX,hrow2,hr2⟩:=hh k B[k].dat (by simp [hk3]);obtain rfl:=VB hr2;refine av 8 ?_;intro a H;refine dI hmx [[],[],[0,1],[0,1,2],[],[],[4,5],[4,5,6],(ra 0 8)] [] (by kernel_rfl) [_,_,_,.agg A[k].cells.toArray,_,_,_,.agg B[k].cells.toArray,.bool (!decide (A[k]=B[k]))] H (aD (Z0 rfl (Rm rfl)) (Z0 rfl (Rm rfl)) (Z2 0 16 1 17 rfl (Ri nP jy rfl rfl)) ?_ (aD (Z0 rfl (Rm rfl)) (Z0 rfl (Rm rfl)) (Z2 4 20 5 21 rfl (Ri nP jy rfl rfl)) ?_ (bM ?_ cO))) ?_
  ·refine eu 2 18 rfl rfl fun _ a w G1 hG HT H fin=>?_;refine aR jy (cs:=A[k].cells) H wn rfl rfl (fun j v hj=>H.hp.aH (aG hG (aG hgm (pI j v hj)))) rfl ?_;clear H;intro a H;exact fin H iJ rfl
  ·refine eu 6 22 rfl rfl fun _ a w G1 hG HT H fin=>?_;refine aR jy (cs:=B[k].cells) H wn rfl rfl (fun j v hj=>H.hp.aH (aG hG (aG hgm (hrow2 j v hj)))) rfl ?_;clear H;intro a H;exact fin H iJ rfl
  ·refine dL 3 19 7 23 rfl rfl fun _ a w G1 hG HT H fin=>?_;refine WA (.inr rfl) akA H wn rfl rfl rfl rfl ?_;clear H;intro a H;exact fin H iJ (dG (apG A[k] B[k]))
  clear H;intro a w G gM H hv;have H:=H.aN (hv 8 24 rfl rfl) rfl;clear hv;refine t0 1 H ?_;clear H;refine goC 0 ?_ ?_
  ·intro fq
   refine bP 3 ?_;exact (dG (jf fun e=>absurd fq (by subst e;simp)).symm)
  intro fq
  try have jT:=dF fq
  have hsm:A[k]=B[k]:=by simpa using fq
  refine av 4 ?_;intro a H;refine aC ?_;refine dx ((k+1,G)) sB ?_
  (try dsimp only);exact ⟨by omega,by rw [fV hk2,fV hk3,hsame,hsm],fun b o h=>gM b o (hgm b o h)⟩
 intro lN
 refine bP 4 ?_;exact (dG (iO (by rw [gu (by omega),gu (by omega)] at hsame;exact hsame)).symm)
theorem dP.eq_iff (a b:dP):(((a.props=b.props∧a.marks.ins=b.marks.ins)∧a.marks.move=b.marks.move)∧a.marks.bH=b.marks.bH)∧a.marks.layers=b.marks.layers↔a=b:=by
 obtain ⟨p,i,m,d,l⟩:=a;obtain ⟨p2,i2,m2,d2,l2⟩:=b
 simp [and_assoc]
instance:DecidableEq dP:=fun a b=>decidable_of_iff _ (dP.eq_iff a b)
abbrev rz (h:dP) (p d l:aj):aj:=.agg #[p,vi h.marks.ins,vi h.marks.move,d,l]
theorem Iz (G:GH) (w0:World) (hG:Hold G w0) (x y:dP) (p d l p2 d2 l2:aj) (hx:iA G x p d l) (hy:iA G y p2 d2 l2) :
  Calls prog 52 #[rz x p d l,rz y p2 d2 l2] w0 (bB w0 G fun r G'=>r=.bool (decide (x=y))):=by
 obtain ⟨pA,pc,rfl,-,-,-⟩:=hx.props.slice;obtain ⟨dA,dc,rfl,-,-,-⟩:=hx.bH.slice;obtain ⟨lA,lc,rfl,-,-,-⟩:=hx.layers.slice;obtain ⟨JC,pc2,rfl,-,-,-⟩:=hy.props.slice;obtain ⟨Ip,Ir,rfl,-,-,-⟩:=hy.bH.slice;obtain ⟨lA2,lc2,rfl,-,-,-⟩:=hy.layers.slice;have he:=dP.eq_iff x y;refine eN [(0,_),(1,_)] func52 rfl ntmps52 rfl rfl hG ?_;refine av 1 ?_;intro a H;refine dW (cs:=[_,_,_,_,_]) H wn rfl rfl rfl ?_;clear H;intro b2 a w hb2 H;refine dW (cs:=[_,_,_,_,_]) H wn rfl rfl rfl ?_;clear H;intro b3 a w hb3 H;refine bJ 7 H ?_;clear H;intro a H;refine s_call Za H wn rfl (ZF _ _ H.ro x.props y.props _ _ hx.props hy.props) rfl ?_;clear H;rintro v9 G9 a w rfl Aa H;refine sS 1 10 H ?_ ?_ <;> clear H
 ·intro iU
  refine qJ 9 19 ?_ ?_
  ·intro uq
   refine mX 9 28 ?_ ?_
   ·intro nV
    try have p28:=dT nV
    refine av 6 ?_;intro a H;refine s_call ahH H (wg H rfl rfl nV) rfl (akg _ _ H.ro x.marks.bH y.marks.bH _ _ (hx.bH.mono Aa) (hy.bH.mono Aa)) rfl ?_;clear H;rintro v35 XA a w rfl aaS H;refine qd 2 37 H ?_ ?_ <;> clear H
    ·intro h37
     try have p37:=dT h37
     refine av 6 ?_;intro a H;refine s_call ahI H (wg H rfl rfl h37) rfl (akm _ _ H.ro x.marks.layers y.marks.layers _ _ ((hx.layers.mono Aa).mono aaS) ((hy.layers.mono Aa).mono aaS)) rfl ?_;clear H;rintro v44 XC a w rfl LB H;refine kJ 3 H ?_;exact (dG (by simp_all))
    intro h37
    try have p37:=dF h37
    refine bP 10 ?_;exact (dG (by simp_all))
   intro nV
   try have p28:=dF nV
   refine bP 19 ?_;exact (dG (by simp_all))
  intro uq
  refine bP 28 ?_;exact (dG (by simp_all))
 intro iU
 refine bP 37 ?_;exact (dG (by simp_all))
def qY:Nat→List cB→List (Int × List cB)
 | 0,_=>[]
 | _+1,[]=>[]
 | f+1,y :: r=>(y.key,y :: r.takeWhile fun z=>decide (z.key=y.key)) :: qY f (r.dropWhile fun z=>decide (z.key=y.key))
def lJ (acc:Int→Bool):List cB→Nat→Nat→Nat
 | [],_,c=>c
 | y :: r,k,c=>lJ acc r (k+1) (if acc y.rev=true then k+1 else c)
def rF (rej:Int→Bool) (sZ:List (Int × Bool)):List cB→Nat→Int × Bool→List cB × (Int × Bool)
 | [],_,now=>([],now)
 | y :: r,k,now=>if rej y.rev=true then rF rej sZ r (k+1) now else
  let q:=rF rej sZ r (k+1) (sZ.getD (k+1) (0,false))
  (⟨y.rev,y.key,now.1,now.2⟩ :: q.1,q.2)
def qP (props:List aS) (key:Int) (l:List cB):List (Int × Bool):=l.map (fun y=>(y.before,y.had))++[zO props key]
def pY (acc rej:Int→Bool) (props:List aS) (key:Int) (l:List cB):List cB × (Int × Bool) :=
 rF rej (qP props key l) (l.drop (lJ acc l 0 0)) (lJ acc l 0 0) ((qP props key l).getD (lJ acc l 0 0) (0,false))
def zu (l:List aS) (k:Int) (s:Int × Bool):List aS:=if s.2=true then EW l k s.1 else Eb l k
def qV (acc rej:Int→Bool) (props:List aS):List (Int × List cB)→List aS × List cB→List aS × List cB
 | [],s=>s
 | (k,l) :: r,s=>qV acc rej props r (zu s.1 k (pY acc rej props k l).2,s.2++(pY acc rej props k l).1)
def lM (acc rej:Int→Bool) (h:dP):Prop:=(h.marks.ins≠0∧rej h.marks.ins=true)∨∃ x∈h.marks.bH,acc x.rev=true
instance (acc rej:Int→Bool) (h:dP):Decidable (lM acc rej h):=inferInstanceAs (Decidable (_∨_))
def ny (acc:Int→Bool) (h:dP):Prop:=h.marks.ins≠0∧acc h.marks.ins=true
instance (acc:Int→Bool) (h:dP):Decidable (ny acc h):=inferInstanceAs (Decidable (_∧_))
def kM (acc rej:Int→Bool) (h:dP):dP :=
 let q:=qV acc rej h.props (qY h.marks.layers.length h.marks.layers) (h.props,[])
 ⟨q.1,⟨if ny acc h then 0 else h.marks.ins,if ny acc h then 0 else h.marks.move,h.marks.bH.filter fun x=>!rej x.rev,q.2⟩⟩
def Ci:dP:=⟨[],⟨0,0,[],[]⟩⟩
def XW (b:Bool) (h:dP) (u:aj) (G:GH):Prop:=∃ p d l,u=.tuple #[rz h p d l,.bool b]∧iA G h p d l
theorem QU (G:GH):iA G Ci (.slice none 0 0) (.slice none 0 0) (.slice none 0 0):=⟨au.mg rfl (by decide),au.mg rfl (by decide),au.mg rfl (by decide)⟩
theorem asE (l:List aS) (k v:Int):(EW l k v).length≤l.length+1:=by
 unfold EW;split
 ·rw [List.length_set];omega
 have:=D9 (l.map aS.key) k;rw [bO] at this
 simp only [iM,List.length_take,kU,List.length_drop];omega
theorem ahf (l:List aS) (k:Int):(Eb l k).length≤l.length:=by
 unfold Eb;split
 ·have:=D9 (l.map aS.key) k;rw [bO] at this
  simp only [iM,List.length_take,List.length_drop];omega
 exact bR _
theorem aeR (l:List aS) (k:Int) (s:Int × Bool):(zu l k s).length≤l.length+1:=by
 unfold zu;split
 ·exact asE _ _ _
 have:=ahf l k;omega
theorem Vz (rej:Int→Bool) (sZ:List (Int × Bool)):∀ (l:List cB) (k:Nat) (now:Int × Bool),(rF rej sZ l k now).1.length≤l.length
 | [],_,_=>by rw [rF];exact bR _
 | y :: r,k,now=>by
  rw [rF];split
  ·have:=Vz rej sZ r (k+1) now;simp only [kU];omega
  have:=Vz rej sZ r (k+1) (sZ.getD (k+1) (0,false));simp only [kU];omega
theorem TG (acc rej:Int→Bool) (props:List aS) (key:Int) (l:List cB):(pY acc rej props key l).1.length≤l.length:=by
 have:=Vz rej (qP props key l) (l.drop (lJ acc l 0 0)) (lJ acc l 0 0) ((qP props key l).getD (lJ acc l 0 0) (0,false));rw [List.length_drop] at this
 unfold pY;omega
theorem IV:∀ (f:Nat) (l:List cB),l.length≤f→(qY f l).flatMap Prod.snd=l∧∀ q∈qY f l,q.2≠[]
 | 0,l,h=>by
  have:l=[]:=List.eq_nil_of_length_eq_zero (by omega);subst this;exact ⟨rfl,fun q hq=>by cases hq⟩
 | f+1,[],_=>⟨rfl,fun q hq=>by cases hq⟩
 | f+1,y :: r,h=>by
  have h2:(r.dropWhile fun z=>decide (z.key=y.key)).length≤f:=by
   have:=(List.dropWhile_sublist (l:=r) fun z=>decide (z.key=y.key)).length_le
   simp only [kU] at h;omega
  obtain ⟨e1,e2⟩:=IV f _ h2;rw [qY];refine ⟨?_,fun q hq=>?_⟩
  ·rw [List.flatMap_cons,e1]
   show (y :: _)++_=_
   rw [oq,List.takeWhile_append_dropWhile]
  rcases iX.1 hq with rfl|hq
  ·exact List.cons_ne_nil _ _
  exact e2 q hq
theorem WI:Ib prog 172:=⟨by kernel_rfl⟩
theorem agt:prog.cellsOf 5=1:=by kernel_rfl
theorem apM (v:aj) (w:World):(callFunc 210 #[v]).run prog w=.ok (.value v) w:=arF func210 (by kernel_rfl) (by kernel_rfl) (by kernel_rfl) (by kernel_rfl) v w
theorem JN:prog.underlying 169=some (.pointer 172):=by kernel_rfl
instance:lD prog 169 (.pointer 172):=⟨JN⟩
theorem Xb:prog.underlying 280=some .unsafePointer:=by kernel_rfl
instance:lD prog 280 .unsafePointer:=⟨Xb⟩
instance KM:dR prog 172 0 0:=⟨by kernel_rfl⟩
instance MO:Ty prog 169 1 8 [.pointer none] false:=⟨by kernel_rfl,by kernel_rfl⟩
theorem aio:∀ args w,(callFunc 154 args).run prog w=.ok (.enter 154 args) w:=enters func154 rfl (by kernel_rfl)
theorem JO:prog.underlying 170=some (.slice 5):=by kernel_rfl
instance:lD prog 170 (.slice 5):=⟨JO⟩
instance II:dR prog 172 1 1:=⟨by kernel_rfl⟩
instance JL:Ty prog 170 1 24 [.slice none 0 0] false:=⟨by kernel_rfl,by kernel_rfl⟩
theorem aew:prog.underlying 231=some (.pointer 5):=by kernel_rfl
instance:lD prog 231 (.pointer 5):=⟨aew⟩
instance iD:Ty prog 49 1 8 [.int .i64 0] false:=⟨by kernel_rfl,by kernel_rfl⟩
theorem qz:prog.underlying 203=some (.slice 49):=by kernel_rfl
instance:lD prog 203 (.slice 49):=⟨qz⟩
theorem xK:∀ args w,(callFunc 128 args).run prog w=.ok (.enter 128 args) w:=enters func128 rfl (by kernel_rfl)
theorem xW (G:GH) (w0:World) (hG:Hold G w0) (n l h:Int):Calls prog 128 #[vi n,vi l,vi h] w0 (bB w0 G fun u G'=>u=.bool (decide (l≤n∧n≤h))∧G=G'):=by
 refine eN [(0,_),(1,_),(2,_)] func128 rfl ntmps128 rfl rfl hG ?_;intro a H;refine kP H (SR fun _ K1=>aF K1 rfl (SR fun _ K2=>Rm rfl (Rm rfl (Rc rfl (Rm rfl (Sp 10 rfl ?_ ?_)))))) <;> clear H K1
 ·intro h10 a H
  try have iU:=dT h10
  exact kH H (YM h10 rfl (YM h10 rfl (YC h10 rfl (Pt h10 rfl (aF K2 rfl (LR results128 rfl fun H=>H.rt ⟨dG (by first|(simp_all;done)|(simp_all;omega)),rfl⟩))))))
 intro h10 a H
 try have iU:=dF h10
 exact kH H (fB h10 rfl (Pf h10 rfl (aF K2 rfl (LR results128 rfl fun H=>H.rt ⟨dG (by first|(simp_all;done)|(simp_all;omega)),rfl⟩))))
def dh (b:Bool) (e:Int):Int:=if b=true then e else 0
theorem jU (G:GH) (w0:World) (hG:Hold G w0) (b:Bool) (e:Int):Calls prog 71 #[.bool b,vi e] w0 (bB w0 G fun u G'=>u=vi (dh b e)∧G=G'):=by
 refine eN [(0,_),(1,_)] func71 rfl ntmps71 rfl rfl hG ?_;intro a H;refine kP H (SR fun _ K1=>aF K1 rfl (SQ fun _ K2=>SR fun _ K3=>Rm rfl (Kz K3 (Cd rfl ?_ ?_)))) <;> clear H K1 K3
 ·intro h5 a H
  try have p5:=dT h5
  exact kP H (SR fun _ K4=>Rm rfl (aF K4 rfl (LR results71 rfl fun H=>H.rt ⟨aB vi (by simp_all [dh]),rfl⟩)))
 intro h5 a H
 try have p5:=dF h5
 exact kP H (Kc K2 (SR fun _ K5=>aF K5 rfl (LR results71 rfl fun H=>H.rt ⟨aB vi (by simp_all [dh]),rfl⟩)))
def dY:List Int→Int
 | []=>0
 | e :: r=>if e≠0 then e else dY r
theorem Oy {l:List Int} {k:Nat} (h:k < l.length):dY (l.drop k)=if l[k]≠0 then l[k] else dY (l.drop (k+1)):=by
 rw [qR h,dY]
theorem rU (G:GH) (w0:World) (hG:Hold G w0) (l:List Int) (v:aj) (hv:au G (.sl 1 (l.map fun k=>[li k])) v) :
  Calls prog 66 #[v] w0 (bB w0 G fun u G'=>u=vi (dY l)∧G=G'):=by
 obtain ⟨A,c,rfl,hc1,hc2,hg⟩:=hv.slice;have hml:maxLen=9223372036854775807:=rfl;rw [bO] at *;refine eN [(0,_)] func66 rfl ntmps66 rfl rfl hG ?_;intro a H;refine kP H (SR fun _ K1=>aF K1 rfl (SQ fun _ K2=>SR fun _ K3=>Rm rfl (Rl qz rfl (Rm rfl (Kz K3 (SB ?_))))));clear H K1 K3;intro a H;skip;refine eH (ι:=Nat) (Tc:=[(5,_),(6,_)]) (Lc:=[]) (fun gh=>[(7,vi gh)]) (fun gh=>[]) (fun gh=>G) (fun gh=>gh≤l.length∧dY (l.drop gh)=dY l) (fun gh=>l.length - gh) (0) (by exact (H).sub ⟨rfl,rfl,rfl,aL⟩) ?_ ?_
 ·exact ⟨iH _,rfl⟩
 clear H;intro k a w hI H;obtain ⟨hk,he⟩:=hI;dsimp only [lca,bK] at H;refine kP H (SR fun _ K4=>Rc rfl (Kz K4 (SQ fun _ K5=>Cd rfl ?_ ?_))) <;> clear H K4
 ·intro h8 a H
  try have p8:=dT h8
  have hk2:k < l.length:=by omega
  obtain ⟨b,o,cs,rfl,hcl,hrow,hr⟩:=hg k [li l[k]] (by simp [hk2]);obtain ⟨v1,_,rfl,⟨rfl,-⟩,rfl⟩:∃ v vs,cs=v :: vs∧au G (li l[k]) v∧aV G [] vs:=hr
  have hcell:aH G b (o+k*1)=some (vi l[k]):=by simpa using hrow 0 _ rfl
  refine kP H (Kc K5 (SQ fun _ K6=>SB (SR fun _ K7=>Ri qz iD rfl rfl (Rg iD rfl hcell (aF K7 rfl (SR fun _ K8=>Rm rfl (Rc rfl (Kz K8 (Cd rfl ?_ ?_))))))))) <;> clear H K5 K7 K8
  ·intro h12 a H
   try have qo:=dT h12
   exact kP H (SR fun _ K9=>Rm rfl (aF K9 rfl (LR results66 rfl fun H=>H.rt ⟨aB vi (by rw [Oy hk2,ak qo] at he;exact he),rfl⟩)))
  intro h12 a H
  try have qo:=dF h12
  refine kP H (Kc K6 (SC (Rd rfl (Rm rfl ?_))));clear H K6;intro a H;refine aC ?_;refine dx ((k+1)) (by exact (H).sub ⟨rfl,rfl,rfl,aL⟩) ?_
  exact ⟨by omega,by rw [Oy hk2,ah qo] at he;exact he⟩
 intro h8 a H
 try have p8:=dF h8
 refine jI ?_;refine K2 _ _ ?_;clear K2;exact kP H (SR fun _ eU=>aF eU rfl (LR results66 rfl fun H=>H.rt ⟨aB vi (by rw [lG (by omega)] at he;exact he),rfl⟩))
def uH (fv:aj) (Gi:GH) (n:Nat) (E:Nat→Int):Prop:=∀ i,i < n→∀ (G1:GH) (w1:World),(∀ b o,Gi b=some o→G1 b=some o)→Hold G1 w1→rO prog fv [vi i] w1 (bB w1 G1 fun u G'=>u=vi (E i))
theorem uH.mono {fv:aj} {G G':GH} {n:Nat} {E:Nat→Int} (h:uH fv G n E) (hm:∀ b o,G b=some o→G' b=some o):uH fv G' n E:=fun i hi G1 w1 hG1=>h i hi G1 w1 fun b o hb=>hG1 b o (hm b o hb)
def kr (E:Nat→Int) (n:Nat):Int:=dY ((List.range n).map E)
theorem Fw {E:Nat→Int} {n k:Nat} (h:k < n):dY (((List.range n).map E).drop k)=if E k≠0 then E k else dY (((List.range n).map E).drop (k+1)):=by
 rw [Oy (by simpa using h)];simp
theorem Km (G:GH) (w0:World) (hG:Hold G w0) (n:Nat) (E:Nat→Int) (fv:aj) (hn:n≤4611686018427387904) (hf:uH fv G n E) :
  Calls prog 123 #[vi n,fv] w0 (bB w0 G fun u G'=>u=vi (kr E n)):=by
 refine eN [(0,_),(1,_)] func123 rfl ntmps123 rfl rfl hG ?_;intro a H;refine kP H (SR fun _ K1=>aF K1 rfl (SQ fun _ K2=>SR fun _ K3=>Rm rfl (Rm rfl (Kz K3 (SB ?_)))));clear H K1 K3;intro a H;skip;refine eH (ι:=Nat × GH) (Tc:=[(1,_),(7,_)]) (Lc:=[]) (fun gh=>[(8,vi gh.1)]) (fun gh=>[]) (fun gh=>gh.2) (fun gh=>gh.1≤n∧dY (((List.range n).map E).drop gh.1)=kr E n∧(∀ b o,G b=some o→gh.2 b=some o)) (fun gh=>n - gh.1) ((0,G)) (by exact (H).sub ⟨rfl,rfl,rfl,aL⟩) ?_ ?_
 ·exact ⟨iH _,rfl,fun _ _ h=>h⟩
 clear H;rintro ⟨k,g⟩ a w hI H;dsimp only at hI H;obtain ⟨hk,he,hgm⟩:=hI;dsimp only [lca,bK] at H;refine kP H (SR fun _ K4=>Rc rfl (Kz K4 (SQ fun _ K5=>Cd rfl ?_ ?_))) <;> clear H K4
 ·intro h9 a H
  try have p9:=dT h9
  have hk2:k < n:=by omega
  refine kP H (Kc K5 (SQ fun _ K6=>SB (SR fun _ K7=>Rm rfl (aF K7 rfl (SR fun _ K8=>Rm rfl (Rm rfl ?_))))));clear H K5 K7;intro a H;refine jF H wn rfl rfl (hf k hk2 _ _ hgm H.ro) rfl ?_;clear H;rintro v13 DR a w rfl yT H;refine kH H (aF K8 rfl (SR fun _ K9=>Rm rfl (Rc rfl (Kz K9 (Cd rfl ?_ ?_))))) <;> clear H K8 K9
  ·intro lX a H
   try have sD:=dT lX
   exact kP H (SR fun _ eU=>Rm rfl (aF eU rfl (LR results123 rfl fun H=>H.rt (aB vi (by rw [Fw hk2,ak sD] at he;exact he)))))
  intro lX a H
  try have sD:=dF lX
  refine kP H (Kc K6 (SC (Rd rfl (Rm rfl ?_))));clear H K6;intro a H;refine aC ?_;refine dx ((k+1,DR)) (by exact (H).sub ⟨rfl,rfl,rfl,aL⟩) ?_
  (try dsimp only);exact ⟨by omega,by rw [Fw hk2,ah sD] at he;exact he,fun b o h=>yT b o (hgm b o h)⟩
 intro h9 a H
 try have p9:=dF h9
 refine jI ?_;refine K2 _ _ ?_;clear K2;exact kP H (SR fun _ fQ=>aF fQ rfl (LR results123 rfl fun H=>H.rt (aB vi (by rw [lG (by simp;omega)] at he;exact he))))
def qm (id:Nat→Int) (i:Nat):Int:=if ¬ (1≤id i∧id i≤1073741824) then 18 else if 0 < i∧id i=id (i - 1) then 7 else if 0 < i∧id i < id (i - 1) then 6 else 0
theorem Vs (G:GH) (w0:World) (hG:Hold G w0) (i:Nat) (id:Nat→Int) (fv:aj) (hn:i≤4611686018427387904) (hf:uH fv G (i+1) id) :
  Calls prog 125 #[vi i,fv] w0 (bB w0 G fun u G'=>u=vi (qm id i)):=by
 refine eN [(0,_),(1,_)] func125 rfl ntmps125 rfl rfl hG ?_;intro a H;refine kP H (SR fun _ K1=>aF K1 rfl (SQ fun _ K2=>SB (SR fun _ K3=>Rm rfl (Rm rfl ?_))));clear H K1;intro a H;refine jF H wn rfl rfl (hf i (Nat.lt_succ_self _) _ _ (fun _ _ h=>h) H.ro) rfl ?_;clear H;rintro v8 G8 a w rfl qj H;refine s_call xK H wn rfl (xW _ _ H.ro (id i) 1 1073741824) rfl ?_;clear H;rintro v9 _ a w ⟨rfl,rfl⟩ - H;refine kH H (Rn rfl (aF K3 rfl (Cd rfl ?_ ?_))) <;> clear H K3
 ·intro h5 a H
  try have p5:=dT h5
  refine kP H (SR fun _ K4=>aF K4 rfl ?_);clear H K4;intro a H;refine lr H results125 rfl ?_
  exact H.rt (aB vi (by unfold qm;(repeat' split) <;> first|rfl|(exfalso;simp_all;done)|(exfalso;simp_all;omega)))
 intro h5 a H
 try have p5:=dF h5
 refine kP H (SR fun _ K5=>Rm rfl (Rc rfl (Rm rfl (Sp 14 rfl ?_ ?_)))) <;> clear H
 ·intro qZ a H
  try have lN:=dT qZ
  refine kH H (YM qZ rfl (YM qZ rfl ?_));clear H;intro a H;refine jF H (wg H rfl rfl qZ) rfl rfl (hf i (Nat.lt_succ_self _) _ _ qj H.ro) rfl ?_;clear H;rintro v17 yG a w rfl sW H;refine kH H (YM qZ rfl (YM qZ rfl ?_));clear H;intro a H;refine og _ H (wg H rfl rfl qZ) rfl rfl rfl (by omega) (by omega) rfl ?_;clear H;intro a H;rw [show ((i:Int) - 1)=((i - 1:Nat):Int) by omega] at H;refine jF H (wg H rfl rfl qZ) rfl rfl (hf (i - 1) (by omega) _ _ (fun b o h=>sW b o (qj b o h)) H.ro) rfl ?_;clear H;rintro v21 Nj a w rfl BF H;refine kH H (YC qZ rfl (Pt qZ rfl (aF K5 rfl (Cd rfl ?_ ?_)))) <;> clear H K5
  ·intro h11 a H
   try have rH:=dT h11
   refine kP H (SR fun _ K6=>aF K6 rfl ?_);clear H K6;intro a H;refine lr H results125 rfl ?_
   exact H.rt (aB vi (by unfold qm;(repeat' split) <;> first|rfl|(exfalso;simp_all;done)|(exfalso;simp_all;omega)))
  intro h11 a H
  try have rH:=dF h11
  refine kP H (SR fun _ K7=>Rm rfl (Rc rfl (Rm rfl (Sp 27 rfl ?_ ?_)))) <;> clear H
  ·intro h27 a H
   try have p27:=dT h27
   refine kH H (YM h27 rfl (YM h27 rfl ?_));clear H;intro a H;refine jF H (wg H rfl rfl h27) rfl rfl (hf i (Nat.lt_succ_self _) _ _ (fun b o h=>by first|exact BF b o (sW b o (qj b o h))|(exfalso;omega)) H.ro) rfl ?_;clear H;rintro v30 zF a w rfl BG H;refine kH H (YM h27 rfl (YM h27 rfl ?_));clear H;intro a H;refine og _ H (wg H rfl rfl h27) rfl rfl rfl (by omega) (by omega) rfl ?_;clear H;intro a H;rw [show ((i:Int) - 1)=((i - 1:Nat):Int) by omega] at H;refine jF H (wg H rfl rfl h27) rfl rfl (hf (i - 1) (by omega) _ _ (fun b o h=>by first|exact BG b o (BF b o (sW b o (qj b o h)))|(exfalso;omega)) H.ro) rfl ?_;clear H;rintro v34 J4 a w rfl Jb H;refine kH H (YC h27 rfl (Pt h27 rfl (aF K7 rfl (Cd rfl ?_ ?_)))) <;> clear H K7
   ·intro fq a H
    try have jT:=dT fq
    refine kP H (SR fun _ K8=>aF K8 rfl ?_);clear H K8;intro a H;refine lr H results125 rfl ?_
    exact H.rt (aB vi (by unfold qm;(repeat' split) <;> first|rfl|(exfalso;simp_all;done)|(exfalso;simp_all;omega)))
   intro fq a H
   try have jT:=dF fq
   refine kP H (Kc K2 (SR fun _ K9=>aF K9 rfl ?_));clear H K2 K9;intro a H;refine lr H results125 rfl ?_
   exact H.rt (aB vi (by unfold qm;(repeat' split) <;> first|rfl|(exfalso;simp_all;done)|(exfalso;simp_all;omega)))
  intro h27 a H
  try have p27:=dF h27
  refine kH H (fB h27 rfl (fB h27 rfl (fU h27 rfl (Pf h27 rfl (aF K7 rfl (Cf rfl rfl (Kc K2 (SR fun _ eU=>aF eU rfl ?_))))))));clear H K7 K2 eU;intro a H;refine lr H results125 rfl ?_
  exact H.rt (aB vi (by unfold qm;(repeat' split) <;> first|rfl|(exfalso;simp_all;done)|(exfalso;simp_all;omega)))
 intro qZ a H
 try have lN:=dF qZ
 refine kH H (fB qZ rfl (fB qZ rfl (fU qZ rfl (Pf qZ rfl (aF K5 rfl (Cf rfl rfl (SR fun _ fQ=>Rm rfl (Rc rfl (Rm rfl (Sp 27 rfl ?_ ?_)))))))))) <;> clear H K5
 ·intro h27 a H
  try have p27:=dT h27
  refine kH H (YM h27 rfl (YM h27 rfl ?_));clear H;intro a H;refine jF H (wg H rfl rfl h27) rfl rfl (hf i (Nat.lt_succ_self _) _ _ (fun b o h=>by first|exact BF b o (sW b o (qj b o h))|(exfalso;omega)) H.ro) rfl ?_;clear H;rintro v30 zF a w rfl BG H;refine kH H (YM h27 rfl (YM h27 rfl ?_));clear H;intro a H;refine og _ H (wg H rfl rfl h27) rfl rfl rfl (by omega) (by omega) rfl ?_;clear H;intro a H;rw [show ((i:Int) - 1)=((i - 1:Nat):Int) by omega] at H;refine jF H (wg H rfl rfl h27) rfl rfl (hf (i - 1) (by omega) _ _ (fun b o h=>by first|exact BG b o (BF b o (sW b o (qj b o h)))|(exfalso;omega)) H.ro) rfl ?_;clear H;rintro v34 J4 a w rfl Jb H;refine kH H (YC h27 rfl (Pt h27 rfl (aF fQ rfl (Cd rfl ?_ ?_)))) <;> clear H fQ
  ·intro fq a H
   try have jT:=dT fq
   refine kP H (SR fun _ iF=>aF iF rfl ?_);clear H iF;intro a H;refine lr H results125 rfl ?_
   exact H.rt (aB vi (by unfold qm;(repeat' split) <;> first|rfl|(exfalso;simp_all;done)|(exfalso;simp_all;omega)))
  intro fq a H
  try have jT:=dF fq
  refine kP H (Kc K2 (SR fun _ jd=>aF jd rfl ?_));clear H K2 jd;intro a H;refine lr H results125 rfl ?_
  exact H.rt (aB vi (by unfold qm;(repeat' split) <;> first|rfl|(exfalso;simp_all;done)|(exfalso;simp_all;omega)))
 intro h27 a H
 try have p27:=dF h27
 refine kH H (fB h27 rfl (fB h27 rfl (fU h27 rfl (Pf h27 rfl (aF fQ rfl (Cf rfl rfl (Kc K2 (SR fun _ iW=>aF iW rfl ?_))))))));clear H fQ K2 iW;intro a H;refine lr H results125 rfl ?_
 exact H.rt (aB vi (by unfold qm;(repeat' split) <;> first|rfl|(exfalso;simp_all;done)|(exfalso;simp_all;omega)))
theorem jQ:∀ args w,(callFunc 71 args).run prog w=.ok (.enter 71 args) w:=enters func71 rfl (by kernel_rfl)
theorem rT:∀ args w,(callFunc 66 args).run prog w=.ok (.enter 66 args) w:=enters func66 rfl (by kernel_rfl)
def wM (s:ByteArray):Bool:=decide (1≤s.size∧s.size≤40) && rM s
theorem X8 (G:GH) (w0:World) (hG:Hold G w0) (s:ByteArray) (hs:s.size < 4611686018427387904):Calls prog 127 #[.string s] w0 (bB w0 G fun u G'=>u=.bool (wM s)∧G=G'):=by
 refine eN [(0,_)] func127 rfl ntmps127 rfl rfl hG ?_;refine mX 8 6 ?_ ?_
 ·intro h6
  try have p6:=dT h6
  refine av 1 ?_;intro a H;refine ES jB H (wg H rfl rfl h6) rfl rfl ?_;clear H;refine mX 3 11 ?_ ?_
  ·intro h11
   try have rH:=dT h11
   refine av 1 ?_;intro a H;refine s_call KI H (wg H rfl rfl h11) rfl (MX _ _ H.ro s hs) rfl ?_;clear H;rintro v13 _ a w ⟨rfl,rfl⟩ - H;refine kJ 3 H ?_;exact ⟨dG (by unfold wM;first|(simp_all;done)|(simp_all;omega)),rfl⟩
  intro h11
  try have rH:=dF h11
  refine bP 5 ?_;exact ⟨dG (by unfold wM;first|(simp_all;done)|(simp_all;omega)),rfl⟩
 intro h6
 try have p6:=dF h6
 refine bP 10 ?_;exact ⟨dG (by unfold wM;first|(simp_all;done)|(simp_all;omega)),rfl⟩
def Dx (s:ByteArray):Int:=dY [dh (!rM s) 12,dh (decide (1024 < (s.size:Int))) 10]
theorem zo {G:GH} {b:Nat} {x y:Int} (h:G b=some (.cells #[vi x,vi y] 49 (0,0))):au G (.sl 1 ([x,y].map fun k=>[li k])) (.slice (some ⟨b,0,none⟩) 2 2) :=
 au.fu (n:=2) (cap:=2) h rfl (bR _) (show 2≤maxLen by decide) (gu (bR _)) (fH G [x,y])
theorem WT (G:GH) (w0:World) (hG:Hold G w0) (s:ByteArray) (hs:s.size < 4611686018427387904):Calls prog 190 #[.string s] w0 (bB w0 G fun u G'=>u=vi (Dx s)):=by
 refine eN [(0,_)] func190 rfl ntmps190 rfl rfl hG ?_;refine av 5 ?_;intro a H;refine s_call KI H wn rfl (MX _ _ H.ro s hs) rfl ?_;clear H;rintro v4 _ a w ⟨rfl,rfl⟩ - H;refine bJ 1 H ?_;clear H;intro a H;refine s_call jQ H wn rfl (jU _ _ H.ro _ 12) rfl ?_;clear H;rintro v6 _ a w ⟨rfl,rfl⟩ - H;refine bJ 3 H ?_;clear H;intro a H;refine s_call jQ H wn rfl (jU _ _ H.ro _ 10) rfl ?_;clear H;rintro v10 _ a w ⟨rfl,rfl⟩ - H;refine gQ qz iD [_,_] [_,_] H wn rfl rfl rfl rfl rfl (by intro i q h;match i,h with|0,h=>exact h|1,h=>exact h|n+2,h=>simp at h) rfl rfl ?_;clear H;intro b11 a w IZ H;obtain ⟨tC,CV,Es,H⟩:=H.eB;refine s_call rT H wn rfl (rU _ _ H.ro _ _ (zo Es)) rfl ?_;clear H;rintro v12 _ a w ⟨rfl,rfl⟩ - H;refine kJ 2 H ?_;exact rfl
def PL (c:Int):Bool:=decide (97≤wN .or .u8 c 32) && decide (wN .or .u8 c 32≤122)
def GV (c:Int):Bool:=(decide (48≤c) && decide (c≤57)) || decide (c=45) || decide (c=95)
def BO (s:ByteArray) (k:Nat):Bool:=PL (gH s k) || (decide (k≠0) && GV (gH s k))
def sP (s:ByteArray):Bool:=decide (1≤s.size∧s.size≤40) && (List.range s.size).all (BO s)
theorem R9 (G:GH) (w0:World) (hG:Hold G w0) (s:ByteArray) (hs:s.size < 4611686018427387904):Calls prog 192 #[.string s] w0 (bB w0 G fun u G'=>u=.bool (sP s)∧G=G'):=by
 refine eN [(0,_)] func192 rfl ntmps192 rfl rfl hG ?_;refine mX 9 10 ?_ ?_
 ·intro h10
  try have iU:=dT h10
  refine bP 9 ?_;exact ⟨dG (by unfold sP;rw [jf (by omega)];rfl),rfl⟩
 intro h10
 try have iU:=dF h10
 refine av 1 ?_;intro a H;refine ES jB H (wg H rfl rfl h10) rfl rfl ?_;clear H;refine goB 3 ?_ ?_
 ·intro lN
  refine bP 3 ?_;exact ⟨dG (by unfold sP;rw [jf (by omega)];rfl),rfl⟩
 intro lN
 refine av 8 ?_;intro a H;refine eH (ι:=Nat) (Tc:=[(0,_),(16,_)]) (Lc:=[]) (fun gh=>[(17,vi gh)]) (fun gh=>[]) (fun gh=>G) (fun gh=>gh≤s.size∧(List.range gh).all (BO s)=true) (fun gh=>s.size - gh) (0) sB ?_ ?_
 ·exact ⟨iH _,rfl⟩
 clear H;intro k a w hI H;obtain ⟨hk,hall⟩:=hI;dsimp only [lca,bK] at H;refine iI 4 H ?_ ?_ <;> clear H
 ·intro sF
  have hk2:k < s.size:=by omega
  refine av 10 ?_;intro a H;refine qx k jB H wn rfl rfl rfl (by omega) rfl ?_;clear H;intro a H;rw [← mD] at H;refine Qq rfl H wn rfl rfl rfl ?_;clear H;refine av 2 ?_;intro a H;refine rR (ι:=Bool) (Tc:=[(0,_),(3,_),(16,_),(17,_)]) (Lc:=[]) (fun gh=>[(5,.bool gh)]) (fun gh=>[]) (fun gh=>G) (fun gh=>gh=PL (gH s k)) sB ?_ ?_
  ·refine CF 4 26 H ?_ ?_ <;> clear H
   ·intro p26
    refine av 4 ?_;intro a H;refine aC ?_;refine ⟨_,sB,?_⟩
    unfold PL;first|(simp_all;done)|(simp_all;omega)
   intro p26
   refine av 4 ?_;intro a H;refine aC ?_;refine ⟨_,sB,?_⟩
   unfold PL;first|(simp_all;done)|(simp_all;omega)
  clear H;intro lt a w hI H;have hlt:=hI;dsimp only [lca,bK] at H;refine rR (ι:=Bool) (Tc:=[(0,_),(3,_),(5,_),(16,_),(17,_)]) (Lc:=[]) (fun gh=>[(6,.bool gh)]) (fun gh=>[]) (fun gh=>G) (fun gh=>gh=GV (gH s k)) sB ?_ ?_
  ·refine mE 3 H ?_;clear H;intro a H;refine qx k jB H wn rfl rfl rfl (by omega) rfl ?_;clear H;intro a H;rw [← mD] at H;refine qd 2 34 H ?_ ?_ <;> clear H
   ·intro mZ
    try have p34:=dT mZ
    refine av 2 ?_;intro a H;refine qx k jB H (wg H rfl rfl mZ) rfl rfl rfl (by omega) rfl ?_;clear H;intro a H;rw [← mD] at H;refine qd 3 40 H ?_ ?_ <;> clear H
    ·intro uQ
     try have p40:=dT uQ
     refine av 12 ?_;intro a H;refine aC ?_;refine ⟨_,sB,?_⟩
     unfold GV;first|(simp_all;done)|(simp_all;omega)
    intro uQ
    try have p40:=dF uQ
    refine av 2 ?_;intro a H;refine qx k jB H (wg H rfl rfl uQ) rfl rfl rfl (by omega) rfl ?_;clear H;intro a H;rw [← mD] at H;refine qd 3 46 H ?_ ?_ <;> clear H
    ·intro h46
     try have p46:=dT h46
     refine av 6 ?_;intro a H;refine aC ?_;refine ⟨_,sB,?_⟩
     unfold GV;first|(simp_all;done)|(simp_all;omega)
    intro h46
    try have p46:=dF h46
    refine av 2 ?_;intro a H;refine qx k jB H (wg H rfl rfl h46) rfl rfl rfl (by omega) rfl ?_;clear H;intro a H;rw [← mD] at H;refine bJ 3 H ?_;clear H;intro a H;refine aC ?_;refine ⟨_,sB,?_⟩
    unfold GV;first|(simp_all;done)|(simp_all;omega)
   intro mZ
   try have p34:=dF mZ
   refine av 6 ?_;intro a H;(iterate 2 refine JI H (wg H rfl rfl rfl) rfl rfl ?_;clear H;intro a H);refine qx k jB H (wg H rfl rfl rfl) rfl rfl rfl (by omega) rfl ?_;clear H;intro a H;rw [← mD] at H;refine ER H (wg H rfl rfl rfl) rfl rfl rfl rfl ?_;clear H;refine mX 2 46 ?_ ?_
   ·intro h46
    try have p46:=dT h46
    refine av 6 ?_;intro a H;refine aC ?_;refine ⟨_,sB,?_⟩
    unfold GV;first|(simp_all;done)|(simp_all;omega)
   intro h46
   try have p46:=dF h46
   refine av 2 ?_;intro a H;refine qx k jB H (wg H rfl rfl h46) rfl rfl rfl (by omega) rfl ?_;clear H;intro a H;rw [← mD] at H;refine bJ 3 H ?_;clear H;intro a H;refine aC ?_;refine ⟨_,sB,?_⟩
   unfold GV;first|(simp_all;done)|(simp_all;omega)
  clear H;intro ot a w hI H;have hot:=hI;dsimp only [lca,bK] at H;refine CF 4 54 H ?_ ?_ <;> clear H
  ·intro p54
   refine qJ 3 57 ?_ ?_
   ·intro p57
    refine bP 9 ?_
    first
     | exact ⟨dG (by
       unfold sP
       rw [show k=s.size by omega] at hall
       rw [hall,iO (by omega)];rfl),rfl⟩
     | exact ⟨dG (by
       unfold sP
       rw [show (List.range s.size).all (BO s)=false from List.all_eq_false.2 ⟨k,by simpa using hk2,by unfold BO;simp_all⟩,Bool.and_false]),rfl⟩
   intro p57
   refine goB 5 ?_ ?_
   ·intro p61
    refine bP 3 ?_
    first
     | exact ⟨dG (by
       unfold sP
       rw [show k=s.size by omega] at hall
       rw [hall,iO (by omega)];rfl),rfl⟩
     | exact ⟨dG (by
       unfold sP
       rw [show (List.range s.size).all (BO s)=false from List.all_eq_false.2 ⟨k,by simpa using hk2,by unfold BO;simp_all⟩,Bool.and_false]),rfl⟩
   intro p61
   refine av 4 ?_;intro a H;refine aC ?_;refine dx ((k+1)) sB ?_
   exact ⟨by omega,by rw [List.range_succ,List.all_append,hall];simp [BO];simp_all⟩
  intro p54
  refine av 13 ?_;intro a H;refine aC ?_;refine dx ((k+1)) sB ?_
  exact ⟨by omega,by rw [List.range_succ,List.all_append,hall];simp [BO];simp_all⟩
 intro sF
 refine bP 4 ?_
 first
  | exact ⟨dG (by
    unfold sP
    rw [show k=s.size by omega] at hall
    rw [hall,iO (by omega)];rfl),rfl⟩
  | exact ⟨dG (by
    unfold sP
    rw [show (List.range s.size).all (BO s)=false from List.all_eq_false.2 ⟨k,by simpa using hk2,by unfold BO;simp_all⟩,Bool.and_false]),rfl⟩
section
section
variable {N:Nat} {D:List Deferred} {w0:World} {F:Nat→Prop} {G0 G:GH} {L:OL} {T:List (Nat × aj)}
variable {r:Option Nat} {P:Program} {ops:Array Oper} {Q:Exit→Act→World→Prop} {rest:List Oper} {a:Act} {w:World}
variable {d:Nat} {ty:TypeId} {pos:String} {aO:Array Edge} {g:Option (Nat × Bool)}
end
end
section
section
variable {N:Nat} {D:List Deferred} {w0:World} {F:Nat→Prop} {G0 G:GH} {L:OL} {T T':List (Nat × aj)}
variable {r:Option Nat} {P:Program} {Q:Exit→Act→World→Prop} {l:List Oper} {a a':Act} {w w':World} {ε:Type}
def Ic (l:List Oper) (pr:ε→Nat→aj→Prop) (T:List (Nat × aj)) (S:Nat→Bool) (E:ε) (T':List (Nat × aj)):Prop :=
 (∀ t v,lk T t=some v→lk T' t=some v)∧∀ i d,S i=true→dS l i=some d→∃ v,lk T' d=some v∧pr E i v
theorem Ic.put {pr:ε→Nat→aj→Prop} {S:Nat→Bool} {E E':ε} {i d:Nat} {v:aj} (h:Ic l pr T S E T') (hok:ahx l T=true) (hi:dS l i=some d) (hv:pr E' i v) (hE:∀ j u,j≠i→pr E j u→pr E' j u):Ic l pr T (bY S i) E' ((d,v) :: T'):=by
 have hil:=pW hi
 have hok1:=kE.1 hok i (uK.2 hil)
 rw [pE,hi] at hok1
 simp only [nK,Option.isNone_iff_eq_none,kE,uK] at hok1
 refine ⟨fun t u ht=>?_,fun j e hj he=>?_⟩
 ·rw [wu (fun e=>by subst e;rw [hok1.1] at ht;cases ht)];exact h.1 t u ht
 ·by_cases hji:j=i
  ·subst hji;rw [hi] at he;cases he;exact ⟨v,xq _ _ _,hv⟩
  ·have hSj:S j=true:=by unfold bY at hj;rwa [ah hji] at hj
   obtain ⟨u,hu1,hu2⟩:=h.2 j e hSj he
   have hne:d≠e:=by
    intro e';subst e'
    have h2:=hok1.2 j (pW he)
    have hb:Nat.beq i j=false:=nM (fun h=>hji h.symm)
    rw [hb,he] at h2
    simp at h2
   exact ⟨u,by rw [wu hne];exact hu1,hE j u hji hu2⟩
theorem Ic.add {pr:ε→Nat→aj→Prop} {S:Nat→Bool} {E:ε} (h:Ic l pr T S E T') {t:Nat} {u:aj} (hu:lk T' t=some u):Ic l pr T S E ((t,u) :: T'):=by
 have e:∀ s v,lk T' s=some v→lk ((t,u) :: T') s=some v:=fun s v hs=>by
  by_cases hst:t=s
  ·subst hst;rw [hu] at hs;cases hs;exact xq _ _ _
  ·rw [wu hst];exact hs
 exact ⟨fun s v hs=>e s v (h.1 s v hs),fun i d hi hd=>by
  obtain ⟨v,h1,h2⟩:=h.2 i d hi hd
  exact ⟨v,e d v h1,h2⟩⟩
end
end
section
section
variable {N:Nat} {D:List Deferred} {w0:World} {F:Nat→Prop} {G0 G G1 G2:GH} {L L1:OL} {T Xs:List (Nat × aj)}
variable {r:Option Nat} {P:Program} {Q:Exit→Act→World→Prop} {l:List Oper} {a a':Act} {w w':World}
theorem Ea {id:Nat} (hm:P.follows .mixedOrders=true) (bD:List (List Nat)) (B:List Nat) (hk:wP l bD=true) (hB:vo l bD B=true) (X:(Nat→Bool)→Act→World→Prop) (h0:X (fun _=>false) a w.drew)
  (hstep:∀ i o S a w,l[i]?=some o→B.contains i=false→S i=false→(∀ j∈bD.getD i [],S j=true)→(∀ j,j < l.length→i∈bD.getD j []→S j=false)→X S a w→WL r P l.toArray (fun e a' w'=>e=.normal∧X (bY S i) a' w') [o] a w)
  (hend:∀ S a w,(∀ i,i < l.length→B.contains i=false→S i=true)→(∀ i,B.contains i=true→S i=false)→X S a w→WL r P l.toArray (fun e a w=>e=.normal∧Q .normal a w) (oV l B) a w):WP r P (.region id l.toArray true) Q a w:=by
 have hB1:∀ p b,B[p]?=some b→b < l.length∧∀ i,i < l.length→(B.contains i=false∨(B.take p).contains i=true)→i∈bD.getD b []:=by
  intro p b hp
  simp only [vo,nK] at hB
  have h1:=kE.1 hB.1 p (uK.2 (jO.1 hp).1)
  rw [hp] at h1
  simp only [nK,kE,uK] at h1
  refine ⟨Eq.mp Nat.blt_eq h1.1,fun i hi hor=>?_⟩
  have h2:=h1.2 i hi
  rcases hor with h3|h3
  ·have h4:i∉B:=by simpa using h3
   simpa [h4] using h2
  ·have h4:i∈B.take p:=by simpa using h3
   simpa [h4] using h2
 have hB2:∀ i,i < l.length→B.contains i=false→∀ j∈bD.getD i [],B.contains j=false:=by
  intro i hi hb j hj
  simp only [vo,nK] at hB
  have h1:=kE.1 hB.2 i (uK.2 hi)
  rw [hb] at h1
  simp only [Bool.false_or,kE] at h1
  simpa using h1 j hj
 refine Yk hm bD hk (fun S a w=>((∀ i,B.contains i=true→S i=false)∧X S a w) ∨
   ∃ p,(∀ i,i < l.length→B.contains i=false→S i=true)∧(∀ i,(B.take p).contains i=true→S i=true)∧(∀ q b,B[q]?=some b→p≤q→S b=false)∧WL r P l.toArray (fun e a w=>e=.normal∧Q .normal a w) (oV l (B.drop p)) a w)
  (.inl ⟨fun _ _=>rfl,h0⟩) ?_ ?_
 ·intro i o S a w ho hX aK iK hdesc
  have hil:i < l.length:=(jO.1 ho).1
  by_cases hbi:B.contains i=true
  ·-- an operation of the tail: all that stands ahead of it is done
   obtain ⟨p0,hp0⟩:=List.getElem?_of_mem (by simpa using hbi:i∈B)
   have hall:∀ j,j < l.length→B.contains j=false→S j=true:=fun j hj hb=>iK j ((hB1 p0 i hp0).2 j hj (.inl hb))
   have U4:∃ p,(∀ i,(B.take p).contains i=true→S i=true)∧(∀ q b,B[q]?=some b→p≤q→S b=false)∧WL r P l.toArray (fun e a w=>e=.normal∧Q .normal a w) (oV l (B.drop p)) a w:=by
    rcases hX with ⟨h1,hD⟩|⟨p,_,h2,h3,h4⟩
    ·exact ⟨0,by simp,fun q b hq _=>h1 b (by simpa using kT hq),hend S a w hall h1 hD⟩
    ·exact ⟨p,h2,h3,h4⟩
   obtain ⟨p,h2,h3,h4⟩:=U4
   -- i is the next one
   have hpp:p≤p0:=by
    rcases Nat.lt_or_ge p0 p with hlt|hge
    ·have:(B.take p).contains i=true:=by
      simp only [yN]
      exact kT (i:=p0) (by rw [tK,ak hlt];exact hp0)
     rw [h2 i this] at aK;cases aK
    ·exact hge
   have Gm:p < B.length:=by have:=(jO.1 hp0).1;omega
   have hbp:B[p]?=some B[p]:=dZ Gm
   have heq:B[p]=i:=by
    rcases Nat.lt_or_ge p p0 with hlt|hge
    ·exfalso
     have hin:B[p]∈bD.getD i []:=(hB1 p0 i hp0).2 _ (hB1 p _ hbp).1 (.inr (by
      simp only [yN]
      exact kT (i:=p) (by rw [tK,ak hlt];exact hbp)))
     have:=iK _ hin
     rw [h3 p _ hbp (bR _)] at this;cases this
    ·have:p=p0:=by omega
     subst this
     rw [hbp] at hp0;simpa using hp0
   have hdrop:B.drop p=i :: B.drop (p+1):=by rw [qR Gm,heq]
   have hops:oV l (B.drop p)=o :: oV l (B.drop (p+1)):=by rw [hdrop];simp [oV,ho]
   rw [hops] at h4
   refine aeT (fun a' w' h5=>.inr ⟨p+1,fun j hj hb=>?_,fun j hj=>?_,fun q b hq hpq=>?_,h5⟩) h4
   ·unfold bY;split
    ·rfl
    ·exact hall j hj hb
   ·unfold bY;split
    ·rfl
    ·rename_i hne
     refine h2 j ?_
     simp only [yN] at hj ⊢
     rw [fV Gm,mJ] at hj
     rcases hj with hj|hj
     ·exact hj
     ·simp only [tL] at hj;exact absurd (hj.trans heq) hne
   ·unfold bY
    rw [ah ?_]
    ·exact h3 q b hq (by omega)
    ·rintro rfl
     -- i would stand twice in B: it would come ahead of itself
     have h6:=(hB1 q b hq).2 b (hB1 q b hq).1 (.inr (by
      simp only [yN]
      exact kT (i:=p) (by rw [tK,ak (by omega)];rw [hbp,heq])))
     rw [iK _ h6] at aK;cases aK
  ·have FU:B.contains i=false:=by cases h:B.contains i with|false=>rfl|true=>exact absurd h hbi
   rcases hX with ⟨h1,hX⟩|⟨p,h0,_,_,_⟩
   ·refine lu (fun e a' w' ⟨he,hD⟩=>⟨he,.inl ⟨fun j hj=>?_,hD⟩⟩) (hstep i o S a w ho FU aK iK hdesc hX)
    unfold bY
    rw [ah (by rintro rfl;rw [FU] at hj;cases hj)]
    exact h1 j hj
   ·rw [h0 i hil FU] at aK;cases aK
 ·intro S a w hall hX
  rcases hX with ⟨h1,hD⟩|⟨p,_,_,h3,h4⟩
  ·have hnil:B=[]:=by
    cases B with
    | nil=>rfl
    | cons b B=>have h5:=h1 b (by simp);rw [hall b (hB1 0 b rfl).1] at h5;cases h5
   subst hnil
   exact (hend S a w (fun j hj _=>hall j hj) h1 hD).2
  ·have hnil:B.drop p=[]:=by
    cases hd:B.drop p with
    | nil=>rfl
    | cons b B' =>
     have hb:B[p]?=some b:=by
      have:=aB (fun x:List Nat=>x[0]?) hd
      simpa using this
     have h5:=h3 p b hb (bR _)
     rw [hall b (hB1 p b hb).1] at h5;cases h5
   rw [hnil] at h4
   exact h4.2
theorem afT {id:Nat} (hm:P.follows .mixedOrders=true) (bD:List (List Nat)) (B:List Nat) (hk:wP l bD=true) (hB:vo l bD B=true) (m:Nat) (LG:B.contains m=false) (ob:Obj) (pr:Nat→Nat→aj→GH→Prop)
  (LX:∀ b b' i v G,i≠m→pr b i v G→pr b' i v G) (H:St N D w0 F G0 G L T a w)
  (hstep:allI (fun i o=>∀ b L' S a w G1,B.contains i=false→Nat.beq i m=false→S i=false→(∀ j∈bD.getD i [],S j=true)→(∀ k o,G k=some o→G1 k=some o)→St N D w0 F G0 G1 L' T a w→(∀ i d,S i=true→dS l i=some d→∃ v,a.tmps[d]?=some v∧pr b i v G1) →
   WL r P l.toArray (fun e a' w'=>e=.normal∧DX N D w0 F G0 G L' T l (pr b) (bY S i) a' w') [o] a w) 0 l)
  (hmid:∀ o S a w G1,l[m]?=some o→S m=false→(∀ j∈bD.getD m [],S j=true)→(∀ k o,G k=some o→G1 k=some o)→St N D w0 F G0 G1 L T a w→(∀ b i d,i≠m→S i=true→dS l i=some d→∃ v,a.tmps[d]?=some v∧pr b i v G1) →
   WL r P l.toArray (fun e a' w'=>e=.normal∧∃ b,DX N D w0 F G0 G ((b,ob) :: L) T l (pr b) (bY S m) a' w') [o] a w)
  (hend:∀ b a w G1,(∀ k o,G k=some o→G1 k=some o)→St N D w0 F G0 G1 ((b,ob) :: L) T a w→(∀ i d,B.contains i=false→dS l i=some d→∃ v,a.tmps[d]?=some v∧pr b i v G1)→WL r P l.toArray (fun e a w=>e=.normal∧Q .normal a w) (oV l B) a w)
  (hml:Nat.blt m l.length=true):WP r P (.region id l.toArray true) Q a w:=by
 refine Ea hm bD B hk hB (fun S a w=>∃ b L',(S m=false→L'=L)∧(S m=true→L'=(b,ob) :: L)∧DX N D w0 F G0 G L' T l (pr b) S a w)
  ⟨0,L,fun _=>rfl,fun h=>absurd (show false=true from h) (by decide),G,fun _ _ h=>h,H.move H.hp.drew,fun _ _ h=>absurd (show false=true from h) (by decide)⟩ ?_ ?_
 ·rintro i o S a w ho hb aK iK hdesc ⟨b,L',h1,h2,G1,hG,HS,hv⟩
  by_cases him:i=m
  ·subst him
   have e:=h1 aK;subst e
   have h:=hmid o S a w G1 ho aK iK hG HS fun b' j d hj hSj hd=>by
    obtain ⟨v,hv1,hv2⟩:=hv j d hSj hd
    exact ⟨v,hv1,LX b b' j v _ hj hv2⟩
   have e1:bY S i i=true:=ak rfl
   exact lu (fun e a' w' ⟨he,b',hD⟩=>⟨he,b',_,fun h=>absurd (e1.symm.trans h) (by decide),fun _=>rfl,hD⟩) h
  ·have h:=yP hstep i o ho
   rw [gD] at h
   have e:bY S i m=S m:=ah (fun h=>him h.symm)
   exact lu (fun e' a' w' ⟨he,hD⟩=>⟨he,b,L',fun h=>h1 (e ▸ h),fun h=>h2 (e ▸ h),hD⟩) (h b L' S a w G1 hb (nM him) aK iK hG HS hv)
 ·rintro S a w hall Gg ⟨b,L',h1,h2,G1,hG,HS,hv⟩
  have Jh:S m=true:=hall m (Eq.mp Nat.blt_eq hml) LG
  have e:=h2 Jh;subst e
  exact hend b a w G1 hG HS fun j d hb hd=>hv j d (hall j (pW hd) hb) hd
theorem Cw {pr:Nat→aj→GH→Prop} {S:Nat→Bool} {i d:Nat} {v:aj} (hok:pE l T i=true) (hi:dS l i=some d) 
  (HT:St N D w0 F G0 G1 L T a w) (Hb:St N D w0 F G0 G1 L (Xs++full N a) a w) (hG:∀ k o,G k=some o→G1 k=some o) (hv:∀ j d,j≠i→S j=true→dS l j=some d→∃ v,a.tmps[d]?=some v∧pr j v G1)
  (hp:pr i v G1) (H:St N D w0 F G0 G1 L1 ((d,v) :: (Xs++full N a)) a' w'):DX N D w0 F G0 G L1 T l pr (bY S i) a' w':=by
 have hil:i < l.length:=pW hi
 have hok1:=hok
 rw [pE,hi] at hok1
 simp only [nK,Option.isNone_iff_eq_none,kE,uK] at hok1
 have hsame:∀ t,t≠d→a'.tmps[t]?=a.tmps[t]?:=by
  intro t ht
  by_cases hlt:t < N
  ·have h1:∃ u,lk (Xs++full N a) t=some u:=by
    rw [PI]
    cases lk Xs t with
    | some u=>exact ⟨u,rfl⟩
    | none=>exact ⟨_,PK a hlt⟩
   obtain ⟨u,hu⟩:=h1
   rw [Hb.get t u hu,H.get t u (by rw [wu (Ne.symm ht)];exact hu)]
  ·rw [Array.getElem?_eq_none (by rw [H.nU];omega),Array.getElem?_eq_none (by rw [Hb.nU];omega)]
 refine ⟨G1,hG,⟨H.nU,fun t u ht=>?_,H.tX,H.hp⟩,fun j e hj he=>?_⟩
 ·rw [hsame t (fun e=>by rw [e,hok1.1] at ht;cases ht)]
  exact HT.get t u ht
 ·by_cases hji:j=i
  ·subst hji
   rw [hi] at he
   simp only [oK] at he
   subst he
   exact ⟨v,H.get d v (xq _ _ _),hp⟩
  ·have hSj:S j=true:=by unfold bY at hj;rwa [ah hji] at hj
   obtain ⟨u,hu1,hu2⟩:=hv j e hji hSj he
   have hne:e≠d:=by
    intro e'
    subst e'
    have h2:=hok1.2 j (pW he)
    rw [nM (fun h=>hji h.symm),he] at h2
    simp at h2
   exact ⟨u,by rw [hsame e hne];exact hu1,hu2⟩
end
end
section
section
variable {N:Nat} {D:List Deferred} {w0:World} {F:Nat→Prop} {G0 G G1 G2:GH} {L L1:OL} {T Xs:List (Nat × aj)}
variable {r:Option Nat} {P:Program} {Q:Exit→Act→World→Prop} {l:List Oper} {a a':Act} {w w':World}
theorem afU {id:Nat} (hm:P.follows .mixedOrders=true) (bD:List (List Nat)) (B:List Nat) (hk:wP l bD=true) (hB:vo l bD B=true) (m:Nat) (LG:B.contains m=false) (ob:Obj) (pr:Nat→Nat→aj→GH→Prop)
  (LX:∀ b b' i v G,i≠m→pr b i v G→pr b' i v G) (H:St N D w0 F G0 G L T a w)
  (hstep:allI (fun i o=>∀ b L' S a w G1,(∀ x,x∈L→x∈L')→B.contains i=false→Nat.beq i m=false→S i=false→(∀ j∈bD.getD i [],S j=true)→(∀ k o,G k=some o→G1 k=some o)→St N D w0 F G0 G1 L' T a w→(∀ i d,S i=true→dS l i=some d→∃ v,a.tmps[d]?=some v∧pr b i v G1) →
   WL r P l.toArray (fun e a' w'=>e=.normal∧DX N D w0 F G0 G L' T l (pr b) (bY S i) a' w') [o] a w) 0 l)
  (hmid:∀ o S a w G1,l[m]?=some o→S m=false→(∀ j∈bD.getD m [],S j=true)→(∀ k o,G k=some o→G1 k=some o)→St N D w0 F G0 G1 L T a w→(∀ b i d,i≠m→S i=true→dS l i=some d→∃ v,a.tmps[d]?=some v∧pr b i v G1) →
   WL r P l.toArray (fun e a' w'=>e=.normal∧∃ b,DX N D w0 F G0 G ((b,ob) :: L) T l (pr b) (bY S m) a' w') [o] a w)
  (hend:∀ b a w G1,(∀ k o,G k=some o→G1 k=some o)→St N D w0 F G0 G1 ((b,ob) :: L) T a w→(∀ i d,B.contains i=false→dS l i=some d→∃ v,a.tmps[d]?=some v∧pr b i v G1)→WL r P l.toArray (fun e a w=>e=.normal∧Q .normal a w) (oV l B) a w)
  (hml:Nat.blt m l.length=true):WP r P (.region id l.toArray true) Q a w:=by
 refine Ea hm bD B hk hB (fun S a w=>∃ b L',(S m=false→L'=L)∧(S m=true→L'=(b,ob) :: L)∧DX N D w0 F G0 G L' T l (pr b) S a w)
  ⟨0,L,fun _=>rfl,fun h=>absurd (show false=true from h) (by decide),G,fun _ _ h=>h,H.move H.hp.drew,fun _ _ h=>absurd (show false=true from h) (by decide)⟩ ?_ ?_
 ·rintro i o S a w ho hb aK iK hdesc ⟨b,L',h1,h2,G1,hG,HS,hv⟩
  by_cases him:i=m
  ·subst him
   have e:=h1 aK;subst e
   have h:=hmid o S a w G1 ho aK iK hG HS fun b' j d hj hSj hd=>by
    obtain ⟨v,hv1,hv2⟩:=hv j d hSj hd
    exact ⟨v,hv1,LX b b' j v _ hj hv2⟩
   have e1:bY S i i=true:=ak rfl
   exact lu (fun e a' w' ⟨he,b',hD⟩=>⟨he,b',_,fun h=>absurd (e1.symm.trans h) (by decide),fun _=>rfl,hD⟩) h
  ·have h:=yP hstep i o ho
   rw [gD] at h
   have e:bY S i m=S m:=ah (fun h=>him h.symm)
   exact lu (fun e' a' w' ⟨he,hD⟩=>⟨he,b,L',fun h=>h1 (e ▸ h),fun h=>h2 (e ▸ h),hD⟩) (h b L' S a w G1 (fun x hx=>by
    cases hS:S m with
    | false=>rw [h1 hS];exact hx
    | true=>rw [h2 hS];exact fJ _ hx) hb (nM him) aK iK hG HS hv)
 ·rintro S a w hall Gg ⟨b,L',h1,h2,G1,hG,HS,hv⟩
  have Jh:S m=true:=hall m (Eq.mp Nat.blt_eq hml) LG
  have e:=h2 Jh;subst e
  exact hend b a w G1 hG HS fun j d hb hd=>hv j d (hall j (pW hd) hb) hd
end
end
section
section
variable {N:Nat} {D:List Deferred} {w0:World} {F:Nat→Prop} {G0 G G1 G2:GH} {L L1 L2:OL} {T Xs:List (Nat × aj)}
variable {r:Option Nat} {P:Program} {Q:Exit→Act→World→Prop} {l:List Oper} {a a':Act} {w w':World}
theorem Sl {pr:Nat→aj→GH→Prop} {S:Nat→Bool} {i:Nat} (hi:dS l i=none) (HT:St N D w0 F G0 G1 L T a w) (hG:∀ k o,G k=some o→G1 k=some o) (hv:∀ i d,S i=true→dS l i=some d→∃ v,a.tmps[d]?=some v∧pr i v G1)
  (H:St N D w0 F G0 G1 L2 (Xs++full N a) a w'):DX N D w0 F G0 G L2 T l pr (bY S i) a w' :=
 ⟨G1,hG,HT.move H.hp,fun j e hj he=>hv j e (by
  unfold bY at hj
  by_cases hji:j=i
  ·subst hji;rw [hi] at he;cases he
  ·rwa [ah hji] at hj) he⟩
theorem aga {id:Nat} (hm:P.follows .mixedOrders=true) (bD:List (List Nat)) (B:List Nat) (hk:wP l bD=true) (hB:vo l bD B=true) (m:Nat) (LG:B.contains m=false) (pr:Nat→aj→GH→Prop) (ix:Nat) (ob:Nat × Obj)
  (H:St N D w0 F G0 G L T a w)
  (hstep:allI (fun i o=>∀ S a w G1,B.contains i=false→Nat.beq i m=false→S i=false→(∀ j∈bD.getD i [],S j=true)→(∀ k o,G k=some o→G1 k=some o)→St N D w0 F G0 G1 L T a w→(∀ i d,S i=true→dS l i=some d→∃ v,a.tmps[d]?=some v∧pr i v G1) →
   WL r P l.toArray (fun e a' w'=>e=.normal∧DX N D w0 F G0 G L T l pr (bY S i) a' w') [o] a w) 0 l)
  (hmid:∀ o S a w G1,l[m]?=some o→S m=false→(∀ j∈bD.getD m [],S j=true)→(∀ k o,G k=some o→G1 k=some o)→St N D w0 F G0 G1 L T a w→(∀ i d,S i=true→dS l i=some d→∃ v,a.tmps[d]?=some v∧pr i v G1) →
   WL r P l.toArray (fun e a' w'=>e=.normal∧DX N D w0 F G0 G (L.set ix ob) T l pr (bY S m) a' w') [o] a w)
  (hstep2:allI (fun i o=>∀ S a w G1,(B.contains i || (bD.getD m []).contains i)=false→Nat.beq i m=false→S i=false→(∀ j∈bD.getD i [],S j=true)→(∀ k o,G k=some o→G1 k=some o)→St N D w0 F G0 G1 (L.set ix ob) T a w→(∀ i d,S i=true→dS l i=some d→∃ v,a.tmps[d]?=some v∧pr i v G1) →
   WL r P l.toArray (fun e a' w'=>e=.normal∧DX N D w0 F G0 G (L.set ix ob) T l pr (bY S i) a' w') [o] a w) 0 l)
  (hend:∀ a w G1,(∀ k o,G k=some o→G1 k=some o)→St N D w0 F G0 G1 (L.set ix ob) T a w→(∀ i d,B.contains i=false→dS l i=some d→∃ v,a.tmps[d]?=some v∧pr i v G1)→WL r P l.toArray (fun e a w=>e=.normal∧Q .normal a w) (oV l B) a w)
  (hml:Nat.blt m l.length=true):WP r P (.region id l.toArray true) Q a w:=by
 refine Ea hm bD B hk hB (fun S a w=>(S m=false∧DX N D w0 F G0 G L T l pr S a w)∨(S m=true∧DX N D w0 F G0 G (L.set ix ob) T l pr S a w))
  (.inl ⟨rfl,G,fun _ _ h=>h,H.move H.hp.drew,fun _ _ h=>absurd (show false=true from h) (by decide)⟩) ?_ ?_
 ·rintro i o S a w ho hb aK iK hdesc hX
  by_cases him:i=m
  ·subst him
   rcases hX with ⟨_,G1,hG,HS,hv⟩|⟨h1,_⟩
   ·have h:=hmid o S a w G1 ho aK iK hG HS hv
    have e1:bY S i i=true:=ak rfl
    exact lu (fun e a' w' ⟨he,hD⟩=>⟨he,.inr ⟨e1,hD⟩⟩) h
   ·rw [h1] at aK;cases aK
  ·have e:bY S i m=S m:=ah (fun h=>him h.symm)
   rcases hX with ⟨h1,G1,hG,HS,hv⟩|⟨h1,G1,hG,HS,hv⟩
   ·have h:=yP hstep i o ho
    rw [gD] at h
    exact lu (fun e' a' w' ⟨he,hD⟩=>⟨he,.inl ⟨e.trans h1,hD⟩⟩) (h S a w G1 hb (nM him) aK iK hG HS hv)
   ·have h:=yP hstep2 i o ho
    rw [gD] at h
    have hnc:(B.contains i || (bD.getD m []).contains i)=false:=by
     rw [hb,Bool.false_or]
     cases hc2:(bD.getD m []).contains i with
     | false=>rfl
     | true=>have:=hdesc m (Eq.mp Nat.blt_eq hml) (yN.1 hc2);rw [h1] at this;cases this
    exact lu (fun e' a' w' ⟨he,hD⟩=>⟨he,.inr ⟨e.trans h1,hD⟩⟩) (h S a w G1 hnc (nM him) aK iK hG HS hv)
 ·rintro S a w hall Gg hX
  have Jh:S m=true:=hall m (Eq.mp Nat.blt_eq hml) LG
  rcases hX with ⟨h1,_⟩|⟨h1,G1,hG,HS,hv⟩
  ·rw [h1] at Jh;cases Jh
  ·exact hend a w G1 hG HS fun j d hb hd=>hv j d (hall j (pW hd) hb) hd
end
end
end Go.Proofs.YtdiflmikikiedaaGreat
