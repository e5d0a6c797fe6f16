/-
  What the claim stands on, part 2: Cp Run Rg Pos Pq Doc Dq Idx Plc Plr Hv Prk Dlf Prp Prq Prc Pst Ehd Dc24 Bld Fst Nam Pn De Dj Dk Dw Lsc Dm.
-/
import Derived.Test.YtdiflmikikiedaaGreatWba
import Derived.Test.YtdiflmikikiedaaGreatRows
namespace Go.Proofs.YtdiflmikikiedaaGreat
set_option linter.all false
open Go.Proofs.Tryz
set_option maxRecDepth 20000
set_option maxHeartbeats 4000000
section
open Go.RowKit
theorem kI:prog.underlying 3=some (.int .i64):=by kernel_rfl
instance:kg prog 3 (.int .i64):=⟨kI⟩
theorem II:prog.underlying 5=some (.int .u8):=by kernel_rfl
instance:kg prog 5 (.int .u8):=⟨II⟩
theorem jG:prog.underlying 9=some .string:=by kernel_rfl
instance:kg prog 9 .string:=⟨jG⟩
theorem aio:∀ args w,(callFunc 268 args).run prog w=.ok (.enter 268 args) w:=enters func268 rfl (by kernel_rfl)
theorem ahX:∀ args w,(callFunc 249 args).run prog w=.ok (.enter 249 args) w:=enters func249 rfl (by kernel_rfl)
theorem ahN:∀ args w,(callFunc 225 args).run prog w=.ok (.enter 225 args) w:=enters func225 rfl (by kernel_rfl)
theorem Jt:∀ args w,(callFunc 193 args).run prog w=.ok (.enter 193 args) w:=enters func193 rfl (by kernel_rfl)
def iR (b:Int):Int × Int × Int :=
  (if b=224 then 160 else if b=240 then 144 else 128,if b=237 then 159 else if b=244 then 143 else 191,
   if b < 128 then 1 else if b < 194∨244 < b then 0 else if b < 224 then 2 else if b < 240 then 3 else 4)
theorem Vt (b:Int):0≤(iR b).2.2∧(iR b).2.2≤4:=by
 simp only [iR];split
 ·omega
 split
 ·omega
 split
 ·omega
 split <;> omega
theorem arY (G:GH) (w0:World) (hG:Hold G w0) (b:Int) :
  Calls prog 268 #[.int .u8 b] w0 (bB w0 G fun v G'=>v=.tuple #[.int .u8 (iR b).1,.int .u8 (iR b).2.1,.int .i64 (iR b).2.2]∧G=G'):=by
 refine eN [(0,_)] func268 rfl ntmps268 rfl rfl hG ?_;refine goB 16 ?_ ?_
 ·intro p5
  refine goB 12 ?_ ?_
  ·intro iY
   refine ak 11 ?_;intro a H;refine bZ ?_;refine (eT H results268 (.cons (bq H rfl) (.cons (bq H rfl) (.cons (bq H rfl) .nil))) ?_).1
   first|(exfalso;omega)|exact H.rt ⟨by simp only [iR];repeat (first|rw [av (by omega)]|rw [ah (by omega)]),rfl⟩
  intro iY
  refine goB 4 ?_ ?_
  ·intro jq
   refine ak 11 ?_;intro a H;refine bZ ?_;refine (eT H results268 (.cons (bq H rfl) (.cons (bq H rfl) (.cons (bq H rfl) .nil))) ?_).1
   first|(exfalso;omega)|exact H.rt ⟨by simp only [iR];repeat (first|rw [av (by omega)]|rw [ah (by omega)]),rfl⟩
  intro jq
  refine goB 4 ?_ ?_
  ·intro p26
   refine ak 11 ?_;intro a H;refine bZ ?_;refine (eT H results268 (.cons (bq H rfl) (.cons (bq H rfl) (.cons (bq H rfl) .nil))) ?_).1
   first|(exfalso;omega)|exact H.rt ⟨by simp only [iR];repeat (first|rw [av (by omega)]|rw [ah (by omega)]),rfl⟩
  intro p26
  refine goB 4 ?_ ?_
  ·intro p28
   refine ak 11 ?_;intro a H;refine bZ ?_;refine (eT H results268 (.cons (bq H rfl) (.cons (bq H rfl) (.cons (bq H rfl) .nil))) ?_).1
   first|(exfalso;omega)|exact H.rt ⟨by simp only [iR];repeat (first|rw [av (by omega)]|rw [ah (by omega)]),rfl⟩
  intro p28
  refine ak 9 ?_;intro a H;refine bZ ?_;refine (eT H results268 (.cons (bq H rfl) (.cons (bq H rfl) (.cons (bq H rfl) .nil))) ?_).1
  first|(exfalso;omega)|exact H.rt ⟨by simp only [iR];repeat (first|rw [av (by omega)]|rw [ah (by omega)]),rfl⟩
 intro p5
 refine lT 4 11 ?_ ?_
 ·intro qj
  refine goB 18 ?_ ?_
  ·intro iY
   refine ak 11 ?_;intro a H;refine bZ ?_;refine (eT H results268 (.cons (bq H rfl) (.cons (bq H rfl) (.cons (bq H rfl) .nil))) ?_).1
   first|(exfalso;omega)|exact H.rt ⟨by simp only [iR];repeat (first|rw [av (by omega)]|rw [ah (by omega)]),rfl⟩
  intro iY
  refine goB 4 ?_ ?_
  ·intro jq
   refine ak 11 ?_;intro a H;refine bZ ?_;refine (eT H results268 (.cons (bq H rfl) (.cons (bq H rfl) (.cons (bq H rfl) .nil))) ?_).1
   first|(exfalso;omega)|exact H.rt ⟨by simp only [iR];repeat (first|rw [av (by omega)]|rw [ah (by omega)]),rfl⟩
  intro jq
  refine goB 4 ?_ ?_
  ·intro p26
   refine ak 11 ?_;intro a H;refine bZ ?_;refine (eT H results268 (.cons (bq H rfl) (.cons (bq H rfl) (.cons (bq H rfl) .nil))) ?_).1
   first|(exfalso;omega)|exact H.rt ⟨by simp only [iR];repeat (first|rw [av (by omega)]|rw [ah (by omega)]),rfl⟩
  intro p26
  refine goB 4 ?_ ?_
  ·intro p28
   refine ak 11 ?_;intro a H;refine bZ ?_;refine (eT H results268 (.cons (bq H rfl) (.cons (bq H rfl) (.cons (bq H rfl) .nil))) ?_).1
   first|(exfalso;omega)|exact H.rt ⟨by simp only [iR];repeat (first|rw [av (by omega)]|rw [ah (by omega)]),rfl⟩
  intro p28
  refine ak 9 ?_;intro a H;refine bZ ?_;refine (eT H results268 (.cons (bq H rfl) (.cons (bq H rfl) (.cons (bq H rfl) .nil))) ?_).1
  first|(exfalso;omega)|exact H.rt ⟨by simp only [iR];repeat (first|rw [av (by omega)]|rw [ah (by omega)]),rfl⟩
 intro qj
 refine goB 5 ?_ ?_
 ·intro p8
  refine goB 12 ?_ ?_
  ·intro iY
   refine ak 11 ?_;intro a H;refine bZ ?_;refine (eT H results268 (.cons (bq H rfl) (.cons (bq H rfl) (.cons (bq H rfl) .nil))) ?_).1
   first|(exfalso;omega)|exact H.rt ⟨by simp only [iR];repeat (first|rw [av (by omega)]|rw [ah (by omega)]),rfl⟩
  intro iY
  refine goB 4 ?_ ?_
  ·intro jq
   refine ak 11 ?_;intro a H;refine bZ ?_;refine (eT H results268 (.cons (bq H rfl) (.cons (bq H rfl) (.cons (bq H rfl) .nil))) ?_).1
   first|(exfalso;omega)|exact H.rt ⟨by simp only [iR];repeat (first|rw [av (by omega)]|rw [ah (by omega)]),rfl⟩
  intro jq
  refine goB 4 ?_ ?_
  ·intro p26
   refine ak 11 ?_;intro a H;refine bZ ?_;refine (eT H results268 (.cons (bq H rfl) (.cons (bq H rfl) (.cons (bq H rfl) .nil))) ?_).1
   first|(exfalso;omega)|exact H.rt ⟨by simp only [iR];repeat (first|rw [av (by omega)]|rw [ah (by omega)]),rfl⟩
  intro p26
  refine goB 4 ?_ ?_
  ·intro p28
   refine ak 11 ?_;intro a H;refine bZ ?_;refine (eT H results268 (.cons (bq H rfl) (.cons (bq H rfl) (.cons (bq H rfl) .nil))) ?_).1
   first|(exfalso;omega)|exact H.rt ⟨by simp only [iR];repeat (first|rw [av (by omega)]|rw [ah (by omega)]),rfl⟩
  intro p28
  refine ak 9 ?_;intro a H;refine bZ ?_;refine (eT H results268 (.cons (bq H rfl) (.cons (bq H rfl) (.cons (bq H rfl) .nil))) ?_).1
  first|(exfalso;omega)|exact H.rt ⟨by simp only [iR];repeat (first|rw [av (by omega)]|rw [ah (by omega)]),rfl⟩
 intro p8
 refine goB 5 ?_ ?_
 ·intro qX
  refine goB 12 ?_ ?_
  ·intro iY
   refine ak 11 ?_;intro a H;refine bZ ?_;refine (eT H results268 (.cons (bq H rfl) (.cons (bq H rfl) (.cons (bq H rfl) .nil))) ?_).1
   first|(exfalso;omega)|exact H.rt ⟨by simp only [iR];repeat (first|rw [av (by omega)]|rw [ah (by omega)]),rfl⟩
  intro iY
  refine goB 4 ?_ ?_
  ·intro jq
   refine ak 11 ?_;intro a H;refine bZ ?_;refine (eT H results268 (.cons (bq H rfl) (.cons (bq H rfl) (.cons (bq H rfl) .nil))) ?_).1
   first|(exfalso;omega)|exact H.rt ⟨by simp only [iR];repeat (first|rw [av (by omega)]|rw [ah (by omega)]),rfl⟩
  intro jq
  refine goB 4 ?_ ?_
  ·intro p26
   refine ak 11 ?_;intro a H;refine bZ ?_;refine (eT H results268 (.cons (bq H rfl) (.cons (bq H rfl) (.cons (bq H rfl) .nil))) ?_).1
   first|(exfalso;omega)|exact H.rt ⟨by simp only [iR];repeat (first|rw [av (by omega)]|rw [ah (by omega)]),rfl⟩
  intro p26
  refine goB 4 ?_ ?_
  ·intro p28
   refine ak 11 ?_;intro a H;refine bZ ?_;refine (eT H results268 (.cons (bq H rfl) (.cons (bq H rfl) (.cons (bq H rfl) .nil))) ?_).1
   first|(exfalso;omega)|exact H.rt ⟨by simp only [iR];repeat (first|rw [av (by omega)]|rw [ah (by omega)]),rfl⟩
  intro p28
  refine ak 9 ?_;intro a H;refine bZ ?_;refine (eT H results268 (.cons (bq H rfl) (.cons (bq H rfl) (.cons (bq H rfl) .nil))) ?_).1
  first|(exfalso;omega)|exact H.rt ⟨by simp only [iR];repeat (first|rw [av (by omega)]|rw [ah (by omega)]),rfl⟩
 intro qX
 refine goB 5 ?_ ?_
 ·intro qJ
  refine goB 12 ?_ ?_
  ·intro iY
   refine ak 11 ?_;intro a H;refine bZ ?_;refine (eT H results268 (.cons (bq H rfl) (.cons (bq H rfl) (.cons (bq H rfl) .nil))) ?_).1
   first|(exfalso;omega)|exact H.rt ⟨by simp only [iR];repeat (first|rw [av (by omega)]|rw [ah (by omega)]),rfl⟩
  intro iY
  refine goB 4 ?_ ?_
  ·intro jq
   refine ak 11 ?_;intro a H;refine bZ ?_;refine (eT H results268 (.cons (bq H rfl) (.cons (bq H rfl) (.cons (bq H rfl) .nil))) ?_).1
   first|(exfalso;omega)|exact H.rt ⟨by simp only [iR];repeat (first|rw [av (by omega)]|rw [ah (by omega)]),rfl⟩
  intro jq
  refine goB 4 ?_ ?_
  ·intro p26
   refine ak 11 ?_;intro a H;refine bZ ?_;refine (eT H results268 (.cons (bq H rfl) (.cons (bq H rfl) (.cons (bq H rfl) .nil))) ?_).1
   first|(exfalso;omega)|exact H.rt ⟨by simp only [iR];repeat (first|rw [av (by omega)]|rw [ah (by omega)]),rfl⟩
  intro p26
  refine goB 4 ?_ ?_
  ·intro p28
   refine ak 11 ?_;intro a H;refine bZ ?_;refine (eT H results268 (.cons (bq H rfl) (.cons (bq H rfl) (.cons (bq H rfl) .nil))) ?_).1
   first|(exfalso;omega)|exact H.rt ⟨by simp only [iR];repeat (first|rw [av (by omega)]|rw [ah (by omega)]),rfl⟩
  intro p28
  refine ak 9 ?_;intro a H;refine bZ ?_;refine (eT H results268 (.cons (bq H rfl) (.cons (bq H rfl) (.cons (bq H rfl) .nil))) ?_).1
  first|(exfalso;omega)|exact H.rt ⟨by simp only [iR];repeat (first|rw [av (by omega)]|rw [ah (by omega)]),rfl⟩
 intro qJ
 refine goB 12 ?_ ?_
 ·intro iY
  refine ak 11 ?_;intro a H;refine bZ ?_;refine (eT H results268 (.cons (bq H rfl) (.cons (bq H rfl) (.cons (bq H rfl) .nil))) ?_).1
  first|(exfalso;omega)|exact H.rt ⟨by simp only [iR];repeat (first|rw [av (by omega)]|rw [ah (by omega)]),rfl⟩
 intro iY
 refine goB 4 ?_ ?_
 ·intro jq
  refine ak 11 ?_;intro a H;refine bZ ?_;refine (eT H results268 (.cons (bq H rfl) (.cons (bq H rfl) (.cons (bq H rfl) .nil))) ?_).1
  first|(exfalso;omega)|exact H.rt ⟨by simp only [iR];repeat (first|rw [av (by omega)]|rw [ah (by omega)]),rfl⟩
 intro jq
 refine goB 4 ?_ ?_
 ·intro p26
  refine ak 11 ?_;intro a H;refine bZ ?_;refine (eT H results268 (.cons (bq H rfl) (.cons (bq H rfl) (.cons (bq H rfl) .nil))) ?_).1
  first|(exfalso;omega)|exact H.rt ⟨by simp only [iR];repeat (first|rw [av (by omega)]|rw [ah (by omega)]),rfl⟩
 intro p26
 refine goB 4 ?_ ?_
 ·intro p28
  refine ak 11 ?_;intro a H;refine bZ ?_;refine (eT H results268 (.cons (bq H rfl) (.cons (bq H rfl) (.cons (bq H rfl) .nil))) ?_).1
  first|(exfalso;omega)|exact H.rt ⟨by simp only [iR];repeat (first|rw [av (by omega)]|rw [ah (by omega)]),rfl⟩
 intro p28
 refine ak 9 ?_;intro a H;refine bZ ?_;refine (eT H results268 (.cons (bq H rfl) (.cons (bq H rfl) (.cons (bq H rfl) .nil))) ?_).1
 first|(exfalso;omega)|exact H.rt ⟨by simp only [iR];repeat (first|rw [av (by omega)]|rw [ah (by omega)]),rfl⟩
def fZ (s:ByteArray) (i:Nat):Int:=if h:i < s.size then (s[i].toNat:Int) else 0
theorem kW {s:ByteArray} {i:Nat} (h:i < s.size):fZ s i=(s[i].toNat:Int):=by simp [fZ,h]
def oW (s:ByteArray) (at_ n:Nat):(fuel k:Nat)→(low high p:Int)→Int × Nat × Bool
 | 0,k,_,_,p=>(p,k,true)
 | f+1,k,low,high,p =>
  if n≤k then (p,k,true)
  else if s.size≤at_+k∨fZ s (at_+k) < low∨high < fZ s (at_+k) then (0,k,false)
  else oW s at_ n f (k+1) 128 191 (vI .or .i64 (IntKind.i64.wrap (p*2 ^ 6)) (vI .and .i64 (fZ s (at_+k)) 63))
def kK (s:ByteArray) (at_:Nat):Int × Nat × Bool :=
 let b:=fZ s at_
 let t:=iR b
 if t.2.2=0 then (0,0,false) else if t.2.2=1 then (b,1,true)
 else oW s at_ t.2.2.toNat 4 1 t.1 t.2.1 (vI .and .i64 b ((127:Int).fdiv (2 ^ t.2.2.toNat)))
theorem VA (n:UInt8):IntKind.i64.wrap (n.toNat:Int)=(n.toNat:Int):=EX (by omega) (by have:=n.toNat_lt;omega)
theorem afT (G:GH) (w0:World) (hG:Hold G w0) (s:ByteArray) (i:Nat) (hi:i < s.size) (hs:s.size < 4611686018427387904) :
  Calls prog 249 #[.string s,.int .i64 i] w0 (bB w0 G fun v G'=>v=.tuple #[.int .i64 (kK s i).1,.int .i64 (kK s i).2.1,.bool (kK s i).2.2]∧G=G'):=by
 have hb:=kW hi;obtain ⟨n,hn⟩:∃ n:Nat,(iR (fZ s i)).2.2=(n:Int):=⟨(iR (fZ s i)).2.2.toNat,by have:=Vt (fZ s i);omega⟩
 have hn4:n≤4:=by have:=Vt (fZ s i);omega
 refine eN [(0,_),(1,_)] func249 rfl ntmps249 rfl rfl hG ?_;refine ak 8 ?_;intro a H;refine oL _ jG H wn rfl rfl rfl (by first|assumption|omega) rfl ?_;clear H;refine ak 1 ?_;intro a H;rw [← hb] at H;refine aD 3 H ?_;clear H;intro a H;refine s_call aio H wn rfl (arY _ _ H.ro _) rfl ?_;clear H;rintro v16 _ a w ⟨rfl,rfl⟩ - H;refine aD 1 H ?_;clear H;intro a H;(iterate 3 refine jK H wn rfl rfl rfl ?_;clear H;intro a H);refine gQ 13 H ?_ ?_ <;> clear H
 ·intro Cm
  refine ak 5 ?_;intro a H;refine bZ ?_;refine (eT H results249 (.cons (bq H rfl) (.cons (bq H rfl) (.cons (bq H rfl) .nil))) ?_).1;exact H.rt ⟨by simp [kK,Cm],rfl⟩
 intro Cm
 refine goB 4 ?_ ?_
 ·intro AO
  refine ak 2 ?_;intro a H;refine AV (fZ s i) kI II H wn rfl (by rw [hb];exact VA _) rfl ?_;clear H;refine ak 4 ?_;intro a H;refine bZ ?_;refine (eT H results249 (.cons (bq H rfl) (.cons (bq H rfl) (.cons (bq H rfl) .nil))) ?_).1;exact H.rt ⟨by simp [kK,Cm,AO],rfl⟩
 intro AO
 refine ak 3 ?_;intro a H;refine AV (fZ s i) kI II H wn rfl (by rw [hb];exact VA _) rfl ?_;clear H;refine ak 1 ?_;intro a H;refine O6 n H wn rfl rfl (by rw [hn]) (by show n≤64;omega) rfl ?_;clear H;intro a H;refine OX rfl H wn rfl rfl rfl ?_;clear H;refine ak 7 ?_;intro a H;refine eH (ι:=Nat × Int × Int × Int) (Tc:=[(0,_),(1,_),(10,_)]) (Lc:=[]) (fun gh=>[(4,.int .i64 gh.2.2.2),(5,.int .i64 (gh.1:Int)),(8,.int .u8 gh.2.1),(9,.int .u8 gh.2.2.1)]) (fun gh=>[]) (fun gh=>G) (fun gh=>gh.1≤4∧kK s i=oW s i n (5 - gh.1) gh.1 gh.2.1 gh.2.2.1 gh.2.2.2) (fun gh=>5 - gh.1) ((1,_,_,_)) sB ?_ ?_
 ·refine ⟨by omega,?_⟩;simp only [kK,hn];rw [ah (by omega),ah (by omega)];rfl
 clear H;rintro ⟨k,low,high,p⟩ a w hI H;dsimp only at hI H;obtain ⟨hk,hdec⟩:=hI;dsimp only [lca,bG] at H;refine dQ 6 H ?_ ?_ <;> clear H
 ·intro p34
  refine jV 12 43 ?_ ?_
  ·intro h43
   try have p43:=dT h43
   refine ak 25 ?_;intro a H;refine bZ ?_
   have hfin:kK s i=(if n≤k then (p,k,true) else (0,k,false)):=by
    rw [hdec];have e:5 - k=(4 - k)+1:=by omega
    rw [e,oW]
    by_cases hk2:n≤k
    ·rw [av hk2,av hk2]
    rw [ah hk2,ah hk2,av (by first|omega|(rw [kW (by omega)];omega))]
   refine (eT H results249 (.cons (bq H rfl) (.cons (bq H rfl) (.cons (bq H rfl) .nil))) ?_).1;exact H.rt ⟨by rw [hfin];first|rw [av (by omega)]|rw [ah (by omega)],rfl⟩
  intro h43
  try have p43:=dF h43
  refine ak 3 ?_;intro a H;refine KV _ H (wg H rfl rfl h43) rfl rfl rfl (by omega) (by omega) rfl ?_;clear H;intro a H;refine oL _ jG H (wg H rfl rfl h43) rfl rfl rfl (by first|assumption|omega) rfl ?_;clear H;refine jV 4 52 ?_ ?_
  ·intro JE
   try have p52:=dT JE
   refine ak 16 ?_;intro a H;refine bZ ?_
   have hfin:kK s i=(if n≤k then (p,k,true) else (0,k,false)):=by
    rw [hdec];have e:5 - k=(4 - k)+1:=by omega
    rw [e,oW]
    by_cases hk2:n≤k
    ·rw [av hk2,av hk2]
    rw [ah hk2,ah hk2,av (by first|omega|(rw [kW (by omega)];omega))]
   refine (eT H results249 (.cons (bq H rfl) (.cons (bq H rfl) (.cons (bq H rfl) .nil))) ?_).1;exact H.rt ⟨by rw [hfin];first|rw [av (by omega)]|rw [ah (by omega)],rfl⟩
  intro JE
  try have p52:=dF JE
  refine ak 3 ?_;intro a H;refine KV _ H (wg H rfl rfl JE) rfl rfl rfl (by omega) (by omega) rfl ?_;clear H;intro a H;refine oL _ jG H (wg H rfl rfl JE) rfl rfl rfl (by first|assumption|omega) rfl ?_;clear H;refine goB 4 ?_ ?_
  ·intro p60
   refine ak 6 ?_;intro a H;refine bZ ?_
   have hfin:kK s i=(if n≤k then (p,k,true) else (0,k,false)):=by
    rw [hdec];have e:5 - k=(4 - k)+1:=by omega
    rw [e,oW]
    by_cases hk2:n≤k
    ·rw [av hk2,av hk2]
    rw [ah hk2,ah hk2,av (by first|omega|(rw [kW (by omega)];omega))]
   refine (eT H results249 (.cons (bq H rfl) (.cons (bq H rfl) (.cons (bq H rfl) .nil))) ?_).1;exact H.rt ⟨by rw [hfin];first|rw [av (by omega)]|rw [ah (by omega)],rfl⟩
  intro p60
  refine ak 3 ?_;intro a H;refine aqG _ H wn rfl rfl rfl (by decide) rfl ?_;clear H;refine ak 4 ?_;intro a H;refine oL _ jG H wn rfl rfl rfl (by first|assumption|omega) rfl ?_;clear H;intro a H;refine AV (fZ s (i+k)) kI II H wn rfl (by rw [kW (by omega)];exact VA _) rfl ?_;clear H;intro a H;(iterate 2 refine OX rfl H wn rfl rfl rfl ?_;clear H;intro a H);refine aD 10 H ?_;clear H;intro a H;refine aC ?_;refine cB ((k+1,128,191,vI .or .i64 (IntKind.i64.wrap (p*2 ^ 6)) (vI .and .i64 (fZ s (i+k)) 63))) sB ?_ ?_
  ·(try dsimp only);refine ⟨by omega,?_⟩
   have e:5 - k=(5 - (k+1))+1:=by omega
   rw [hdec,e,oW,ah (by omega),kW (by omega),ah (by omega)]
  first|omega|(dsimp only;omega)
 intro p34
 refine ak 8 ?_;intro a H;refine bZ ?_
 have hfin:kK s i=(if n≤k then (p,k,true) else (0,k,false)):=by
  rw [hdec];have e:5 - k=(4 - k)+1:=by omega
  rw [e,oW]
  by_cases hk2:n≤k
  ·rw [av hk2,av hk2]
  rw [ah hk2,ah hk2,av (by first|omega|(rw [kW (by omega)];omega))]
 refine (eT H results249 (.cons (bq H rfl) (.cons (bq H rfl) (.cons (bq H rfl) .nil))) ?_).1;exact H.rt ⟨by rw [hfin];first|rw [av (by omega)]|rw [ah (by omega)],rfl⟩
theorem XI (s:ByteArray) (at_ n:Nat):∀ (f k:Nat) (low high p:Int),n≤k+f→k≤n→k≤(oW s at_ n f k low high p).2.1∧(oW s at_ n f k low high p).2.1≤n∧((oW s at_ n f k low high p).2.2=true→at_+k≤s.size→at_+(oW s at_ n f k low high p).2.1≤s.size)
 | 0,k,low,high,p,h1,h2=>by simp only [oW];omega
 | f+1,k,low,high,p,h1,h2=>by
  unfold oW
  split
  ·simp only [];omega
  split
  ·simp only [];omega
  have ih:=XI s at_ n f (k+1) 128 191 (vI .or .i64 (IntKind.i64.wrap (p*2 ^ 6)) (vI .and .i64 (fZ s (at_+k)) 63)) (by omega) (by omega);refine ⟨by have:=ih.1;omega,ih.2.1,fun h3 h4=>ih.2.2 h3 (by omega)⟩
theorem MZ (s:ByteArray) (i:Nat) (hi:i < s.size):(kK s i).2.1≤4∧((kK s i).2.2=true→1≤(kK s i).2.1∧i+(kK s i).2.1≤s.size):=by
 have ht:=Vt (fZ s i)
 unfold kK
 simp only []
 split
 ·simp
 split
 ·simp;omega
 have:=XI s i (iR (fZ s i)).2.2.toNat 4 1 (iR (fZ s i)).1 (iR (fZ s i)).2.1 (vI .and .i64 (fZ s i) ((127:Int).fdiv (2 ^ (iR (fZ s i)).2.2.toNat))) (by omega) (by omega);refine ⟨by omega,fun h=>⟨by omega,this.2.2 h (by omega)⟩⟩
def rM (s:ByteArray) (i:Nat):Int :=
 if h:i < s.size then (if h2:(kK s i).2.2=true then rM s (i+(kK s i).2.1) else i) else -1
 termination_by s.size - i
 decreasing_by have:=(MZ s i h).2 h2;omega
theorem akf (G:GH) (w0:World) (hG:Hold G w0) (s:ByteArray) (hs:s.size < 4611686018427387904) :
  Calls prog 225 #[.string s] w0 (bB w0 G fun v G'=>v=.int .i64 (rM s 0)∧G=G'):=by
 refine eN [(0,_)] func225 rfl ntmps225 rfl rfl hG ?_;refine ak 8 ?_;intro a H;refine eH (ι:=Nat) (Tc:=[(0,_)]) (Lc:=[]) (fun gh=>[(3,.int .i64 (gh:Int))]) (fun gh=>[]) (fun gh=>G) (fun gh=>gh≤s.size∧rM s 0=rM s gh) (fun gh=>s.size - gh) (0) sB ?_ ?_
 ·exact ⟨by omega,rfl⟩
 clear H;intro i a w hI H;obtain ⟨hk,hf⟩:=hI;dsimp only [lca,bG] at H;refine dQ 7 H ?_ ?_ <;> clear H
 ·intro iD
  refine ak 5 ?_;intro a H;refine s_call ahX H wn rfl (afT _ _ H.ro s i (by omega) hs) rfl ?_;clear H;rintro v14 _ a w ⟨rfl,rfl⟩ - H;have hd:=MZ s i (by omega);refine aD 1 H ?_;clear H;intro a H;(iterate 3 refine jK H wn rfl rfl rfl ?_;clear H;intro a H);refine iU 9 H ?_ ?_ <;> clear H
  ·intro h19
   try have sw:=dT h19
   refine aQ 4 ?_;exact ⟨by rw [hf,rM,dif_pos (by omega),dif_neg (by simpa using h19)],rfl⟩
  intro h19
  try have sw:=dF h19
  refine ak 6 ?_;intro a H;refine aC ?_;refine cB ((i+(kK s i).2.1)) sB ?_ ?_
  ·have h1:(kK s i).2.2=true:=by simpa using h19
   have h2:=hd.2 h1;refine ⟨by omega,?_⟩;rw [hf,rM,dif_pos (by omega),dif_pos h1]
  have h1:(kK s i).2.2=true:=by simpa using h19
  have h2:=hd.2 h1
  omega
 intro iD
 refine aQ 4 ?_;exact ⟨by rw [hf,rM,dif_neg (by omega)],rfl⟩
def qo (s:ByteArray):Bool:=decide (rM s 0 < 0)
theorem LH (G:GH) (w0:World) (hG:Hold G w0) (s:ByteArray) (hs:s.size < 4611686018427387904) :
  Calls prog 193 #[.string s] w0 (bB w0 G fun v G'=>v=.bool (qo s)∧G=G'):=by
 refine eN [(0,_)] func193 rfl ntmps193 rfl rfl hG ?_;refine ak 5 ?_;intro a H;refine s_call ahN H wn rfl (akf _ _ H.ro s hs) rfl ?_;clear H;rintro v4 _ a w ⟨rfl,rfl⟩ - H;refine fH 3 H ?_;exact ⟨rfl,rfl⟩
def oV (s:ByteArray) (i:Nat):Nat :=
 if i < s.size then (if vI .and .u8 (fZ s i) 192=128 then 0 else 1)+oV s (i+1) else 0
 termination_by s.size - i
theorem Xv (s:ByteArray):∀ (n i:Nat),s.size - i=n→oV s i≤n
 | 0,i,h=>by rw [oV,ah (by omega)];exact bP _
 | n+1,i,h=>by
  have ih:=Xv s n (i+1) (by omega);rw [oV,av (by omega)]
  split <;> omega
def rH (s:ByteArray):Nat:=if qo s then oV s 0 else 0
def IJ (s:ByteArray):Int:=if qo s then 0 else 12
theorem Xw (s:ByteArray):rH s≤s.size:=by unfold rH;have:=Xv s s.size 0 (by omega);split <;> omega
theorem afP (G:GH) (w0:World) (hG:Hold G w0) (s:ByteArray) (hs:s.size < 4611686018427387904) :
  Calls prog 197 #[.string s] w0 (bB w0 G fun v G'=>v=.tuple #[vi (rH s),vi (IJ s)]∧G=G'):=by
 refine eN [(0,_)] func197 rfl ntmps197 rfl rfl hG ?_;refine ak 7 ?_;intro a H;refine s_call Jt H wn rfl (LH _ _ H.ro s hs) rfl ?_;clear H;rintro v6 _ a w ⟨rfl,rfl⟩ - H;refine iU 2 H ?_ ?_ <;> clear H
 ·intro h7
  refine ak 4 ?_;intro a H;refine bZ ?_;refine (eT H results197 (.cons (bq H rfl) (.cons (bq H rfl) .nil)) ?_).1;exact H.rt ⟨by simp [rH,IJ,show qo s=false by simpa using h7],rfl⟩
 intro h7
 try have p7:=dF h7
 refine ak 8 ?_;intro a H;refine eH (ι:=Nat × Nat) (Tc:=[(0,_),(9,_)]) (Lc:=[]) (fun gh=>[(2,vi gh.2),(10,vi gh.1)]) (fun gh=>[]) (fun gh=>G) (fun gh=>gh.1≤s.size∧gh.2≤gh.1∧gh.2+oV s gh.1=rH s) (fun gh=>s.size - gh.1) ((0,0)) sB ?_ ?_
 ·exact ⟨by omega,by omega,by simp [rH,show qo s=true by simpa using h7]⟩
 clear H;rintro ⟨i,n⟩ a w hI H;dsimp only at hI H;obtain ⟨hk,hn,hf⟩:=hI;dsimp only [lca,bG] at H;refine dQ 4 H ?_ ?_ <;> clear H
 ·intro qj
  refine ak 10 ?_;intro a H;refine oL _ jG H wn rfl rfl rfl (by first|assumption|omega) rfl ?_;clear H;intro a H;refine OX rfl H wn rfl rfl rfl ?_;clear H;refine goB 2 ?_ ?_
  ·intro jJ
   refine ak 8 ?_;intro a H;refine aC ?_;refine cB ((i+1,n+1)) sB ?_ ?_
   ·(try dsimp only);rw [← kW (by omega)] at jJ;rw [oV,av (by omega),ah jJ] at hf;exact ⟨by omega,by omega,by omega⟩
   first|omega|(dsimp only;omega)
  intro jJ
  refine ak 4 ?_;intro a H;refine aC ?_;refine cB ((i+1,n)) sB ?_ ?_
  ·(try dsimp only);rw [← kW (by omega),nM] at jJ;rw [oV,av (by omega),av jJ] at hf;exact ⟨by omega,by omega,by omega⟩
  first|omega|(dsimp only;omega)
 intro qj
 refine ak 6 ?_;intro a H;refine bZ ?_;refine (eT H results197 (.cons (bq H rfl) (.cons (bq H rfl) .nil)) ?_).1;exact H.rt ⟨by rw [oV,ah (by omega),wG] at hf;rw [hf];simp [IJ,show qo s=true by simpa using h7],rfl⟩
end
section
open Go.RowKit
theorem hmx:prog.follows .mixedOrders=true:=by kernel_rfl
instance BD:dS prog 68 0 0:=⟨by kernel_rfl⟩
instance bR:Ty prog 3 1 8 [.int .i64 0] false:=⟨by kernel_rfl,by kernel_rfl⟩
instance GX:dS prog 68 3 3:=⟨by kernel_rfl⟩
instance mg:Ty prog 9 1 16 [.string ⟨#[]⟩] false:=⟨by kernel_rfl,by kernel_rfl⟩
theorem ahy:∀ args w,(callFunc 197 args).run prog w=.ok (.enter 197 args) w:=enters func197 rfl (by kernel_rfl)
theorem nU:prog.underlying 22=some (.slice 68):=by kernel_rfl
instance:kg prog 22 (.slice 68):=⟨nU⟩
instance gB:Ty prog 68 11 176 [.int .i64 0,.int .i64 0,.int .i64 0,.string ⟨#[]⟩,.slice none 0 0,.int .i64 0,.int .i64 0,.slice none 0 0,.slice none 0 0,.slice none 0 0,.slice none 0 0] true:=⟨by kernel_rfl,by kernel_rfl⟩
theorem iM:prog.underlying 23=some (.slice 187):=by kernel_rfl
instance:kg prog 23 (.slice 187):=⟨iM⟩
instance gU:Ty prog 187 2 16 [.int .i64 0,.int .i64 0] true:=⟨by kernel_rfl,by kernel_rfl⟩
theorem yF:prog.underlying 24=some (.slice 159):=by kernel_rfl
instance:kg prog 24 (.slice 159):=⟨yF⟩
instance oz:Ty prog 159 2 16 [.int .i64 0,.int .i64 0] true:=⟨by kernel_rfl,by kernel_rfl⟩
theorem oC:prog.underlying 25=some (.slice 161):=by kernel_rfl
instance:kg prog 25 (.slice 161):=⟨oC⟩
instance jw:Ty prog 161 4 32 [.int .i64 0,.int .i64 0,.int .i64 0,.bool false] true:=⟨by kernel_rfl,by kernel_rfl⟩
instance dw:Ty prog 29 5 88 [.slice none 0 0,.int .i64 0,.int .i64 0,.slice none 0 0,.slice none 0 0] true:=⟨by kernel_rfl,by kernel_rfl⟩
instance:dS prog 29 0 0:=⟨by kernel_rfl⟩
instance FE:Ty prog 23 1 24 [.slice none 0 0] false:=⟨by kernel_rfl,by kernel_rfl⟩
theorem M6:∀ args w,(callFunc 168 args).run prog w=.ok (.enter 168 args) w:=enters func168 rfl (by kernel_rfl)
instance Jz:dS prog 29 1 1:=⟨by kernel_rfl⟩
instance GV:dS prog 27 2 2:=⟨by kernel_rfl⟩
instance Cz:Ty prog 24 1 24 [.slice none 0 0] false:=⟨by kernel_rfl,by kernel_rfl⟩
theorem ahe:∀ args w,(callFunc 169 args).run prog w=.ok (.enter 169 args) w:=enters func169 rfl (by kernel_rfl)
instance RF:dS prog 27 3 3:=⟨by kernel_rfl⟩
instance Pp:Ty prog 25 1 24 [.slice none 0 0] false:=⟨by kernel_rfl,by kernel_rfl⟩
theorem ahf:∀ args w,(callFunc 170 args).run prog w=.ok (.enter 170 args) w:=enters func170 rfl (by kernel_rfl)
theorem FL:prog.underlying 66=some (.slice 74):=by kernel_rfl
instance:kg prog 66 (.slice 74):=⟨FL⟩
instance jL:Ty prog 74 6 112 [.slice none 0 0,.int .i64 0,.int .i64 0,.slice none 0 0,.slice none 0 0,.slice none 0 0] true:=⟨by kernel_rfl,by kernel_rfl⟩
theorem CF:prog.underlying 72=some (.slice 76):=by kernel_rfl
instance:kg prog 72 (.slice 76):=⟨CF⟩
instance jQ:Ty prog 76 7 120 [.int .i64 0,.slice none 0 0,.int .i64 0,.int .i64 0,.slice none 0 0,.slice none 0 0,.slice none 0 0] true:=⟨by kernel_rfl,by kernel_rfl⟩
instance YG:dS prog 76 0 0:=⟨by kernel_rfl⟩
instance YH:dS prog 76 1 1:=⟨by kernel_rfl⟩
theorem Es:∀ args w,(callFunc 108 args).run prog w=.ok (.enter 108 args) w:=enters func108 rfl (by kernel_rfl)
instance YJ:dS prog 76 2 6:=⟨by kernel_rfl⟩
instance pK:Ty prog 22 1 24 [.slice none 0 0] false:=⟨by kernel_rfl,by kernel_rfl⟩
theorem Rw:∀ args w,(callFunc 80 args).run prog w=.ok (.enter 80 args) w:=enters func80 rfl (by kernel_rfl)
theorem Pb:oO prog 76 [(0,1),(1,5),(6,1)] [.int .i64 0,.slice none 0 0,.int .i64 0,.int .i64 0,.slice none 0 0,.slice none 0 0,.slice none 0 0]:=⟨by kernel_rfl,by kernel_rfl⟩
instance RN:dS prog 74 0 0:=⟨by kernel_rfl⟩
instance JA:dS prog 74 1 5:=⟨by kernel_rfl⟩
instance IE:Ty prog 72 1 24 [.slice none 0 0] false:=⟨by kernel_rfl,by kernel_rfl⟩
theorem X7:∀ args w,(callFunc 172 args).run prog w=.ok (.enter 172 args) w:=enters func172 rfl (by kernel_rfl)
theorem O9:oO prog 74 [(0,5),(5,1)] [.slice none 0 0,.int .i64 0,.int .i64 0,.slice none 0 0,.slice none 0 0,.slice none 0 0]:=⟨by kernel_rfl,by kernel_rfl⟩
instance GY:dS prog 68 4 4:=⟨by kernel_rfl⟩
instance YD:dS prog 68 5 9:=⟨by kernel_rfl⟩
instance YE:dS prog 68 6 10:=⟨by kernel_rfl⟩
instance Ll:Ty prog 66 1 24 [.slice none 0 0] false:=⟨by kernel_rfl,by kernel_rfl⟩
theorem XY:∀ args w,(callFunc 110 args).run prog w=.ok (.enter 110 args) w:=enters func110 rfl (by kernel_rfl)
theorem X5:∀ args w,(callFunc 140 args).run prog w=.ok (.enter 140 args) w:=enters func140 rfl (by kernel_rfl)
theorem ahA:∀ args w,(callFunc 203 args).run prog w=.ok (.enter 203 args) w:=enters func203 rfl (by kernel_rfl)
theorem agN:∀ args w,(callFunc 142 args).run prog w=.ok (.enter 142 args) w:=enters func142 rfl (by kernel_rfl)
theorem agM:∀ args w,(callFunc 141 args).run prog w=.ok (.enter 141 args) w:=enters func141 rfl (by kernel_rfl)
def jl (x:ay):Nat:=if x.kind=1 then rH x.text else 1
def LG (x:ay):Int:=if x.kind=1 then IJ x.text else 0
def M4 (l:List ay):Bool:=l.all fun x=>decide (LG x=0)
def FB:List ay→Nat
 | []=>0
 | x :: l=>jl x+FB l
def Dy (l:List ay):Int:=if M4 l then FB l else 0
def ng:List ay→Nat
 | []=>0
 | x :: l=>x.text.size+1+ng l
theorem FC (l m:List ay):ng (l++m)=ng l+ng m:=by
 induction l with
 | nil=>simp [ng]
 | cons x l ih=>simp [ng,ih];omega
theorem acK (l:List ay) (k:Nat):ng (l.take k)≤ng l:=by
 have:=FC (l.take k) (l.drop k);rw [List.take_append_drop] at this;omega
theorem Eu {G:GH} {l:List ay} {A:Option Addr} {k:Nat} (hk:k < l.length) (hg:∀ k r,(l.map ay.dat)[k]?=some r→∃ b o cs,A=some ⟨b,o,none⟩∧cs.length=11∧(∀ j u,cs[j]?=some u→aI G b (o+k*11+j)=some u)∧aW G r cs) :
  ∃ b o pA pn pc dA dn dc yA yn yc fA fn fc rA rn rc,A=some ⟨b,o,none⟩∧(∀ j u,[vi l[k].kind,vi l[k].code,vi l[k].id,.string l[k].text,.slice pA pn pc,vi l[k].head.marks.ins,vi l[k].head.marks.move,.slice dA dn dc,.slice yA yn yc,.slice fA fn fc,.slice rA rn rc][j]?=some u→aI G b (o+k*11+j)=some u) ∧
   fC G l[k].head (.slice pA pn pc) (.slice dA dn dc) (.slice yA yn yc)∧au G (.sl 11 (l[k].flow.map ay.dat)) (.slice fA fn fc)∧au G (.sl 6 (l[k].rows.map aX.dat)) (.slice rA rn rc):=by
 obtain ⟨b,o,cs,h1,h2,h3,h4⟩:=hg k l[k].dat (by simp [hk]);obtain ⟨pA,pn,pc,dA,dn,dc,yA,yn,yc,fA,fn,fc,rA,rn,rc,rfl,h5,h6,h7⟩:=h4.item;exact ⟨b,o,pA,pn,pc,dA,dn,dc,yA,yn,yc,fA,fn,fc,rA,rn,rc,h1,h3,h5,h6,h7⟩
theorem Ut:∀ l:List ay,l.length≤ng l
 | []=>bP _
 | x :: l=>by have:=Ut l;simp only [ku,ng];omega
theorem acJ:∀ l:List ay,ng l≤cu l
 | []=>bP _
 | x :: l=>by
  have:=acJ l;have h2:=yJ x
  simp only [ng,cu,fq,eG] at *;omega
theorem QC (G:GH) (w0:World) (hG:Hold G w0) (rows:List (List Dat)) (A:Option Addr) (n c:Nat) (hv:au G (.sl 2 rows) (.slice A n c)) (hz:rows.length≤4294967296) :
  Calls prog 168 #[.slice A n c] w0 (bB w0 G fun v G'=>au G' (.sl 2 rows) v):=by
 obtain ⟨hn,hc1,hc2,hnil,hx⟩:=hv.cells;refine eN [(0,_)] func168 rfl ntmps168 rfl rfl hG ?_;refine ak 6 ?_;intro a H;refine AX iM H wn rfl rfl ?_;clear H;refine goC 1 ?_ ?_
 ·intro h4
  refine aQ 3 ?_;rw [hnil (by simpa using h4)];exact au.gZ rfl (by simp [maxLen])
 intro h4
 try have p4:=dF h4
 refine ak 1 ?_
 have hA:¬ A=none:=by intro e;rw [e] at h4;cases h4
 refine ak 1 ?_;intro a H;refine AU iM gU H wn rfl ?_;clear H;intro b5 a w hb5 H;refine aD 1 H ?_;clear H
 intro a H;by_cases hr0:rows=[]
 ·have hn0:n=0:=by rw [hn,hr0];rfl
  subst hn0;refine AQ iM gU H wn rfl rfl (bP _) rfl ?_;clear H;refine aQ 2 ?_;rw [hr0];exact au.gZ rfl (by simp [maxLen])
 obtain ⟨b,o,xs,rfl,hxl,hxc,hx1,dV⟩:=hx hr0;refine lJ (Li:=[]) (Lo:=[_]) (news:=xs) iM gU rfl rfl H wn rfl rfl bV.empty hxl (fun j u hj=>H.hp.aI (hxc j u hj)) hx1 (by omega) (by omega) rfl ?_;clear H;intro v7 Lo a w hrow H;obtain ⟨G',hm,hrep,H⟩:=H.mR hrow (rows:=rows) (by omega) (by simpa using dV)
 try clear hG
 obtain ⟨G2,hG2⟩:∃ g,g=G':=⟨_,rfl⟩;subst hG2;refine fH 2 H ?_;exact hrep
theorem afo (G:GH) (w0:World) (hG:Hold G w0) (rows:List (List Dat)) (A:Option Addr) (n c:Nat) (hv:au G (.sl 2 rows) (.slice A n c)) (hz:rows.length≤4294967296) :
  Calls prog 169 #[.slice A n c] w0 (bB w0 G fun v G'=>au G' (.sl 2 rows) v):=by
 obtain ⟨hn,hc1,hc2,hnil,hx⟩:=hv.cells;refine eN [(0,_)] func169 rfl ntmps169 rfl rfl hG ?_;refine ak 6 ?_;intro a H;refine AX yF H wn rfl rfl ?_;clear H;refine goC 1 ?_ ?_
 ·intro h4
  refine aQ 3 ?_;rw [hnil (by simpa using h4)];exact au.gZ rfl (by simp [maxLen])
 intro h4
 try have p4:=dF h4
 refine ak 1 ?_
 have hA:¬ A=none:=by intro e;rw [e] at h4;cases h4
 refine ak 1 ?_;intro a H;refine AU yF oz H wn rfl ?_;clear H;intro b5 a w hb5 H;refine aD 1 H ?_;clear H
 intro a H;by_cases hr0:rows=[]
 ·have hn0:n=0:=by rw [hn,hr0];rfl
  subst hn0;refine AQ yF oz H wn rfl rfl (bP _) rfl ?_;clear H;refine aQ 2 ?_;rw [hr0];exact au.gZ rfl (by simp [maxLen])
 obtain ⟨b,o,xs,rfl,hxl,hxc,hx1,dV⟩:=hx hr0;refine lJ (Li:=[]) (Lo:=[_]) (news:=xs) yF oz rfl rfl H wn rfl rfl bV.empty hxl (fun j u hj=>H.hp.aI (hxc j u hj)) hx1 (by omega) (by omega) rfl ?_;clear H;intro v7 Lo a w hrow H;obtain ⟨G',hm,hrep,H⟩:=H.mR hrow (rows:=rows) (by omega) (by simpa using dV)
 try clear hG
 obtain ⟨G2,hG2⟩:∃ g,g=G':=⟨_,rfl⟩;subst hG2;refine fH 2 H ?_;exact hrep
theorem afu (G:GH) (w0:World) (hG:Hold G w0) (rows:List (List Dat)) (A:Option Addr) (n c:Nat) (hv:au G (.sl 4 rows) (.slice A n c)) (hz:rows.length≤4294967296) :
  Calls prog 170 #[.slice A n c] w0 (bB w0 G fun v G'=>au G' (.sl 4 rows) v):=by
 obtain ⟨hn,hc1,hc2,hnil,hx⟩:=hv.cells;refine eN [(0,_)] func170 rfl ntmps170 rfl rfl hG ?_;refine ak 6 ?_;intro a H;refine AX oC H wn rfl rfl ?_;clear H;refine goC 1 ?_ ?_
 ·intro h4
  refine aQ 3 ?_;rw [hnil (by simpa using h4)];exact au.gZ rfl (by simp [maxLen])
 intro h4
 try have p4:=dF h4
 refine ak 1 ?_
 have hA:¬ A=none:=by intro e;rw [e] at h4;cases h4
 refine ak 1 ?_;intro a H;refine AU oC jw H wn rfl ?_;clear H;intro b5 a w hb5 H;refine aD 1 H ?_;clear H
 intro a H;by_cases hr0:rows=[]
 ·have hn0:n=0:=by rw [hn,hr0];rfl
  subst hn0;refine AQ oC jw H wn rfl rfl (bP _) rfl ?_;clear H;refine aQ 2 ?_;rw [hr0];exact au.gZ rfl (by simp [maxLen])
 obtain ⟨b,o,xs,rfl,hxl,hxc,hx1,dV⟩:=hx hr0;refine lJ (Li:=[]) (Lo:=[_]) (news:=xs) oC jw rfl rfl H wn rfl rfl bV.empty hxl (fun j u hj=>H.hp.aI (hxc j u hj)) hx1 (by omega) (by omega) rfl ?_;clear H;intro v7 Lo a w hrow H;obtain ⟨G',hm,hrep,H⟩:=H.mR hrow (rows:=rows) (by omega) (by simpa using dV)
 try clear hG
 obtain ⟨G2,hG2⟩:∃ g,g=G':=⟨_,rfl⟩;subst hG2;refine fH 2 H ?_;exact hrep
theorem Eo (G:GH) (w0:World) (hG:Hold G w0) (h:dW) (pA dA yA:Option Addr) (pn pc dn dc yn yc:Nat) (hv:fC G h (.slice pA pn pc) (.slice dA dn dc) (.slice yA yn yc)) (hz:kV h≤4294967296) :
  Calls prog 108 #[.agg #[.slice pA pn pc,vi h.marks.ins,vi h.marks.move,.slice dA dn dc,.slice yA yn yc]] w0 (bB w0 G fun v G'=>∃ p d l,v=.agg #[p,vi h.marks.ins,vi h.marks.move,d,l]∧fC G' h p d l):=by
 have he:=D9 h;have h1:=oM (h.props.map aT.dat);have h2:=oM (h.marks.bL.map fE.dat);have h3:=oM (h.marks.layers.map cK.dat);refine eN [(0,_)] func108 rfl ntmps108 rfl rfl hG ?_;refine ak 1 ?_;intro a H;refine dP (cs:=[_,_,_,_,_]) H wn rfl rfl rfl ?_;clear H;intro b1 a w hb1 H;refine dz dw H wn rfl ?_;clear H;intro b2 a w hb2 H;refine aD 4 H ?_;clear H;intro a H;refine s_call M6 H wn rfl (QC _ _ H.ro _ _ _ _ hv.props (by omega)) rfl ?_;clear H;rintro v5 G5 a w qb Dl H;obtain ⟨A5,n5,c5,rfl⟩:=qb.form;refine aD 1 H ?_;clear H;intro a H;refine aV FE 1 (vs:=[_]) _ H wn rfl rfl rfl rfl rfl rfl rfl rfl ?_;clear H;intro w H;dsimp only [List.set,setRow] at H;refine aD 2 H ?_;clear H;obtain ⟨hvp,hvd,hvy⟩:=hv.mono Dl;clear hv
 have pE:∀ (aP:Nat) (v:aj) (G G':GH),(∀ k o,G k=some o→G' k=some o)→(fun (aP:Nat) (v:aj) (G:GH)=>match aP with|0=>v=(aG b1 1)|1=>v=(aG b1 3)|2=>v=.slice dA dn dc|3=>au G (.sl 2 (h.marks.bL.map fE.dat)) v|4=>v=(aG b1 1)|5=>v=(aG b1 4)|6=>v=.slice yA yn yc|7=>au G (.sl 4 (h.marks.layers.map cK.dat)) v|8=>v=(aG b1 1)|9=>v=(aG b1 3)|_=>True) aP v G→(fun (aP:Nat) (v:aj) (G:GH)=>match aP with|0=>v=(aG b1 1)|1=>v=(aG b1 3)|2=>v=.slice dA dn dc|3=>au G (.sl 2 (h.marks.bL.map fE.dat)) v|4=>v=(aG b1 1)|5=>v=(aG b1 4)|6=>v=.slice yA yn yc|7=>au G (.sl 4 (h.marks.layers.map cK.dat)) v|8=>v=(aG b1 1)|9=>v=(aG b1 3)|_=>True) aP v G':=by
  intro aP v G G' hm h
  match aP,h with
  | 0,h=>exact h
  | 1,h=>exact h
  | 2,h=>exact h
  | 3,h=>exact au.mono hm h
  | 4,h=>exact h
  | 5,h=>exact h
  | 6,h=>exact h
  | 7,h=>exact au.mono hm h
  | 8,h=>exact h
  | 9,h=>exact h
  | 10,h=>exact trivial
  | 11,h=>exact trivial
  | 12,h=>exact trivial
  | 13,h=>exact trivial
  | _+14,h=>exact trivial
 intro a H;refine yR (hmx) [[],[0],[0,1],[0,1,2],[],[4],[4,5],(ra 0 7),(ra 0 7),(ra 0 7++[8]),(ra 0 10),(ra 0 11),(ra 0 12),(ra 0 13)] (ra 10 4) (by kernel_rfl) (by kernel_rfl) (fun (aP:Nat) (v:aj) (G:GH)=>match aP with|0=>v=(aG b1 1)|1=>v=(aG b1 3)|2=>v=.slice dA dn dc|3=>au G (.sl 2 (h.marks.bL.map fE.dat)) v|4=>v=(aG b1 1)|5=>v=(aG b1 4)|6=>v=.slice yA yn yc|7=>au G (.sl 4 (h.marks.layers.map cK.dat)) v|8=>v=(aG b1 1)|9=>v=(aG b1 3)|_=>True) pE H ?_ ?_
 ·clear H;refine aF ?_ ?_ ?_ ?_ (aF ?_ ?_ ?_ ?_ (aF ?_ ?_ (bQ rfl) (bQ rfl) (bH (bQ rfl) (bH (bQ rfl) cZ))))
  ·refine dB [] rfl trivial (by kernel_rfl) pE rfl rfl ?_;intro aR a w G1 hG HT H fin;exact kH H (Rf Jz rfl fun _ H=>fin H iJ rfl)
  ·refine dB [(0,7,_)] rfl ⟨fun _ _ h=>h,aU⟩ (by kernel_rfl) pE rfl rfl ?_;intro aR a w G1 hG HT H fin;exact kH H (Rf GV rfl fun _ H=>fin H iJ rfl)
  ·refine dB [(1,8,_)] rfl ⟨fun _ _ h=>h,aU⟩ (by kernel_rfl) pE rfl rfl ?_;intro aR a w G1 hG HT H fin;exact kH H (Ro Cz 1 rfl fun _ H=>fin H iJ rfl)
  ·refine dB [(2,9,_)] rfl ⟨fun _ _ h=>h,aU⟩ (by kernel_rfl) pE rfl rfl ?_;intro aR a w G1 hG HT H fin;refine s_call ahe H wn rfl (afo _ _ H.ro _ _ _ _ (hvd.mono hG) (by omega)) rfl ?_;clear H;rintro v10 zS a w rU pX H;exact fin H pX (rU)
  ·refine dB [] rfl trivial (by kernel_rfl) pE rfl rfl ?_;intro aR a w G1 hG HT H fin;exact kH H (Rf Jz rfl fun _ H=>fin H iJ rfl)
  ·refine dB [(4,11,_)] rfl ⟨fun _ _ h=>h,aU⟩ (by kernel_rfl) pE rfl rfl ?_;intro aR a w G1 hG HT H fin;exact kH H (Rf RF rfl fun _ H=>fin H iJ rfl)
  ·refine dB [(5,12,_)] rfl ⟨fun _ _ h=>h,aU⟩ (by kernel_rfl) pE rfl rfl ?_;intro aR a w G1 hG HT H fin;exact kH H (Ro Pp 1 rfl fun _ H=>fin H iJ rfl)
  ·refine dB [(6,13,_)] rfl ⟨fun _ _ h=>h,aU⟩ (by kernel_rfl) pE rfl rfl ?_;intro aR a w G1 hG HT H fin;refine s_call ahf H wn rfl (afu _ _ H.ro _ _ _ _ (hvy.mono hG) (by omega)) rfl ?_;clear H;rintro v14 zU a w qH wP H;exact fin H wP (qH)
  ·refine dB [] rfl trivial (by kernel_rfl) pE rfl rfl ?_;intro aR a w G1 hG HT H fin;exact kH H (Rf Jz rfl fun _ H=>fin H iJ rfl)
  refine dB [(8,15,_)] rfl ⟨fun _ _ h=>h,aU⟩ (by kernel_rfl) pE rfl rfl ?_;intro aR a w G1 hG HT H fin;exact kH H (Rf GV rfl fun _ H=>fin H iJ rfl)
 clear H;intro a w G BJ H hv;obtain ⟨u10,Ky,rU⟩:=hv 3 10 (by decide) rfl;(try dsimp only at rU);obtain ⟨VU,n10,c10,rfl⟩:=rU.form;have H:=H.gV Ky;obtain ⟨u14,KA,qH⟩:=hv 7 14 (by decide) rfl;(try dsimp only at qH);obtain ⟨PN,n14,c14,rfl⟩:=qH.form;have H:=H.gV KA;have H:=H.aN (hv 9 16 rfl rfl) rfl;clear hv;refine aV Cz 1 (vs:=[_]) _ H wn rfl rfl rfl rfl rfl rfl rfl rfl ?_;clear H;intro w H;dsimp only [List.set,setRow] at H;refine kH H (Rf Jz rfl (Rf RF rfl ?_));clear H;intro a H;refine aV Pp 1 (vs:=[_]) _ H wn rfl rfl rfl rfl rfl rfl rfl rfl ?_;clear H;intro w H;dsimp only [List.set,setRow] at H;refine aC ⟨rfl,?_⟩;refine dR ?_;refine Am ?_;refine aS dw (cs:=[_,_,_,_,_]) H wn rfl rfl (H.hp.bN 1 rfl rfl) rfl ?_;clear H;intro a H;refine aV dw 0 (vs:=[_,_,_,_,_]) _ H wn rfl rfl rfl rfl rfl rfl rfl rfl ?_;clear H;intro w H;dsimp only [List.set,setRow] at H;refine aC ?_;refine dR ?_;refine bZ ?_;refine (leave1 H results108 (.cons (kF dw (cs:=[_,_,_,_,_]) H rfl rfl (H.hp.bN 0 rfl rfl)) .nil) ?_).1;exact H.rt ⟨_,_,_,rfl,qb.mono BJ,rU,qH⟩
theorem xg {G:GH} {w:World} (h:Hold G w):fU G [] w:=⟨h,fun _ h=>(by cases h),fun _ h=>(by cases h),List.Pairwise.nil⟩
theorem Gw {P:Program} {f:FuncId} {args:Array aj} {w0:World} {G:GH} {e sz n:Nat} {rows:List (List Dat)} (hG:Hold G w0) (h:Calls P f args w0 (fJ w0 G [] fun u G' L'=>∃ xs,bV e sz u n xs L'∧bU G' sz rows xs)) (hl:rows.length=n) :
  Calls P f args w0 (bB w0 G fun u G'=>au G' (.sl sz rows) u):=by
 intro cs;obtain ⟨e1,w',fr,⟨v,G',L',rfl,hch,xs,hrow,dV⟩,h2,h3,h4⟩:=h cs;have hp0:Hp w0 (fun k=>k < w0.heap.size) G G ([]++[]) w0:=⟨rfl,rfl,rfl,bP _,fun _ h=>h,fun _ _=>rfl,hG,fun _ _ h=>h,fun _ _ h=>.inl h,fun _ h=>(by cases h),fun _ h=>(by cases h),fun _ h=>(by cases h),List.Pairwise.nil⟩;have hp1:=hp0.change hch;rw [oF] at hp1;refine ⟨_,w',fr,?_,h2,h3,h4⟩
 rcases hrow.2 with ⟨rfl,h5,rfl⟩|⟨b,cap,cur,rfl,rfl,h5,h6,h7,h8⟩
 ·refine hp1.ret ?_;have:rows=[]:=List.eq_nil_of_length_eq_zero (by omega);subst this
  simp only [au]
  exact ⟨none,0,by simp,by simp,by simp [maxLen],fun h=>absurd rfl h⟩
 have hn:=hp1.sG (b,.cells cur e (0,0)) (by simp);exact (hp1.giveUp 0 rfl).ret (au.eX (GH.Gj G' b _) hl h5 h6 h8 (dV.mono fun k o h=>GH.Gg G' hn k o h))
def Bh (fv:aj) (w0:World) (G:GH) (d d':List Dat):Prop:=∀ (G1:GH) (w1:World) (cs:List aj),(∀ b o,G b=some o→G1 b=some o)→Hold G1 w1→aW G1 d cs →
 qp prog fv [.agg cs.toArray] w1 (bB w1 G1 fun u G'=>∃ cs',u=.agg cs'.toArray∧aW G' d' cs')
abbrev FU (fv:aj) (w0:World) (G:GH) (d:List Dat):Prop:=Bh fv w0 G d d
theorem XR (φ:ay→ay) (G:GH) (w0:World) (hO:fU G [] w0) (l:List ay) (v fv:aj) (hv:au G (.sl 11 (l.map ay.dat)) v) (hz:l.length≤4294967296) (hf:∀ x∈l,Bh fv w0 G x.dat (φ x).dat) :
  Calls prog 140 #[v,fv] w0 (fJ w0 G [] fun u G' L'=>∃ xs,bV 68 11 u l.length xs L'∧bU G' 11 (l.map fun x=>(φ x).dat) xs):=by
 obtain ⟨A,c,rfl,hc1,hc2,hg⟩:=hv.slice
 have hml:4294967297≤maxLen:=by decide
 rw [bM] at *;refine jg (N:=22) (T:=[(0,_),(1,_)]) func140 rfl ntmps140 rfl rfl hO ?_;refine ak 13 ?_;intro a H;refine eH (ι:=Nat × aj × List aj × OL × GH) (Tc:=[(1,_),(8,_),(9,_)]) (Lc:=[]) (fun gh=>[(5,gh.2.1),(10,vi gh.1)]) (fun gh=>[]++gh.2.2.2.1) (fun gh=>gh.2.2.2.2) (fun gh=>gh.1≤l.length∧bV 68 11 gh.2.1 gh.1 gh.2.2.1 gh.2.2.2.1∧bU gh.2.2.2.2 11 ((l.map fun x=>(φ x).dat).take gh.1) gh.2.2.1∧(∀ b o,G b=some o→gh.2.2.2.2 b=some o)) (fun gh=>l.length - gh.1) ((0,.slice none 0 0,[],[],G)) sB ?_ ?_
 ·exact ⟨by omega,bV.nil,by simpa using bU.nil,fun _ _ h=>h⟩
 clear H;rintro ⟨k,v,xs,Lo,g⟩ a w hI H;dsimp only at hI H;obtain ⟨hk,hrw,dV,hgm⟩:=hI;dsimp only [lca,bG] at H;refine dQ 4 H ?_ ?_ <;> clear H
 ·intro qj
  have hk2:k < l.length:=by omega
  obtain ⟨b,o,cs,rfl,hcl,hrow,hrep⟩:=hg k l[k].dat (by simp [hk2]);obtain ⟨pA,pn,pc,dA,dn,dc,yA,yn,yc,fA,fn,fc,rA,rn,rc,rfl,-⟩:=hrep.item;replace hrow:=fun j u hj=>aH hgm (hrow j u hj);refine ak 5 ?_;intro a H;refine aS gB (cs:=[_,_,_,_,_,_,_,_,_,_,_]) H wn rfl rfl (fun j v hj=>H.hp.aI (hrow j v hj)) rfl ?_;clear H;intro a H;refine dz gB H wn rfl ?_;clear H;intro b7 a w uM H;refine aV gB 0 (vs:=[_,_,_,_,_,_,_,_,_,_,_]) _ H wn rfl rfl rfl rfl rfl rfl rfl rfl ?_;clear H;intro w H;dsimp only [List.set,setRow] at H;refine aD 4 H ?_;clear H;intro a H;refine aS gB (cs:=[_,_,_,_,_,_,_,_,_,_,_]) H wn rfl rfl (H.hp.bN 0 rfl rfl) rfl ?_;clear H;intro a H;refine ji H wn rfl rfl (hf _ (lD hk2) _ _ _ hgm H.ro (hrep.mono hgm)) rfl ?_;clear H;rintro v17 yM a w ⟨yT,rfl,jr⟩ qV H;obtain ⟨cs,hcs⟩:∃ cs,cs=yT:=⟨_,rfl⟩;obtain ⟨pA,pn,pc,dA,dn,dc,yA,yn,yc,fA,fn,fc,rA,rn,rc,vT,-⟩:=jr.item;rw [vT] at H;refine gJ nU gB [_,_,_,_,_,_,_,_,_,_,_] [_,_,_,_,_,_,_,_,_,_,_] H wn rfl rfl rfl rfl rfl (by intro i q h;match i,h with|0,h=>exact h|n+1,h=>simp at h) rfl rfl ?_;clear H;intro b18 a w JY H;refine lJ (Li:=[_,_]) (Lo:=Lo) (news:=yT) nU gB rfl rfl H wn rfl rfl hrw (by rw [vT];rfl) (by rw [vT];exact H.hp.bN 0 rfl rfl) jr.one (by omega) (by omega) rfl ?_;clear H;intro v19 Ee a w xV H;refine aD 5 H ?_;clear H;intro a H;refine aC ?_;refine cB ((k+1,v19,xs++yT,Ee,yM)) (by exact (H.dY (Pl:=[_,_]) (dM:=[]) [] (by decide) rfl).sub ⟨rfl,rfl,rfl,rfl,rfl,aU⟩) ?_ ?_
  ·(try dsimp only);refine ⟨by omega,xV,?_,fun b o h=>qV b o (hgm b o h)⟩;rw [fQ (by simpa using hk2)];exact (dV.mono qV).snoc (by simpa using jr) (by rw [vT];rfl)
  first|omega|(dsimp only;omega)
 intro qj
 refine ak 5 ?_;intro a H;refine lr H results140 rfl ?_
 obtain rfl:k=l.length:=by omega
 exact H.hp.dJ ⟨_,hrw,by rw [fK (by simp)] at dV;exact dV⟩
theorem agh (φ:ay→ay) (G:GH) (w0:World) (hG:Hold G w0) (l:List ay) (v fv:aj) (hv:au G (.sl 11 (l.map ay.dat)) v) (hz:l.length≤4294967296) (hf:∀ x∈l,Bh fv w0 G x.dat (φ x).dat) :
  Calls prog 140 #[v,fv] w0 (bB w0 G fun u G'=>au G' (.sl 11 (l.map fun x=>(φ x).dat)) u):=Gw hG (XR φ G w0 (xg hG) l v fv hv hz hf) (by simp)
theorem agb (G:GH) (w0:World) (hG:Hold G w0) (l:List ay) (v fv:aj) (hv:au G (.sl 11 (l.map ay.dat)) v) (hz:l.length≤4294967296) (hf:∀ x∈l,FU fv w0 G x.dat) :
  Calls prog 140 #[v,fv] w0 (bB w0 G fun u G'=>au G' (.sl 11 (l.map ay.dat)) u):=agh (fun x=>x) G w0 hG l v fv hv hz hf
theorem agd (φ:aX→aX) (G:GH) (w0:World) (hO:fU G [] w0) (l:List aX) (v fv:aj) (hv:au G (.sl 6 (l.map aX.dat)) v) (hz:l.length≤4294967296) (hf:∀ x∈l,Bh fv w0 G x.dat (φ x).dat) :
  Calls prog 110 #[v,fv] w0 (fJ w0 G [] fun u G' L'=>∃ xs,bV 74 6 u l.length xs L'∧bU G' 6 (l.map fun x=>(φ x).dat) xs):=by
 obtain ⟨A,c,rfl,hc1,hc2,hg⟩:=hv.slice
 have hml:4294967297≤maxLen:=by decide
 rw [bM] at *;refine jg (N:=22) (T:=[(0,_),(1,_)]) func110 rfl ntmps110 rfl rfl hO ?_;refine ak 13 ?_;intro a H;refine eH (ι:=Nat × aj × List aj × OL × GH) (Tc:=[(1,_),(8,_),(9,_)]) (Lc:=[]) (fun gh=>[(5,gh.2.1),(10,vi gh.1)]) (fun gh=>[]++gh.2.2.2.1) (fun gh=>gh.2.2.2.2) (fun gh=>gh.1≤l.length∧bV 74 6 gh.2.1 gh.1 gh.2.2.1 gh.2.2.2.1∧bU gh.2.2.2.2 6 ((l.map fun x=>(φ x).dat).take gh.1) gh.2.2.1∧(∀ b o,G b=some o→gh.2.2.2.2 b=some o)) (fun gh=>l.length - gh.1) ((0,.slice none 0 0,[],[],G)) sB ?_ ?_
 ·exact ⟨by omega,bV.nil,by simpa using bU.nil,fun _ _ h=>h⟩
 clear H;rintro ⟨k,v,xs,Lo,g⟩ a w hI H;dsimp only at hI H;obtain ⟨hk,hrw,dV,hgm⟩:=hI;dsimp only [lca,bG] at H;refine dQ 4 H ?_ ?_ <;> clear H
 ·intro qj
  have hk2:k < l.length:=by omega
  obtain ⟨b,o,cs,rfl,hcl,hrow,hrep⟩:=hg k l[k].dat (by simp [hk2]);obtain ⟨pA,pn,pc,dA,dn,dc,yA,yn,yc,fA,fn,fc,rfl,-⟩:=hrep.row;replace hrow:=fun j u hj=>aH hgm (hrow j u hj);refine ak 5 ?_;intro a H;refine aS jL (cs:=[_,_,_,_,_,_]) H wn rfl rfl (fun j v hj=>H.hp.aI (hrow j v hj)) rfl ?_;clear H;intro a H;refine dz jL H wn rfl ?_;clear H;intro b7 a w uM H;refine aV jL 0 (vs:=[_,_,_,_,_,_]) _ H wn rfl rfl rfl rfl rfl rfl rfl rfl ?_;clear H;intro w H;dsimp only [List.set,setRow] at H;refine aD 4 H ?_;clear H;intro a H;refine aS jL (cs:=[_,_,_,_,_,_]) H wn rfl rfl (H.hp.bN 0 rfl rfl) rfl ?_;clear H;intro a H;refine ji H wn rfl rfl (hf _ (lD hk2) _ _ _ hgm H.ro (hrep.mono hgm)) rfl ?_;clear H;rintro v17 yM a w ⟨yT,rfl,jr⟩ qV H;obtain ⟨cs,hcs⟩:∃ cs,cs=yT:=⟨_,rfl⟩;obtain ⟨pA,pn,pc,dA,dn,dc,yA,yn,yc,fA,fn,fc,vT,-⟩:=jr.row;rw [vT] at H;refine gJ FL jL [_,_,_,_,_,_] [_,_,_,_,_,_] H wn rfl rfl rfl rfl rfl (by intro i q h;match i,h with|0,h=>exact h|n+1,h=>simp at h) rfl rfl ?_;clear H;intro b18 a w JY H;refine lJ (Li:=[_,_]) (Lo:=Lo) (news:=yT) FL jL rfl rfl H wn rfl rfl hrw (by rw [vT];rfl) (by rw [vT];exact H.hp.bN 0 rfl rfl) jr.one (by omega) (by omega) rfl ?_;clear H;intro v19 Ee a w xV H;refine aD 5 H ?_;clear H;intro a H;refine aC ?_;refine cB ((k+1,v19,xs++yT,Ee,yM)) (by exact (H.dY (Pl:=[_,_]) (dM:=[]) [] (by decide) rfl).sub ⟨rfl,rfl,rfl,rfl,rfl,aU⟩) ?_ ?_
  ·(try dsimp only);refine ⟨by omega,xV,?_,fun b o h=>qV b o (hgm b o h)⟩;rw [fQ (by simpa using hk2)];exact (dV.mono qV).snoc (by simpa using jr) (by rw [vT];rfl)
  first|omega|(dsimp only;omega)
 intro qj
 refine ak 5 ?_;intro a H;refine lr H results110 rfl ?_
 obtain rfl:k=l.length:=by omega
 exact H.hp.dJ ⟨_,hrw,by rw [fK (by simp)] at dV;exact dV⟩
theorem XU (φ:aX→aX) (G:GH) (w0:World) (hG:Hold G w0) (l:List aX) (v fv:aj) (hv:au G (.sl 6 (l.map aX.dat)) v) (hz:l.length≤4294967296) (hf:∀ x∈l,Bh fv w0 G x.dat (φ x).dat) :
  Calls prog 110 #[v,fv] w0 (bB w0 G fun u G'=>au G' (.sl 6 (l.map fun x=>(φ x).dat)) u):=Gw hG (agd φ G w0 (xg hG) l v fv hv hz hf) (by simp)
theorem agf (G:GH) (w0:World) (hG:Hold G w0) (l:List aX) (v fv:aj) (hv:au G (.sl 6 (l.map aX.dat)) v) (hz:l.length≤4294967296) (hf:∀ x∈l,FU fv w0 G x.dat) :
  Calls prog 110 #[v,fv] w0 (bB w0 G fun u G'=>au G' (.sl 6 (l.map aX.dat)) u):=XU (fun x=>x) G w0 hG l v fv hv hz hf
theorem agc (φ:bC→bC) (G:GH) (w0:World) (hO:fU G [] w0) (l:List bC) (v fv:aj) (hv:au G (.sl 7 (l.map bC.dat)) v) (hz:l.length≤4294967296) (hf:∀ x∈l,Bh fv w0 G x.dat (φ x).dat) :
  Calls prog 172 #[v,fv] w0 (fJ w0 G [] fun u G' L'=>∃ xs,bV 76 7 u l.length xs L'∧bU G' 7 (l.map fun x=>(φ x).dat) xs):=by
 obtain ⟨A,c,rfl,hc1,hc2,hg⟩:=hv.slice
 have hml:4294967297≤maxLen:=by decide
 rw [bM] at *;refine jg (N:=22) (T:=[(0,_),(1,_)]) func172 rfl ntmps172 rfl rfl hO ?_;refine ak 13 ?_;intro a H;refine eH (ι:=Nat × aj × List aj × OL × GH) (Tc:=[(1,_),(8,_),(9,_)]) (Lc:=[]) (fun gh=>[(5,gh.2.1),(10,vi gh.1)]) (fun gh=>[]++gh.2.2.2.1) (fun gh=>gh.2.2.2.2) (fun gh=>gh.1≤l.length∧bV 76 7 gh.2.1 gh.1 gh.2.2.1 gh.2.2.2.1∧bU gh.2.2.2.2 7 ((l.map fun x=>(φ x).dat).take gh.1) gh.2.2.1∧(∀ b o,G b=some o→gh.2.2.2.2 b=some o)) (fun gh=>l.length - gh.1) ((0,.slice none 0 0,[],[],G)) sB ?_ ?_
 ·exact ⟨by omega,bV.nil,by simpa using bU.nil,fun _ _ h=>h⟩
 clear H;rintro ⟨k,v,xs,Lo,g⟩ a w hI H;dsimp only at hI H;obtain ⟨hk,hrw,dV,hgm⟩:=hI;dsimp only [lca,bG] at H;refine dQ 4 H ?_ ?_ <;> clear H
 ·intro qj
  have hk2:k < l.length:=by omega
  obtain ⟨b,o,cs,rfl,hcl,hrow,hrep⟩:=hg k l[k].dat (by simp [hk2]);obtain ⟨pA,pn,pc,dA,dn,dc,yA,yn,yc,fA,fn,fc,rfl,-⟩:=hrep.cell;replace hrow:=fun j u hj=>aH hgm (hrow j u hj);refine ak 5 ?_;intro a H;refine aS jQ (cs:=[_,_,_,_,_,_,_]) H wn rfl rfl (fun j v hj=>H.hp.aI (hrow j v hj)) rfl ?_;clear H;intro a H;refine dz jQ H wn rfl ?_;clear H;intro b7 a w uM H;refine aV jQ 0 (vs:=[_,_,_,_,_,_,_]) _ H wn rfl rfl rfl rfl rfl rfl rfl rfl ?_;clear H;intro w H;dsimp only [List.set,setRow] at H;refine aD 4 H ?_;clear H;intro a H;refine aS jQ (cs:=[_,_,_,_,_,_,_]) H wn rfl rfl (H.hp.bN 0 rfl rfl) rfl ?_;clear H;intro a H;refine ji H wn rfl rfl (hf _ (lD hk2) _ _ _ hgm H.ro (hrep.mono hgm)) rfl ?_;clear H;rintro v17 yM a w ⟨yT,rfl,jr⟩ qV H;obtain ⟨cs,hcs⟩:∃ cs,cs=yT:=⟨_,rfl⟩;obtain ⟨pA,pn,pc,dA,dn,dc,yA,yn,yc,fA,fn,fc,vT,-⟩:=jr.cell;rw [vT] at H;refine gJ CF jQ [_,_,_,_,_,_,_] [_,_,_,_,_,_,_] H wn rfl rfl rfl rfl rfl (by intro i q h;match i,h with|0,h=>exact h|n+1,h=>simp at h) rfl rfl ?_;clear H;intro b18 a w JY H;refine lJ (Li:=[_,_]) (Lo:=Lo) (news:=yT) CF jQ rfl rfl H wn rfl rfl hrw (by rw [vT];rfl) (by rw [vT];exact H.hp.bN 0 rfl rfl) jr.one (by omega) (by omega) rfl ?_;clear H;intro v19 Ee a w xV H;refine aD 5 H ?_;clear H;intro a H;refine aC ?_;refine cB ((k+1,v19,xs++yT,Ee,yM)) (by exact (H.dY (Pl:=[_,_]) (dM:=[]) [] (by decide) rfl).sub ⟨rfl,rfl,rfl,rfl,rfl,aU⟩) ?_ ?_
  ·(try dsimp only);refine ⟨by omega,xV,?_,fun b o h=>qV b o (hgm b o h)⟩;rw [fQ (by simpa using hk2)];exact (dV.mono qV).snoc (by simpa using jr) (by rw [vT];rfl)
  first|omega|(dsimp only;omega)
 intro qj
 refine ak 5 ?_;intro a H;refine lr H results172 rfl ?_
 obtain rfl:k=l.length:=by omega
 exact H.hp.dJ ⟨_,hrw,by rw [fK (by simp)] at dV;exact dV⟩
theorem XT (φ:bC→bC) (G:GH) (w0:World) (hG:Hold G w0) (l:List bC) (v fv:aj) (hv:au G (.sl 7 (l.map bC.dat)) v) (hz:l.length≤4294967296) (hf:∀ x∈l,Bh fv w0 G x.dat (φ x).dat) :
  Calls prog 172 #[v,fv] w0 (bB w0 G fun u G'=>au G' (.sl 7 (l.map fun x=>(φ x).dat)) u):=Gw hG (agc φ G w0 (xg hG) l v fv hv hz hf) (by simp)
theorem aga (G:GH) (w0:World) (hG:Hold G w0) (l:List bC) (v fv:aj) (hv:au G (.sl 7 (l.map bC.dat)) v) (hz:l.length≤4294967296) (hf:∀ x∈l,FU fv w0 G x.dat) :
  Calls prog 172 #[v,fv] w0 (bB w0 G fun u G'=>au G' (.sl 7 (l.map bC.dat)) u):=XT (fun x=>x) G w0 hG l v fv hv hz hf
def Ea (n:Nat):Prop:=∀ (G:GH) (w0:World),Hold G w0→∀ (l:List ay) (v:aj),au G (.sl 11 (l.map ay.dat)) v→cu l < n →
 Calls prog 80 #[v] w0 (bB w0 G fun u G'=>au G' (.sl 11 (l.map ay.dat)) u)
theorem afn {n:Nat} (ih:Ea n) (hn:n≤4294967296) (G:GH) (w0:World) (hG:Hold G w0) (x:bC) (cs:List aj) (hv:aW G x.dat cs) (hz:bY x.dat < n+1) :
  Calls prog 203 #[.agg cs.toArray] w0 (bB w0 G fun u G'=>∃ cs',u=.agg cs'.toArray∧aW G' x.dat cs'):=by
 have he:=CJ x;obtain ⟨pA,pn,pc,dA,dn,dc,yA,yn,yc,fA,fn,fc,rfl,hh,hf⟩:=hv.cell;refine eN [(0,_)] func203 rfl ntmps203 rfl rfl hG ?_;refine ak 1 ?_;intro a H;refine dP (cs:=[_,_,_,_,_,_,_]) H wn rfl rfl rfl ?_;clear H;intro b1 a w hb1 H;refine dz jQ H wn rfl ?_;clear H;intro b2 a w hb2 H;refine aD 2 H ?_;clear H
 have dN:∀ (aP:Nat) (v:aj) (G G':GH),(∀ k o,G k=some o→G' k=some o)→(fun (aP:Nat) (v:aj) (G:GH)=>match aP with|0=>v=(aG b1 0)|1=>v=vi x.id|2=>v=(aG b1 1)|3=>v=.agg #[.slice pA pn pc,vi x.head.marks.ins,vi x.head.marks.move,.slice dA dn dc,.slice yA yn yc]|4=>∃ p d l,v=.agg #[p,vi x.head.marks.ins,vi x.head.marks.move,d,l]∧fC G x.head p d l|5=>v=(aG b1 6)|6=>v=.slice fA fn fc|7=>au G (.sl 11 (x.flow.map ay.dat)) v|_=>True) aP v G→(fun (aP:Nat) (v:aj) (G:GH)=>match aP with|0=>v=(aG b1 0)|1=>v=vi x.id|2=>v=(aG b1 1)|3=>v=.agg #[.slice pA pn pc,vi x.head.marks.ins,vi x.head.marks.move,.slice dA dn dc,.slice yA yn yc]|4=>∃ p d l,v=.agg #[p,vi x.head.marks.ins,vi x.head.marks.move,d,l]∧fC G x.head p d l|5=>v=(aG b1 6)|6=>v=.slice fA fn fc|7=>au G (.sl 11 (x.flow.map ay.dat)) v|_=>True) aP v G':=by
  intro aP v G G' hm h
  match aP,h with
  | 0,h=>exact h
  | 1,h=>exact h
  | 2,h=>exact h
  | 3,h=>exact h
  | 4,h=>exact let ⟨p,d,l,h1,h2⟩:=h;⟨p,d,l,h1,h2.mono hm⟩
  | 5,h=>exact h
  | 6,h=>exact h
  | 7,h=>exact au.mono hm h
  | 8,h=>exact trivial
  | 9,h=>exact trivial
  | _+10,h=>exact trivial
 intro a H;refine yR (hmx) [[],[0],[],[2],[2,3],[],[5],(ra 2 5),(ra 0 8),(ra 0 9)] [8,9] (by kernel_rfl) (by kernel_rfl) (fun (aP:Nat) (v:aj) (G:GH)=>match aP with|0=>v=(aG b1 0)|1=>v=vi x.id|2=>v=(aG b1 1)|3=>v=.agg #[.slice pA pn pc,vi x.head.marks.ins,vi x.head.marks.move,.slice dA dn dc,.slice yA yn yc]|4=>∃ p d l,v=.agg #[p,vi x.head.marks.ins,vi x.head.marks.move,d,l]∧fC G x.head p d l|5=>v=(aG b1 6)|6=>v=.slice fA fn fc|7=>au G (.sl 11 (x.flow.map ay.dat)) v|_=>True) dN H ?_ ?_
 ·clear H;refine aF ?_ ?_ ?_ ?_ (aF ?_ ?_ ?_ ?_ (bH (bQ rfl) (bH (bQ rfl) cZ)))
  ·refine dB [] rfl trivial (by kernel_rfl) dN rfl rfl ?_;intro aR a w G1 hG HT H fin;exact kH H (Rf YG rfl fun _ H=>fin H iJ rfl)
  ·refine dB [(0,3,_)] rfl ⟨fun _ _ h=>h,aU⟩ (by kernel_rfl) dN rfl rfl ?_;intro aR a w G1 hG HT H fin;exact kH H (Ro bR 1 rfl fun _ H=>fin H iJ rfl)
  ·refine dB [] rfl trivial (by kernel_rfl) dN rfl rfl ?_;intro aR a w G1 hG HT H fin;exact kH H (Rf YH rfl fun _ H=>fin H iJ rfl)
  ·refine dB [(2,5,_)] rfl ⟨fun _ _ h=>h,aU⟩ (by kernel_rfl) dN rfl rfl ?_;intro aR a w G1 hG HT H fin;refine aS dw (cs:=[_,_,_,_,_]) H wn rfl rfl (H.hp.bN 1 rfl rfl) rfl ?_;clear H;intro a H;exact fin H iJ rfl
  ·refine dB [(3,6,_)] rfl ⟨fun _ _ h=>h,aU⟩ (by kernel_rfl) dN rfl rfl ?_;intro aR a w G1 hG HT H fin;refine s_call Es H wn rfl (Eo _ _ H.ro x.head _ _ _ _ _ _ _ _ _ (hh.mono hG) (by omega)) rfl ?_;clear H;rintro v7 G7 a w BU JL H;exact fin H JL (BU)
  ·refine dB [] rfl trivial (by kernel_rfl) dN rfl rfl ?_;intro aR a w G1 hG HT H fin;exact kH H (Rf YJ rfl fun _ H=>fin H iJ rfl)
  ·refine dB [(5,8,_)] rfl ⟨fun _ _ h=>h,aU⟩ (by kernel_rfl) dN rfl rfl ?_;intro aR a w G1 hG HT H fin;exact kH H (Ro pK 1 rfl fun _ H=>fin H iJ rfl)
  refine dB [(6,9,_)] rfl ⟨fun _ _ h=>h,aU⟩ (by kernel_rfl) dN rfl rfl ?_;intro aR a w G1 hG HT H fin;refine s_call Rw H wn rfl (ih _ _ H.ro x.flow _ (hf.mono hG) (by omega)) rfl ?_;clear H;rintro v10 zS a w rU pX H;exact fin H pX (rU)
 clear H;intro a w G iP H hv;have H:=H.aN (hv 1 4 rfl rfl) rfl;obtain ⟨u7,TR,BU⟩:=hv 4 7 (by decide) rfl;(try dsimp only at BU);obtain ⟨p7,d7,l7,rfl,zo⟩:=BU;obtain ⟨a1,a2,a3,rfl⟩:=zo.props.form;obtain ⟨a4,a5,a6,rfl⟩:=zo.bL.form;obtain ⟨a7,a8,a9,rfl⟩:=zo.layers.form;have H:=H.gV TR;obtain ⟨u10,Ky,rU⟩:=hv 7 10 (by decide) rfl;(try dsimp only at rU);obtain ⟨VU,n10,c10,rfl⟩:=rU.form;have H:=H.gV Ky;clear hv;refine iy Pb [_,_,_,_,_,_,_] H wn rfl rfl rfl rfl ?_;clear H;intro a H;refine aV jQ 0 (vs:=[_,_,_,_,_,_,_]) _ H wn rfl rfl rfl rfl rfl rfl rfl rfl ?_;clear H;intro w H;dsimp only [List.set,setRow] at H;refine aC ⟨rfl,?_⟩;refine dR ?_;refine bZ ?_;refine (leave1 H results203 (.cons (kF jQ (cs:=[_,_,_,_,_,_,_]) H rfl rfl (H.hp.bN 0 rfl rfl)) .nil) ?_).1;exact H.rt ⟨_,rfl,aW.KM zo rU⟩
theorem afm {n:Nat} (ih:Ea n) (hn:n≤4294967296) {G:GH} {w0:World} (x:bC) (hz:bY x.dat < n+1):FU (.func (.func 203) #[] #[]) w0 G x.dat:=by
 intro G1 w1 cs hm1 hG1 hr;have h:=afn ih hn _ _ hG1 x cs hr hz;have h2:=iN (P:=prog) (caps:=[]) (args:=[.agg cs.toArray]) ahA h;exact h2
theorem afC {n:Nat} (ih:Ea n) (hn:n≤4294967296) (G:GH) (w0:World) (hG:Hold G w0) (x:aX) (cs:List aj) (hv:aW G x.dat cs) (hz:bY x.dat < n+1) :
  Calls prog 142 #[.agg cs.toArray] w0 (bB w0 G fun u G'=>∃ cs',u=.agg cs'.toArray∧aW G' x.dat cs'):=by
 have he:=CK x;have hl:=IQ x.cells;obtain ⟨pA,pn,pc,dA,dn,dc,yA,yn,yc,fA,fn,fc,rfl,hh,hf⟩:=hv.row;refine eN [(0,_)] func142 rfl ntmps142 rfl rfl hG ?_;refine ak 1 ?_;intro a H;refine dP (cs:=[_,_,_,_,_,_]) H wn rfl rfl rfl ?_;clear H;intro b1 a w hb1 H;refine dz jL H wn rfl ?_;clear H;intro b2 a w hb2 H;refine aD 2 H ?_;clear H
 have dN:∀ (aP:Nat) (v:aj) (G G':GH),(∀ k o,G k=some o→G' k=some o)→(fun (aP:Nat) (v:aj) (G:GH)=>match aP with|0=>v=(aG b1 0)|1=>v=.agg #[.slice pA pn pc,vi x.head.marks.ins,vi x.head.marks.move,.slice dA dn dc,.slice yA yn yc]|2=>∃ p d l,v=.agg #[p,vi x.head.marks.ins,vi x.head.marks.move,d,l]∧fC G x.head p d l|3=>v=(aG b1 5)|4=>v=.slice fA fn fc|5=>au G (.sl 7 (x.cells.map bC.dat)) v|_=>True) aP v G→(fun (aP:Nat) (v:aj) (G:GH)=>match aP with|0=>v=(aG b1 0)|1=>v=.agg #[.slice pA pn pc,vi x.head.marks.ins,vi x.head.marks.move,.slice dA dn dc,.slice yA yn yc]|2=>∃ p d l,v=.agg #[p,vi x.head.marks.ins,vi x.head.marks.move,d,l]∧fC G x.head p d l|3=>v=(aG b1 5)|4=>v=.slice fA fn fc|5=>au G (.sl 7 (x.cells.map bC.dat)) v|_=>True) aP v G':=by
  intro aP v G G' hm h
  match aP,h with
  | 0,h=>exact h
  | 1,h=>exact h
  | 2,h=>exact let ⟨p,d,l,h1,h2⟩:=h;⟨p,d,l,h1,h2.mono hm⟩
  | 3,h=>exact h
  | 4,h=>exact h
  | 5,h=>exact au.mono hm h
  | 6,h=>exact trivial
  | 7,h=>exact trivial
  | _+8,h=>exact trivial
 intro a H;refine yR (hmx) [[],[0],[0,1],[],[3],(ra 0 5),(ra 0 6),(ra 0 7)] [6,7] (by kernel_rfl) (by kernel_rfl) (fun (aP:Nat) (v:aj) (G:GH)=>match aP with|0=>v=(aG b1 0)|1=>v=.agg #[.slice pA pn pc,vi x.head.marks.ins,vi x.head.marks.move,.slice dA dn dc,.slice yA yn yc]|2=>∃ p d l,v=.agg #[p,vi x.head.marks.ins,vi x.head.marks.move,d,l]∧fC G x.head p d l|3=>v=(aG b1 5)|4=>v=.slice fA fn fc|5=>au G (.sl 7 (x.cells.map bC.dat)) v|_=>True) dN H ?_ ?_
 ·clear H;refine aF ?_ ?_ ?_ ?_ (aF ?_ ?_ (bQ rfl) (bQ rfl) cZ)
  ·refine dB [] rfl trivial (by kernel_rfl) dN rfl rfl ?_;intro aR a w G1 hG HT H fin;exact kH H (Rf RN rfl fun _ H=>fin H iJ rfl)
  ·refine dB [(0,3,_)] rfl ⟨fun _ _ h=>h,aU⟩ (by kernel_rfl) dN rfl rfl ?_;intro aR a w G1 hG HT H fin;refine aS dw (cs:=[_,_,_,_,_]) H wn rfl rfl (H.hp.bN 1 rfl rfl) rfl ?_;clear H;intro a H;exact fin H iJ rfl
  ·refine dB [(1,4,_)] rfl ⟨fun _ _ h=>h,aU⟩ (by kernel_rfl) dN rfl rfl ?_;intro aR a w G1 hG HT H fin;refine s_call Es H wn rfl (Eo _ _ H.ro x.head _ _ _ _ _ _ _ _ _ (hh.mono hG) (by omega)) rfl ?_;clear H;rintro v5 G5 a w qb kU H;exact fin H kU (qb)
  ·refine dB [] rfl trivial (by kernel_rfl) dN rfl rfl ?_;intro aR a w G1 hG HT H fin;exact kH H (Rf JA rfl fun _ H=>fin H iJ rfl)
  ·refine dB [(3,6,_)] rfl ⟨fun _ _ h=>h,aU⟩ (by kernel_rfl) dN rfl rfl ?_;intro aR a w G1 hG HT H fin;exact kH H (Ro IE 1 rfl fun _ H=>fin H iJ rfl)
  refine dB [(4,7,_)] rfl ⟨fun _ _ h=>h,aU⟩ (by kernel_rfl) dN rfl rfl ?_;intro aR a w G1 hG HT H fin;refine s_call X7 H wn rfl (aga _ _ H.ro x.cells _ _ (hf.mono hG) (by omega) (fun y hy=>afm ih hn y (by have:=adr hy;omega))) rfl ?_;clear H;rintro v8 G8 a w lU nO H;exact fin H nO (lU)
 clear H;intro a w G iP H hv;obtain ⟨u5,EW,qb⟩:=hv 2 5 (by decide) rfl;(try dsimp only at qb);obtain ⟨p5,d5,l5,rfl,qU⟩:=qb;obtain ⟨a1,a2,a3,rfl⟩:=qU.props.form;obtain ⟨a4,a5,a6,rfl⟩:=qU.bL.form;obtain ⟨a7,a8,a9,rfl⟩:=qU.layers.form;have H:=H.gV EW;obtain ⟨u8,zF,lU⟩:=hv 5 8 (by decide) rfl;(try dsimp only at lU);obtain ⟨A8,n8,c8,rfl⟩:=lU.form;have H:=H.gV zF;clear hv;refine iy O9 [_,_,_,_,_,_] H wn rfl rfl rfl rfl ?_;clear H;intro a H;refine aV jL 0 (vs:=[_,_,_,_,_,_]) _ H wn rfl rfl rfl rfl rfl rfl rfl rfl ?_;clear H;intro w H;dsimp only [List.set,setRow] at H;refine aC ⟨rfl,?_⟩;refine dR ?_;refine bZ ?_;refine (leave1 H results142 (.cons (kF jL (cs:=[_,_,_,_,_,_]) H rfl rfl (H.hp.bN 0 rfl rfl)) .nil) ?_).1;exact H.rt ⟨_,rfl,aW.KN qU lU⟩
theorem afB {n:Nat} (ih:Ea n) (hn:n≤4294967296) {G:GH} {w0:World} (x:aX) (hz:bY x.dat < n+1):FU (.func (.func 142) #[] #[]) w0 G x.dat:=by
 intro G1 w1 cs hm1 hG1 hr;have h:=afC ih hn _ _ hG1 x cs hr hz;have h2:=iN (P:=prog) (caps:=[]) (args:=[.agg cs.toArray]) agN h;exact h2
theorem afl {n:Nat} (ih:Ea n) (hn:n≤4294967296) (G:GH) (w0:World) (hG:Hold G w0) (x:ay) (cs:List aj) (hv:aW G x.dat cs) (hz:bY x.dat < n+1) :
  Calls prog 141 #[.agg cs.toArray] w0 (bB w0 G fun u G'=>∃ cs',u=.agg cs'.toArray∧aW G' x.dat cs'):=by
 have he:=yJ x;have hl:=IV x.rows;obtain ⟨pA,pn,pc,dA,dn,dc,yA,yn,yc,fA,fn,fc,rA,rn,rc,rfl,hh,hf,hr⟩:=hv.item;refine eN [(0,_)] func141 rfl ntmps141 rfl rfl hG ?_;refine ak 1 ?_;intro a H;refine dP (cs:=[_,_,_,_,_,_,_,_,_,_,_]) H wn rfl rfl rfl ?_;clear H;intro b1 a w hb1 H;refine dz gB H wn rfl ?_;clear H;intro b2 a w hb2 H;refine aD 2 H ?_;clear H
 have dN:∀ (aP:Nat) (v:aj) (G G':GH),(∀ k o,G k=some o→G' k=some o)→(fun (aP:Nat) (v:aj) (G:GH)=>match aP with|0=>v=(aG b1 4)|1=>v=.agg #[.slice pA pn pc,vi x.head.marks.ins,vi x.head.marks.move,.slice dA dn dc,.slice yA yn yc]|2=>∃ p d l,v=.agg #[p,vi x.head.marks.ins,vi x.head.marks.move,d,l]∧fC G x.head p d l|3=>v=(aG b1 9)|4=>v=.slice fA fn fc|5=>au G (.sl 11 (x.flow.map ay.dat)) v|6=>v=(aG b1 10)|7=>v=.slice rA rn rc|8=>au G (.sl 6 (x.rows.map aX.dat)) v|9=>v=(aG b1 4)|_=>True) aP v G→(fun (aP:Nat) (v:aj) (G:GH)=>match aP with|0=>v=(aG b1 4)|1=>v=.agg #[.slice pA pn pc,vi x.head.marks.ins,vi x.head.marks.move,.slice dA dn dc,.slice yA yn yc]|2=>∃ p d l,v=.agg #[p,vi x.head.marks.ins,vi x.head.marks.move,d,l]∧fC G x.head p d l|3=>v=(aG b1 9)|4=>v=.slice fA fn fc|5=>au G (.sl 11 (x.flow.map ay.dat)) v|6=>v=(aG b1 10)|7=>v=.slice rA rn rc|8=>au G (.sl 6 (x.rows.map aX.dat)) v|9=>v=(aG b1 4)|_=>True) aP v G':=by
  intro aP v G G' hm h
  match aP,h with
  | 0,h=>exact h
  | 1,h=>exact h
  | 2,h=>exact let ⟨p,d,l,h1,h2⟩:=h;⟨p,d,l,h1,h2.mono hm⟩
  | 3,h=>exact h
  | 4,h=>exact h
  | 5,h=>exact au.mono hm h
  | 6,h=>exact h
  | 7,h=>exact h
  | 8,h=>exact au.mono hm h
  | 9,h=>exact h
  | 10,h=>exact trivial
  | 11,h=>exact trivial
  | 12,h=>exact trivial
  | 13,h=>exact trivial
  | 14,h=>exact trivial
  | _+15,h=>exact trivial
 intro a H;refine yR (hmx) [[],[0],[0,1],[],[3],(ra 0 5),[],[6],(ra 0 8),[0,1,2,3,4,6,7],(ra 0 10),(ra 0 11),(ra 0 12),(ra 0 13),(ra 0 14)] (ra 10 5) (by kernel_rfl) (by kernel_rfl) (fun (aP:Nat) (v:aj) (G:GH)=>match aP with|0=>v=(aG b1 4)|1=>v=.agg #[.slice pA pn pc,vi x.head.marks.ins,vi x.head.marks.move,.slice dA dn dc,.slice yA yn yc]|2=>∃ p d l,v=.agg #[p,vi x.head.marks.ins,vi x.head.marks.move,d,l]∧fC G x.head p d l|3=>v=(aG b1 9)|4=>v=.slice fA fn fc|5=>au G (.sl 11 (x.flow.map ay.dat)) v|6=>v=(aG b1 10)|7=>v=.slice rA rn rc|8=>au G (.sl 6 (x.rows.map aX.dat)) v|9=>v=(aG b1 4)|_=>True) dN H ?_ ?_
 ·clear H;refine aF ?_ ?_ ?_ ?_ (aF ?_ ?_ ?_ ?_ (aF ?_ ?_ (bQ rfl) (bQ rfl) (bH (bQ rfl) (bH (bQ rfl) (bH (bQ rfl) cZ)))))
  ·refine dB [] rfl trivial (by kernel_rfl) dN rfl rfl ?_;intro aR a w G1 hG HT H fin;exact kH H (Rf GY rfl fun _ H=>fin H iJ rfl)
  ·refine dB [(0,3,_)] rfl ⟨fun _ _ h=>h,aU⟩ (by kernel_rfl) dN rfl rfl ?_;intro aR a w G1 hG HT H fin;refine aS dw (cs:=[_,_,_,_,_]) H wn rfl rfl (H.hp.bN 1 rfl rfl) rfl ?_;clear H;intro a H;exact fin H iJ rfl
  ·refine dB [(1,4,_)] rfl ⟨fun _ _ h=>h,aU⟩ (by kernel_rfl) dN rfl rfl ?_;intro aR a w G1 hG HT H fin;refine s_call Es H wn rfl (Eo _ _ H.ro x.head _ _ _ _ _ _ _ _ _ (hh.mono hG) (by omega)) rfl ?_;clear H;rintro v5 G5 a w qb kU H;exact fin H kU (qb)
  ·refine dB [] rfl trivial (by kernel_rfl) dN rfl rfl ?_;intro aR a w G1 hG HT H fin;exact kH H (Rf YD rfl fun _ H=>fin H iJ rfl)
  ·refine dB [(3,6,_)] rfl ⟨fun _ _ h=>h,aU⟩ (by kernel_rfl) dN rfl rfl ?_;intro aR a w G1 hG HT H fin;exact kH H (Ro pK 1 rfl fun _ H=>fin H iJ rfl)
  ·refine dB [(4,7,_)] rfl ⟨fun _ _ h=>h,aU⟩ (by kernel_rfl) dN rfl rfl ?_;intro aR a w G1 hG HT H fin;refine s_call Rw H wn rfl (ih _ _ H.ro x.flow _ (hf.mono hG) (by omega)) rfl ?_;clear H;rintro v8 G8 a w lU nO H;exact fin H nO (lU)
  ·refine dB [] rfl trivial (by kernel_rfl) dN rfl rfl ?_;intro aR a w G1 hG HT H fin;exact kH H (Rf YE rfl fun _ H=>fin H iJ rfl)
  ·refine dB [(6,9,_)] rfl ⟨fun _ _ h=>h,aU⟩ (by kernel_rfl) dN rfl rfl ?_;intro aR a w G1 hG HT H fin;exact kH H (Ro Ll 1 rfl fun _ H=>fin H iJ rfl)
  ·refine dB [(7,10,_)] rfl ⟨fun _ _ h=>h,aU⟩ (by kernel_rfl) dN rfl rfl ?_;intro aR a w G1 hG HT H fin;refine s_call XY H wn rfl (agf _ _ H.ro x.rows _ _ (hr.mono hG) (by omega) (fun y hy=>afB ih hn y (by have:=adv hy;omega))) rfl ?_;clear H;rintro v11 ru a w wh kZ H;exact fin H kZ (wh)
  refine dB [] rfl trivial (by kernel_rfl) dN rfl rfl ?_;intro aR a w G1 hG HT H fin;exact kH H (Rf GY rfl fun _ H=>fin H iJ rfl)
 clear H;intro a w G iP H hv;obtain ⟨u5,EW,qb⟩:=hv 2 5 (by decide) rfl;(try dsimp only at qb);obtain ⟨p5,d5,l5,rfl,qU⟩:=qb;obtain ⟨a1,a2,a3,rfl⟩:=qU.props.form;obtain ⟨a4,a5,a6,rfl⟩:=qU.bL.form;obtain ⟨a7,a8,a9,rfl⟩:=qU.layers.form;have H:=H.gV EW;obtain ⟨u8,zF,lU⟩:=hv 5 8 (by decide) rfl;(try dsimp only at lU);obtain ⟨A8,n8,c8,rfl⟩:=lU.form;have H:=H.gV zF;obtain ⟨Vz,EU,wh⟩:=hv 8 11 (by decide) rfl;(try dsimp only at wh);obtain ⟨A11,n11,c11,rfl⟩:=wh.form;have H:=H.gV EU;have H:=H.aN (hv 9 12 rfl rfl) rfl;clear hv;refine aV dw 1 (vs:=[_,_,_,_,_]) _ H wn rfl rfl rfl rfl rfl rfl rfl rfl ?_;clear H;intro w H;dsimp only [List.set,setRow] at H;refine kH H (Rf YD rfl ?_);clear H;intro a H;refine aV pK 1 (vs:=[_]) _ H wn rfl rfl rfl rfl rfl rfl rfl rfl ?_;clear H;intro w H;dsimp only [List.set,setRow] at H;refine kH H (Rf YE rfl ?_);clear H;intro a H;refine aV Ll 1 (vs:=[_]) _ H wn rfl rfl rfl rfl rfl rfl rfl rfl ?_;clear H;intro w H;dsimp only [List.set,setRow] at H;refine aC ⟨rfl,?_⟩;refine dR ?_;refine Am ?_;refine aS gB (cs:=[_,_,_,_,_,_,_,_,_,_,_]) H wn rfl rfl (H.hp.bN 1 rfl rfl) rfl ?_;clear H;intro a H;refine aV gB 0 (vs:=[_,_,_,_,_,_,_,_,_,_,_]) _ H wn rfl rfl rfl rfl rfl rfl rfl rfl ?_;clear H;intro w H;dsimp only [List.set,setRow] at H;refine aC ?_;refine dR ?_;refine bZ ?_;refine (leave1 H results141 (.cons (kF gB (cs:=[_,_,_,_,_,_,_,_,_,_,_]) H rfl rfl (H.hp.bN 0 rfl rfl)) .nil) ?_).1;exact H.rt ⟨_,rfl,aW.mkItem qU lU wh⟩
theorem Xt {n:Nat} (ih:Ea n) (hn:n≤4294967296) {G:GH} {w0:World} (x:ay) (hz:bY x.dat < n+1):FU (.func (.func 141) #[] #[]) w0 G x.dat:=by
 intro G1 w1 cs hm1 hG1 hr;have h:=afl ih hn _ _ hG1 x cs hr hz;have h2:=iN (P:=prog) (caps:=[]) (args:=[.agg cs.toArray]) agM h;exact h2
theorem QD:∀ n:Nat,n≤4294967297→Ea n
 | 0,_=>fun _ _ _ _ _ _ h=>absurd h (by omega)
 | n+1,hn=>by
  intro G w0 hG l v hv hz;have ih:=QD n (by omega);have hl:=FP l;refine eN [(0,_)] func80 rfl ntmps80 rfl rfl hG ?_;refine ak 5 ?_;intro a H;refine s_call X5 H wn rfl (agb _ _ H.ro l _ _ hv (by omega) (fun y hy=>Xt ih (by omega) y (by have:=VP hy;omega))) rfl ?_;clear H;rintro v4 G4 a w TA BK H;refine fH 2 H ?_;exact TA
end
section
open Go.RowKit
section
variable {P:Program} {N:Nat} {D:List Deferred} {w0 w w':World} {F:Nat→Prop} {G0 G G':GH} {L L' Li Lo:OL} {T:List (Nat × aj)} {a a':Act} {Q:Exit→Act→World→Prop}
theorem St.cast (h:St N D w0 F G0 G L T a w) (e:L=L'):St N D w0 F G0 G L' T a w:=e ▸ h
theorem St.assoc {A B C:OL} (h:St N D w0 F G0 G ((A++B)++C) T a w):St N D w0 F G0 G (A++(B++C)) T a w:=h.cast (jd _ _ _)
theorem St.un {A B C:OL} (h:St N D w0 F G0 G (A++(B++C)) T a w):St N D w0 F G0 G ((A++B)++C) T a w:=h.cast (jd _ _ _).symm
theorem St.Im {A B:OL} (h:St N D w0 F G0 G (A++B) T a w):St N D w0 F G0 G (A++(B++[])) T a w:=h.cast (by rw [gD])
theorem aeB {ι κ:Type} {Lc:OL} {yX:Operand} {ps:List Nat} {assign body:Code} {gf:FuncId} {caps:List aj} {xs:List AP} {Gi:GH}
  (Lv:Nat→ι→OL) (Lt:Nat→ι→OL) (inv:Nat→ι→GH→Prop) (cx:κ→Code) (Lx Ef:κ→OL) (zH:κ→GH→Prop) (i0:ι)
  (H:St N D w0 F G0 G (Lc++Lv 0 i0++Lt 0 i0) T a w) (hg:ev T yX=some (.func (.func gf) #[] caps.toArray)) (en:∀ args w,(callFunc gf args).run P w=.ok (.enter gf args) w) (hit:Iter P Gi (.func (.func gf) #[] caps.toArray) xs) (hGi:∀ b o,Gi b=some o→G b=some o)
  (hps:ps.all (Nat.blt · N)=true) (hlen:∀ k args g,xD xs k args g→args.length=ps.length) (hinv:∀ k i (G G':GH),(∀ b o,G b=some o→G' b=some o)→inv k i G→inv k i G') (Tp:∀ x (G G':GH),(∀ b o,G b=some o→G' b=some o)→zH x G→zH x G') (h0:inv 0 i0 G)
  (round:∀ (l:Nat) (Fv Bv:Obj) (bk:OL) (k:Nat) (args:List aj) (i:ι) (G1:GH) (w1:World) (F1:Nat→Prop) (B1:Code→Exit→Act→World→Prop) (a1:Act),xD xs k args G1→(∀ b o,G b=some o→G1 b=some o)→inv k i G1 →
   (∀ T' G2 L2 a2 w2 c,St N [] w1 F1 G1 G2 ((l,Fv) :: L2) T' a2 w2→(∀ w3,St N [] w1 F1 G1 G2 ((l,Bv) :: L2) T' a2 w3→WP (some l) P c (B1 c) a2 w3)→Exit.then (fun a2 w2=>∃ w3,(Instr.beginRound l).run P w2=.ok () w3∧c.wpIn (FW (some l)) 0 P (B1 c) a2 w3) (fun _ _ _=>False) .normal a2 w2) →
   (∀ i' T' G2 a2 w2 c,St N [] w1 F1 G1 G2 ((l,Bv) :: (Lc++Lv (k+1) i'++(bk++Lt (k+1) i'))) T' a2 w2→inv (k+1) i' G2→B1 c .normal a2 w2) →
   (∀ x T' G2 a2 w2 c,St N [] w1 F1 G1 G2 ((l,Bv) :: (Lc++Lx x++(bk++Ef x))) T' a2 w2→zH x G2→(cx x=.ret→B1 c .ret a2 w2)∧∀ n,cx x=.exit n→B1 c (.exit n) a2 w2) →
   St N [] w1 F1 G1 G1 ((l,Fv) :: (Lc++Lv k i++(bk++Lt k i))) (Ae ps args T) a1 w1 →
   WP (some l) P assign (Exit.then (fun a2 w2=>∃ w3,(Instr.beginRound l).run P w2=.ok () w3∧body.wpIn (FW (some l)) 0 P (B1 body) a2 w3) (fun _ _ _=>False)) a1 w1)
  (hdone:∀ Dk i G1 a1 w1,(∀ b o,G b=some o→G1 b=some o)→inv xs.length i G1→St N ({ target:=.collected Dk,args:=#[] } :: D) w0 F G0 G1 ((Dk,.deferred (some [])) :: (Lc++Lv xs.length i++Lt xs.length i)) T a1 w1→Q .normal a1 w1)
  (hstop:∀ Dk x G1 a1 w1,(∀ b o,G b=some o→G1 b=some o)→zH x G1→St N ({ target:=.collected Dk,args:=#[] } :: D) w0 F G0 G1 ((Dk,.deferred (some [])) :: (Lc++Lx x++Ef x)) T a1 w1→WP none P (cx x) Q a1 w1) :
  WP none P (.rangeFunc yX ps.toArray assign body) Q a w:=by
 refine aez (J:=fun k g L=>∃ i,L=Lc++Lv k i++Lt k i∧inv k i g) (Jx:=fun c g L=>∃ x,c=cx x∧L=Lc++Lx x++Ef x∧zH x g) H hg en hit hGi hps hlen (fun k G G' L hm ⟨i,e,h⟩=>⟨i,e,hinv k i G G' hm h⟩) (fun c G G' L hm ⟨x,e1,e2,h⟩=>⟨x,e1,e2,Tp x G G' hm h⟩) ⟨i0,rfl,h0⟩ ?_ ?_ ?_
 ·rintro l q bk k args G1 L1 w1 a1 hk hm ⟨i,rfl,hi⟩ H1
  have pm:∀ A B:OL,(bk++(A++B)).Perm (A++(bk++B)):=fun A B=>by
   rw [← jd,← jd]
   exact List.Perm.append_right B uq
  refine round l (q.at .ready none) (q.at .busy none) bk k args i G1 w1 _ (fun _=>roundPost P l _) a1 hk hm hi ?_ ?_ ?_ (H1.perm (List.Perm.cons _ (pm _ _)))
  ·intro T' G2 L2 a2 w2 c H2 h
   exact Xe H2 h
  ·intro i' T' G2 a2 w2 c H2 h2
   exact Iu none (H2.perm (List.Perm.cons _ (pm _ _).symm)) ⟨_,rfl,i',rfl,h2⟩
  ·intro x T' G2 a2 w2 c H2 h2
   have H3:=H2.perm (List.Perm.cons _ (pm _ _).symm)
   refine ⟨fun e=>?_,fun n e=>?_⟩
   ·exact Iu (some .ret) H3 ⟨_,_,rfl,x,e.symm,rfl,h2⟩
   ·exact Iu (some (.exit n)) H3 ⟨_,_,rfl,x,e.symm,rfl,h2⟩
 ·rintro Dk G1 L1 a1 w1 hm ⟨i,rfl,hi⟩ H1
  exact hdone Dk i G1 a1 w1 hm hi H1
 ·rintro Dk c G1 L1 a1 w1 hm ⟨x,rfl,rfl,hx⟩ H1
  exact hstop Dk x G1 a1 w1 hm hx H1
def UD (ds:List Nat):List Deferred:=ds.map fun b=>{ target:=.collected b,args:=#[] }
def Fa (ds:List Nat):OL:=ds.map fun b=>(b,.deferred (some []))
theorem aey {r:Option Nat} {ι:Type} {c:Code} {Tc:List (Nat × aj)} {Lc:List (Nat × Obj)} (Dv:ι→List Deferred) (Tv:ι→List (Nat × aj)) (Lv:ι→List (Nat × Obj)) (Gv:ι→GH) (Pr:ι→Prop) (m:ι→Nat) (i0:ι)
  (H:St N (Dv i0) w0 F G0 (Gv i0) (Lc++Lv i0) (Tv i0++Tc) a w) (hP:Pr i0)
  (round:∀ i a w,Pr i→St N (Dv i) w0 F G0 (Gv i) (Lc++Lv i) (Tv i++Tc) a w →
   WP r P c (Exit.then (fun a' w'=>∃ i',(St N (Dv i') w0 F G0 (Gv i') (Lc++Lv i') (Tv i'++Tc) a' w'∧Pr i')∧m i' < m i) Q) a w):WP r P (.loop c) Q a w :=
 Xi (fun i a w=>St N (Dv i) w0 F G0 (Gv i) (Lc++Lv i) (Tv i++Tc) a w∧Pr i) m i0 ⟨H,hP⟩ fun i a w hI=>round i a w hI.2 hI.1
theorem aob {ι:Type} {Dv:ι→List Deferred} {Tc:List (Nat × aj)} {Lc:List (Nat × Obj)} {Tv:ι→List (Nat × aj)} {Lv:ι→List (Nat × Obj)} {Gv:ι→GH} {Pr:ι→Prop} {m:ι→Nat} {i:ι} (i':ι)
  (H:St N (Dv i') w0 F G0 (Gv i') (Lc++Lv i') (Tv i'++Tc) a w) (hP:Pr i') (hm:m i' < m i) :
  ∃ i',(St N (Dv i') w0 F G0 (Gv i') (Lc++Lv i') (Tv i'++Tc) a w∧Pr i')∧m i' < m i:=⟨i',⟨H,hP⟩,hm⟩
theorem Ur {fn:Func} {R:Ending→World→Prop} {Lh Lt:OL}:∀ (ds:List Nat) {a:Act} {w:World},St N (UD ds) w0 F G0 G (Lh++(Fa ds++Lt)) T a w →
  (∀ a' w',St N [] w0 F G0 G (Lh++Lt) T a' w'→bodyPostM (FW none) 0 P fn R .ret a' w')→bodyPostM (FW none) 0 P fn R .ret a w∧bodyPostM (FW none) 0 P fn R .normal a w
 | [],a,w,H,k=>⟨k a w H,k a w H⟩
 | b :: ds,a,w,H,k=>by
  refine Uq (b:=b) (D:=UD ds) H Lh.length (by rw [rF (bP _),Nat.sub_self];rfl) fun a' w' H'=>?_
  refine (Ur ds (Lh:=Lh) (Lt:=Lt) (H'.cast ?_) k).1
  rw [List.eraseIdx_append_of_length_le (bP _),Nat.sub_self];rfl
end
end
section
open Go.RowKit
def n1 (x:ay):Nat:=if LG x=0 then jl x else 0
theorem au.len {G:GH} {sz:Nat} {rows:List (List Dat)} {A:Option Addr} {n c:Nat} (h:au G (.sl sz rows) (.slice A n c)):n=rows.length:=h.cells.1
theorem au.at_ {G:GH} {sz:Nat} {rows:List (List Dat)} {A:Option Addr} {n c:Nat} (h:au G (.sl sz rows) (.slice A n c)):∀ k r,rows[k]?=some r→∃ b o cs,A=some ⟨b,o,none⟩∧cs.length=sz∧(∀ j u,cs[j]?=some u→aI G b (o+k*sz+j)=some u)∧aW G r cs:=by
 obtain ⟨A2,c2,e,_,_,hg⟩:=h.slice
 cases e;exact hg
theorem KS {G:GH} {l:List aX} {A:Option Addr} {k:Nat} (hk:k < l.length) (hg:∀ k r,(l.map aX.dat)[k]?=some r→∃ b o cs,A=some ⟨b,o,none⟩∧cs.length=6∧(∀ j u,cs[j]?=some u→aI G b (o+k*6+j)=some u)∧aW G r cs) :
  ∃ b o pA pn pc dA dn dc yA yn yc cA cn cc,A=some ⟨b,o,none⟩∧(∀ j u,[.slice pA pn pc,vi l[k].head.marks.ins,vi l[k].head.marks.move,.slice dA dn dc,.slice yA yn yc,.slice cA cn cc][j]?=some u→aI G b (o+k*6+j)=some u) ∧
   fC G l[k].head (.slice pA pn pc) (.slice dA dn dc) (.slice yA yn yc)∧au G (.sl 7 (l[k].cells.map bC.dat)) (.slice cA cn cc):=by
 obtain ⟨b,o,cs,h1,h2,h3,h4⟩:=hg k l[k].dat (by simp [hk]);obtain ⟨pA,pn,pc,dA,dn,dc,yA,yn,yc,cA,cn,cc,rfl,h5,h6⟩:=h4.row;exact ⟨b,o,pA,pn,pc,dA,dn,dc,yA,yn,yc,cA,cn,cc,h1,h3,h5,h6⟩
theorem Jg {G:GH} {l:List bC} {A:Option Addr} {k:Nat} (hk:k < l.length) (hg:∀ k r,(l.map bC.dat)[k]?=some r→∃ b o cs,A=some ⟨b,o,none⟩∧cs.length=7∧(∀ j u,cs[j]?=some u→aI G b (o+k*7+j)=some u)∧aW G r cs) :
  ∃ b o pA pn pc dA dn dc yA yn yc fA fn fc,A=some ⟨b,o,none⟩∧(∀ j u,[vi l[k].id,.slice pA pn pc,vi l[k].head.marks.ins,vi l[k].head.marks.move,.slice dA dn dc,.slice yA yn yc,.slice fA fn fc][j]?=some u→aI G b (o+k*7+j)=some u) ∧
   fC G l[k].head (.slice pA pn pc) (.slice dA dn dc) (.slice yA yn yc)∧au G (.sl 11 (l[k].flow.map ay.dat)) (.slice fA fn fc):=by
 obtain ⟨b,o,cs,h1,h2,h3,h4⟩:=hg k l[k].dat (by simp [hk]);obtain ⟨pA,pn,pc,dA,dn,dc,yA,yn,yc,fA,fn,fc,rfl,h5,h6⟩:=h4.cell;exact ⟨b,o,pA,pn,pc,dA,dn,dc,yA,yn,yc,fA,fn,fc,h1,h3,h5,h6⟩
end
section
open Go.RowKit
structure gy where
 (f p d y r s1 s2 s3 s4:Option Addr × Nat × Nat)
 (ins move:Int)
abbrev aM (x:Option Addr × Nat × Nat):aj:=.slice x.1 x.2.1 x.2.2
abbrev gy.cells (D:gy):List aj:=[aM D.f,aM D.p,vi D.ins,vi D.move,aM D.d,aM D.y,aM D.r,aM D.s1,aM D.s2,aM D.s3,aM D.s4]
abbrev gy.val (D:gy):aj:=.agg D.cells.toArray
end
section
open Go.RowKit
instance acL:Ty prog 129 3 16 [.bool false,.bool false,.int .i64 0] true:=⟨by kernel_rfl,by kernel_rfl⟩
instance:dS prog 68 2 2:=⟨by kernel_rfl⟩
instance:dS prog 129 2 2:=⟨by kernel_rfl⟩
theorem KY:oO prog 129 [(0,1),(1,1),(2,1)] [.bool false,.bool false,.int .i64 0]:=⟨by kernel_rfl,by kernel_rfl⟩
instance:dS prog 129 1 1:=⟨by kernel_rfl⟩
instance asb:Ty prog 4 1 1 [.bool false] false:=⟨by kernel_rfl,by kernel_rfl⟩
instance Nb:dS prog 38 0 0:=⟨by kernel_rfl⟩
structure oN where
 id:Int
 items:List ay
 body:Bool
 note:Bool
 tables:Int
mutual
def LK (note:Bool) (t:Int):ay→List oN
 | .mk k _ i _ _ f r=>if k=6 then ⟨i,f,false,true,t⟩ :: Bg true t f else if k=7 then D8 note t r else []
def Bg (note:Bool) (t:Int):List ay→List oN
 | []=>[]
 | x :: l=>LK note t x++Bg note t l
def D8 (note:Bool) (t:Int):List aX→List oN
 | []=>[]
 | r :: l=>LM note t r++D8 note t l
def LM (note:Bool) (t:Int):aX→List oN
 | .mk _ cs=>D7 note t cs
def D7 (note:Bool) (t:Int):List bC→List oN
 | []=>[]
 | c :: l=>LJ note t c++D7 note t l
def LJ (note:Bool) (t:Int):bC→List oN
 | .mk i _ f=>⟨i,f,false,note,t+1⟩ :: Bg note (t+1) f
end
def He (l:List ay):List oN:=⟨0,l,true,false,0⟩ :: Bg false 0 l
end
section
open Go.RowKit
instance fI:Ty prog 38 11 232 [.slice none 0 0,.slice none 0 0,.int .i64 0,.int .i64 0,.slice none 0 0,.slice none 0 0,.slice none 0 0,.slice none 0 0,.slice none 0 0,.slice none 0 0,.slice none 0 0] true:=⟨by kernel_rfl,by kernel_rfl⟩
end
section
open Go.RowKit
theorem Cc {α:Type} {p:α→Bool} {A:List α} {k:Nat} (hk:k < A.length) (h:(A.take k).findIdx? p=none) (hp:p A[k]=false):(A.take (k+1)).findIdx? p=none:=by
 rw [List.findIdx?_eq_none_iff] at h ⊢;rw [fQ hk];intro x hx
 rcases nW.1 hx with hx|hx
 ·exact h x hx
 rw [sS.1 hx];exact hp
theorem rW {α:Type} {p:α→Bool} {A:List α} {k:Nat} (hk:k < A.length) (h:(A.take k).findIdx? p=none) (hp:p A[k]=true):A.findIdx? p=some k:=by
 have e:A.findIdx? p=(A.take k++A.drop k).findIdx? p:=by rw [List.take_append_drop]
 rw [e,List.findIdx?_append,h,pO hk,List.findIdx?_cons,hp]
 simp;omega
end
section
open Go.RowKit
end
section
open Go.RowKit
theorem ahg:∀ args w,(callFunc 171 args).run prog w=.ok (.enter 171 args) w:=enters func171 rfl (by kernel_rfl)
def rC (fv:aj) (G:GH) (d:List Dat) (b:Bool):Prop:=∀ (G1:GH) (w1:World) (cs:List aj),(∀ b o,G b=some o→G1 b=some o)→Hold G1 w1→aW G1 d cs →
 qp prog fv [.agg cs.toArray] w1 (bB w1 G1 fun u G'=>u=.bool b)
def mJ (o:Option Nat):Int:=match o with|some i=>i|none=>-1
theorem anw (G:GH) (w0:World) (hG:Hold G w0) (l:List aX) (p:aX→Bool) (v fv:aj) (hv:au G (.sl 6 (l.map aX.dat)) v) (hf:∀ x∈l,rC fv G x.dat (p x)) :
  Calls prog 171 #[v,fv] w0 (bB w0 G fun u G'=>u=vi (mJ (l.findIdx? p))):=by
 obtain ⟨A,c,rfl,hc1,hc2,hg⟩:=hv.slice;have hml:maxLen=9223372036854775807:=rfl;rw [bM] at *;refine eN [(0,_),(1,_)] func171 rfl ntmps171 rfl rfl hG ?_;refine ak 10 ?_;intro a H;refine eH (ι:=Nat × GH) (Tc:=[(0,_),(1,_),(7,_)]) (Lc:=[]) (fun gh=>[(8,vi gh.1)]) (fun gh=>[]) (fun gh=>gh.2) (fun gh=>gh.1≤l.length∧(l.take gh.1).findIdx? p=none∧(∀ b o,G b=some o→gh.2 b=some o)) (fun gh=>l.length - gh.1) ((0,G)) sB ?_ ?_
 ·exact ⟨by omega,rfl,fun _ _ h=>h⟩
 clear H;rintro ⟨k,g⟩ a w hI H;dsimp only at hI H;obtain ⟨hk,hno,hgm⟩:=hI;dsimp only [lca,bG] at H;refine dQ 4 H ?_ ?_ <;> clear H
 ·intro p9
  have hk2:k < l.length:=by omega
  obtain ⟨b,o,cs,rfl,hcl,hrow,hrep⟩:=hg k l[k].dat (by simp [hk2]);obtain ⟨pA,pn,pc,dA,dn,dc,yA,yn,yc,fA,fn,fc,rfl,-⟩:=hrep.row;replace hrow:=fun j u hj=>aH hgm (hrow j u hj);refine ak 12 ?_;intro a H;refine aS jL (cs:=[_,_,_,_,_,_]) H wn rfl rfl (fun j v hj=>H.hp.aI (hrow j v hj)) rfl ?_;clear H;intro a H;refine ji H wn rfl rfl (hf _ (lD hk2) _ _ _ hgm H.ro (hrep.mono hgm)) rfl ?_;clear H;rintro v16 nV a w rfl jv H;refine iU 1 H ?_ ?_ <;> clear H
  ·intro h16
   try have p16:=dT h16
   refine aQ 4 ?_
   first
    | exact (by rw [rW hk2 hno h16];rfl)
    | exact (by rw [show l.take k=l from fK (by omega)] at hno;rw [hno];rfl)
  intro h16
  try have p16:=dF h16
  refine ak 4 ?_;intro a H;refine aC ?_;refine cB ((k+1,nV)) sB ?_ ?_
  ·(try dsimp only);exact ⟨by omega,Cc hk2 hno h16,fun b o h=>jv b o (hgm b o h)⟩
  first|omega|(dsimp only;omega)
 intro p9
 refine aQ 4 ?_
 first
  | exact (by rw [rW hk2 hno h16];rfl)
  | exact (by rw [show l.take k=l from fK (by omega)] at hno;rw [hno];rfl)
end
section
open Go.RowKit
def lq (p:Nat→Bool):Nat→Nat→Nat→Nat
 | 0,i,_=>i
 | f+1,i,j=>if i < j then (if p ((i+j) / 2) then lq p f i ((i+j) / 2) else lq p f ((i+j) / 2+1) j) else i
theorem TW {p:Nat→Bool} {f i j:Nat} (hf:j - i≤f) (h:i < j):lq p f i j=if p ((i+j) / 2) then lq p (f - 1) i ((i+j) / 2) else lq p (f - 1) ((i+j) / 2+1) j:=by
 match f,hf with
 | 0,hf=>omega
 | f+1,_=>rw [lq,av h];rfl
theorem TT {p:Nat→Bool} {f i j:Nat} (h:¬ i < j):lq p f i j=i:=by
 match f with
 | 0=>rfl
 | f+1=>rw [lq,ah h]
theorem Od {p:Nat→Bool}:∀ (f i j:Nat),i≤j→lq p f i j≤j
 | 0,i,j,h=>h
 | f+1,i,j,h=>by
  rw [lq]
  split
  ·split
   ·exact Nat.le_trans (Od f i _ (by omega)) (by omega)
   ·exact Od f _ j (by omega)
  ·exact h
theorem TY {z:Int} (h1:0≤z) (h2:z < 18446744073709551616):IntKind.u64.wrap z=z:=by
 simp only [IntKind.wrap,IntKind.bits,IntKind.signed,wH,rD,if_false]
 omega
theorem TU (n:Nat):((n:Nat):Int).fdiv (2 ^ 1)=((n / 2:Nat):Int):=by
 rw [Int.fdiv_eq_ediv_of_nonneg _ (by decide)];omega
def Ag (a b:Int):Int:=if a < b then -1 else if b < a then 1 else 0
theorem MU {a b:Int}:Ag a b < 0↔a < b:=by
 unfold Ag
 split
 ·simp [*]
 ·split <;> simp_all
theorem MS {a b:Int}:Ag a b=0↔a=b:=by
 unfold Ag
 split
 ·omega
 ·split <;> omega
def gX (ks:List Int) (t:Int):Nat:=lq (fun h=>decide (¬ ks.getD h 0 < t)) ks.length 0 ks.length
def mW (ks:List Int) (t:Int):Bool:=decide (ks[gX ks t]?=some t)
theorem CZ (ks:List Int) (t:Int):gX ks t≤ks.length:=Od _ _ _ (gW _)
theorem JW {ks:List Int} {t:Int} (h:mW ks t=true):gX ks t < ks.length:=by
 have:=mD h
 exact (jA.1 this).1
theorem JV {ks:List Int} {t:Int} {n:Nat} (e:gX ks t=n) (h:n < ks.length):mW ks t=decide (Ag ks[n] t=0):=by
 unfold mW
 rw [e,eO h]
 simp [MS]
theorem JX {ks:List Int} {t:Int} {n:Nat} (e:gX ks t=n) (h:¬ n < ks.length):mW ks t=false:=by
 unfold mW
 rw [e,List.getElem?_eq_none (by omega)]
 simp
theorem getD_map {α:Type} {f:α→Int} {l:List α} {n:Nat} (h:n < l.length):(l.map f).getD n 0=f l[n]:=by
 simp [List.getD,h]
end
section
open Go.RowKit
theorem acR:prog.underlying 322=some (.slice 296):=by kernel_rfl
instance:kg prog 322 (.slice 296):=⟨acR⟩
instance xw:Ty prog 296 6 56 [.int .i64 0,.int .i64 0,.int .i64 0,.int .i64 0,.int .i64 0,.string ⟨#[]⟩] true:=⟨by kernel_rfl,by kernel_rfl⟩
theorem acw:oO prog 296 [(0,1),(1,1),(2,1),(3,1),(4,1),(5,1)] [.int .i64 0,.int .i64 0,.int .i64 0,.int .i64 0,.int .i64 0,.string ⟨#[]⟩]:=⟨by kernel_rfl,by kernel_rfl⟩
theorem QY:∀ args w,(callFunc 174 args).run prog w=.ok (.enter 174 args) w:=enters func174 rfl (by kernel_rfl)
structure jN where
 num:Int
 Al:Int
 low:Int
 high:Int
 std:Int
 name:ByteArray
def jN.dat (x:jN):List Dat:=[li x.num,li x.Al,li x.low,li x.high,li x.std,.lf (.string x.name)]
def jN.cells (x:jN):List aj:=[vi x.num,vi x.Al,vi x.low,vi x.high,vi x.std,.string x.name]
def aT.cells (x:aT):List aj:=[vi x.key,vi x.value]
theorem anN (G:GH) (x:jN):aW G x.dat x.cells:=by
 simp only [jN.dat,jN.cells,aW]
 exact ⟨_,_,rfl,by simp [au,Value.oneCell'],_,_,rfl,by simp [au,Value.oneCell'],_,_,rfl,by simp [au,Value.oneCell'],_,_,rfl,by simp [au,Value.oneCell'],_,_,rfl,by simp [au,Value.oneCell'],_,_,rfl,by simp [au,Value.oneCell'],rfl⟩
theorem anM {G:GH} {x:jN} {cs:List aj} (h:aW G x.dat cs):cs=x.cells:=by
 simp only [jN.dat,aW,au] at h
 obtain ⟨v1,_,rfl,⟨rfl,-⟩,v2,_,rfl,⟨rfl,-⟩,v3,_,rfl,⟨rfl,-⟩,v4,_,rfl,⟨rfl,-⟩,v5,_,rfl,⟨rfl,-⟩,v6,_,rfl,⟨rfl,-⟩,rfl⟩:=h
 rfl
theorem apr (G:GH) (x:aT):aW G x.dat x.cells:=by
 simp only [aT.dat,aT.cells,aW]
 exact ⟨_,_,rfl,by simp [au,Value.oneCell'],_,_,rfl,by simp [au,Value.oneCell'],rfl⟩
theorem OH {G:GH} {x:aT} {cs:List aj} (h:aW G x.dat cs):cs=x.cells:=by
 simp only [aT.dat,aW,au] at h
 obtain ⟨v1,_,rfl,⟨rfl,-⟩,v2,_,rfl,⟨rfl,-⟩,rfl⟩:=h
 rfl
theorem aaG (G:GH):∀ (B A:List jN),bU G 6 (A.map jN.dat) (A.map jN.cells).flatten→bU G 6 ((A++B).map jN.dat) ((A++B).map jN.cells).flatten
 | [],A,h=>by rw [gD];exact h
 | x :: B,A,h=>by
  have h2:=h.snoc (anN G x) rfl;have h3:=aaG G B (A++[x]) (by simpa using h2)
  simpa using h3
theorem anO (G:GH) (A:List jN):bU G 6 (A.map jN.dat) (A.map jN.cells).flatten:=aaG G A [] bU.nil
theorem Uk {G:GH} {l:List jN} {A:Option Addr} {n c k:Nat} (hv:au G (.sl 6 (l.map jN.dat)) (.slice A n c)) (hk:k < l.length):∃ b o,A=some ⟨b,o,none⟩∧(∀ j u,[vi l[k].num,vi l[k].Al,vi l[k].low,vi l[k].high,vi l[k].std,.string l[k].name][j]?=some u→aI G b (o+k*6+j)=some u):=by
 obtain ⟨A',c',he,_,_,hg⟩:=hv.slice
 injection he with e1 e2 e3
 subst e1;obtain ⟨b,o,cs,h1,h2,h3,h4⟩:=hg k l[k].dat (by simp [hk]);obtain rfl:=anM h4;exact ⟨b,o,h1,h3⟩
theorem abA (G:GH):∀ (B A:List aT),bU G 2 (A.map aT.dat) (A.map aT.cells).flatten→bU G 2 ((A++B).map aT.dat) ((A++B).map aT.cells).flatten
 | [],A,h=>by rw [gD];exact h
 | x :: B,A,h=>by
  have h2:=h.snoc (apr G x) rfl;have h3:=abA G B (A++[x]) (by simpa using h2)
  simpa using h3
theorem OI (G:GH) (A:List aT):bU G 2 (A.map aT.dat) (A.map aT.cells).flatten:=abA G A [] bU.nil
theorem Fq {G:GH} {l:List aT} {A:Option Addr} {n c k:Nat} (hv:au G (.sl 2 (l.map aT.dat)) (.slice A n c)) (hk:k < l.length):∃ b o,A=some ⟨b,o,none⟩∧(∀ j u,[vi l[k].key,vi l[k].value][j]?=some u→aI G b (o+k*2+j)=some u):=by
 obtain ⟨A',c',he,_,_,hg⟩:=hv.slice
 injection he with e1 e2 e3
 subst e1;obtain ⟨b,o,cs,h1,h2,h3,h4⟩:=hg k l[k].dat (by simp [hk]);obtain rfl:=OH h4;exact ⟨b,o,h1,h3⟩
def E8:List jN:=[⟨1,1,0,1073741824,0,⟨#[99,104,97,114,97,99,116,101,114,45,115,116,121,108,101]⟩⟩,⟨2,1,0,1,0,⟨#[98,111,108,100]⟩⟩,⟨3,1,0,1,0,⟨#[105,116,97,108,105,99]⟩⟩,⟨4,1,0,3,0,⟨#[117,110,100,101,114,108,105,110,101]⟩⟩,⟨5,1,2,1638,22,⟨#[115,105,122,101]⟩⟩,⟨6,1,0,16777215,0,⟨#[99,111,108,111,114]⟩⟩,⟨7,1,0,63,0,⟨#[102,111,110,116]⟩⟩,⟨8,1,0,255,0,⟨#[108,97,110,103,117,97,103,101]⟩⟩,⟨9,1,-400,400,0,⟨#[114,97,105,115,101]⟩⟩,⟨10,1,0,1,0,⟨#[104,105,100,100,101,110]⟩⟩,⟨20,2,0,1073741824,0,⟨#[112,97,114,97,103,114,97,112,104,45,115,116,121,108,101]⟩⟩,⟨21,2,0,3,0,⟨#[97,108,105,103,110]⟩⟩,⟨22,2,-31680,31680,0,⟨#[108,101,102,116]⟩⟩,⟨23,2,-31680,31680,0,⟨#[114,105,103,104,116]⟩⟩,⟨24,2,-31680,31680,0,⟨#[102,105,114,115,116]⟩⟩,⟨25,2,0,31680,0,⟨#[98,101,102,111,114,101]⟩⟩,⟨26,2,0,31680,0,⟨#[97,102,116,101,114]⟩⟩,⟨27,2,0,31680,0,⟨#[108,101,97,100,105,110,103]⟩⟩,⟨28,2,0,1,0,⟨#[107,101,101,112,45,110,101,120,116]⟩⟩,⟨29,2,0,1,0,⟨#[107,101,101,112,45,108,105,110,101,115]⟩⟩,⟨30,2,0,1,1,⟨#[119,105,100,111,119]⟩⟩,⟨31,2,0,1,0,⟨#[112,97,103,101,45,98,101,102,111,114,101]⟩⟩,⟨32,2,0,9,0,⟨#[111,117,116,108,105,110,101]⟩⟩,⟨33,2,0,1073741824,0,⟨#[108,105,115,116]⟩⟩,⟨34,2,1,9,1,⟨#[108,101,118,101,108]⟩⟩,⟨35,2,0,32767,0,⟨#[114,101,115,116,97,114,116]⟩⟩,⟨36,2,1,31680,720,⟨#[116,97,98,45,115,116,111,112]⟩⟩,⟨37,2,0,1,0,⟨#[104,121,112,104,101,110,97,116,101]⟩⟩,⟨40,3,720,31680,12240,⟨#[112,97,103,101,45,119,105,100,116,104]⟩⟩,⟨41,3,720,31680,15840,⟨#[112,97,103,101,45,104,101,105,103,104,116]⟩⟩,⟨42,3,0,31680,1440,⟨#[116,111,112]⟩⟩,⟨43,3,0,31680,1440,⟨#[98,111,116,116,111,109]⟩⟩,⟨44,3,0,31680,1440,⟨#[105,110,110,101,114]⟩⟩,⟨45,3,0,31680,1440,⟨#[111,117,116,101,114]⟩⟩,⟨46,3,0,32767,0,⟨#[102,105,114,115,116,45,112,97,103,101]⟩⟩,⟨47,3,1,6,1,⟨#[112,97,103,101,45,102,111,114,109,97,116]⟩⟩,⟨50,4,0,1,0,⟨#[104,101,97,100,101,114]⟩⟩,⟨51,4,0,1,0,⟨#[99,97,110,116,45,115,112,108,105,116]⟩⟩,⟨52,4,0,31680,0,⟨#[114,111,119,45,104,101,105,103,104,116]⟩⟩,⟨60,5,1,32,1,⟨#[99,111,108,117,109,110,45,115,112,97,110]⟩⟩,⟨61,5,0,2,0,⟨#[118,101,114,116,105,99,97,108,45,109,101,114,103,101]⟩⟩,⟨62,5,0,31680,0,⟨#[99,101,108,108,45,119,105,100,116,104]⟩⟩,⟨63,5,0,16777215,16777215,⟨#[115,104,97,100,101]⟩⟩,⟨70,6,0,31680,0,⟨#[116,97,98,108,101,45,119,105,100,116,104]⟩⟩,⟨71,6,0,2,0,⟨#[116,97,98,108,101,45,97,108,105,103,110]⟩⟩]
set_option maxRecDepth 20000 in
theorem anP (G:GH) (w0:World) (hG:Hold G w0):Calls prog 250 #[] w0 (bB w0 G fun u G'=>au G' (.sl 6 (E8.map jN.dat)) u):=by
 refine eN [] func250 rfl ntmps250 rfl rfl hG ?_;refine ak 4 ?_;intro a H;(iterate 45 refine iy acw [_,_,_,_,_,_] H wn rfl rfl rfl rfl ?_;clear H;intro a H);refine aqu acR xw (E8.map jN.cells) H wn rfl rfl rfl rfl rfl rfl rfl ?_;clear H;intro b46 a w atC H;refine aD 2 H ?_;clear H;intro a H;refine lr H results250 rfl ?_;obtain ⟨Gz,hmz,hbz,H⟩:=H.dZ;exact H.rt (au.eX (n:=45) (cap:=45) hbz rfl (bP _) (show 45≤maxLen by decide) (fK (bP _)) (anO _ _))
theorem Uh (G:GH) (w0:World) (hG:Hold G w0) (x:Int):Calls prog 174 #[vi x] w0 (bB w0 G fun u G'=>u=.bool false∧G=G'):=by
 refine eN [(0,_)] func174 rfl ntmps174 rfl rfl hG ?_;refine aQ 9 ?_;exact ⟨by simp,rfl⟩
theorem QG {x y z:Int} (h:(x < y∧z=-1)∨(y < x∧z=1)∨(x=y∧z=0)):z=Ag x y:=by
 unfold Ag;split
 ·omega
 split <;> omega
theorem Xz (G:GH) (w0:World) (hG:Hold G w0) (x y:Int):Calls prog 253 #[vi x,vi y] w0 (bB w0 G fun u G'=>u=vi (Ag x y)):=by
 refine eN [(0,_),(1,_)] func253 rfl ntmps253 rfl rfl hG ?_;refine ak 5 ?_;intro a H;refine s_call QY H wn rfl (Uh _ _ H.ro x) rfl ?_;clear H;rintro v8 G8 a w ⟨rfl,-⟩ mG H;refine aD 4 H ?_;clear H;intro a H;refine s_call QY H wn rfl (Uh _ _ H.ro y) rfl ?_;clear H;rintro v10 zS a w ⟨rfl,-⟩ BN H;refine iU 6 H ?_ ?_ <;> clear H
 ·intro h11
  intro a H
  cases h11
 intro h11
 try have qj:=dF h11
 refine goC 5 ?_ ?_
 ·intro mU
  intro a H
  cases mU
 intro mU
 try have oJ:=dF mU
 refine goB 7 ?_ ?_
 ·intro p16
  refine aQ 3 ?_;exact (aB vi (QG (by omega)))
 intro p16
 refine goB 7 ?_ ?_
 ·intro sw
  refine aQ 3 ?_;exact (aB vi (QG (by omega)))
 intro sw
 refine aQ 4 ?_;exact (aB vi (QG (by omega)))
end
section
open Go.RowKit
def kR (l:List aT):List aj:=(l.map aT.cells).flatten
theorem QL:∀ l:List aT,(kR l).length=l.length*2
 | []=>rfl
 | p :: l=>by
  have:=QL l
  simp only [kR,fq,List.flatten_cons,iC] at this ⊢
  rw [this,show p.cells.length=2 from rfl,ku];omega
theorem Jm (l m:List aT):kR (l++m)=kR l++kR m:=by simp [kR]
theorem aps {G:GH} {l:List aT} {xs:List aj} (h:bU G 2 (l.map aT.dat) xs):xs=kR l:=by
 obtain ⟨css,rfl,h2,h3⟩:=h;rw [bM] at h2
 have e:css=l.map aT.cells:=by
  apply List.ext_getElem?
  intro j;rw [qM]
  by_cases hj:j < l.length
  ·have h4:=(h3 j l[j].dat css[j] (by simp [hj]) (eO (by omega))).1;rw [eO hj,eO (by omega),OH h4];rfl
  rw [List.getElem?_eq_none (by omega),List.getElem?_eq_none (by omega)];rfl
 rw [e];rfl
theorem afA {G:GH} {w0:World} (hO:fU G [] w0) (l:List aT) (v:aj) (hv:au G (.sl 2 (l.map aT.dat)) v) (hz:l.length≤4294967296) :
  Calls prog 168 #[v] w0 (fJ w0 G [] fun u G' L'=>bV 187 2 u l.length (kR l) L'):=by
 obtain ⟨A,c,rfl,_,_,-⟩:=hv.slice;obtain ⟨hn,hc1,hc2,hnil,hx⟩:=hv.cells;rw [bM] at *;refine jg (N:=8) (T:=[(0,_)]) func168 rfl ntmps168 rfl rfl hO ?_;refine ak 6 ?_;intro a H;refine AX iM H wn rfl rfl ?_;clear H;refine goC 1 ?_ ?_
 ·intro h4
  refine ak 3 ?_;intro a H;refine lr H results168 rfl ?_
  have e:l=[]:=by simpa using hnil (by simpa using h4)
  subst e;exact H.hp.dJ bV.nil
 intro h4
 try have p4:=dF h4
 refine ak 1 ?_
 have hA:¬ A=none:=by intro e;rw [e] at h4;cases h4
 refine ak 1 ?_;intro a H;refine AU iM gU H wn rfl ?_;clear H;intro b5 a w hb5 H;refine aD 1 H ?_;clear H
 intro a H;by_cases hr0:l=[]
 ·subst hr0;refine AQ iM gU H wn rfl rfl (bP _) rfl ?_;clear H;refine ak 2 ?_;intro a H;refine lr H results168 rfl ?_;exact H.hp.dJ bV.empty
 obtain ⟨b,o,xs,rfl,hxl,hxc,hx1,dV⟩:=hx (by simpa using hr0);obtain rfl:=aps dV;refine lJ (Li:=[]) (Lo:=[_]) (news:=kR l) iM gU rfl rfl H wn rfl rfl bV.empty hxl (fun j u hj=>H.hp.aI (hxc j u hj)) hx1 (by omega) (by omega) rfl ?_;clear H;intro v7 Lo a w hrow H;rw [fV,oF] at hrow;refine aD 2 H ?_;clear H;intro a H;refine lr H results168 rfl ?_;exact H.hp.dJ hrow
theorem abx {G:GH} {w0:World} (hO:fU G [] w0) (l:List aT) (v:aj) (hv:au G (.sl 2 (l.map aT.dat)) v) (hz:l.length≤4294967296) :
  Calls prog 159 #[v] w0 (fJ w0 G [] fun u G' L'=>bV 187 2 u l.length (kR l) L'):=by
 obtain ⟨A,c,rfl,_,_,-⟩:=hv.slice;rw [bM] at *;refine jg (N:=5) (T:=[(0,_)]) func159 rfl ntmps159 rfl rfl hO ?_;refine ak 5 ?_;intro a H;refine gF M6 (Li:=[]) (L:=[]) H wn rfl (afA (Hp.owns (Li:=[]) H.hp) l _ hv hz) rfl ?_;clear H;rintro v4 G4 L4 a w hrw Av H;dsimp only [List.nil_append] at H;obtain ⟨A4,c4,rfl,-,-⟩:=hrw.shape;refine aD 2 H ?_;clear H;intro a H;refine lr H results159 rfl ?_;exact H.hp.dJ hrw
end
section
open Go.RowKit
instance:dS prog 296 0 0:=⟨by kernel_rfl⟩
theorem Yg:∀ args w,(callFunc 253 args).run prog w=.ok (.enter 253 args) w:=enters func253 rfl (by kernel_rfl)
theorem FJ:prog.underlying 199=some (.int .u64):=by kernel_rfl
instance:kg prog 199 (.int .u64):=⟨FJ⟩
instance Db:dS prog 187 0 0:=⟨by kernel_rfl⟩
theorem aib:∀ args w,(callFunc 252 args).run prog w=.ok (.enter 252 args) w:=enters func252 rfl (by kernel_rfl)
theorem aii:∀ args w,(callFunc 261 args).run prog w=.ok (.enter 261 args) w:=enters func261 rfl (by kernel_rfl)
theorem Xk (G:GH) (w0:World) (hG:Hold G w0) (x:jN) (t:Int):qp prog (.func (.func 252) #[] #[]) [.agg x.cells.toArray,vi t] w0 (bB w0 G fun u G'=>u=vi (Ag x.num t)):=by
 refine iN (caps:=[]) aib ?_;refine eN [(0,_),(1,_)] func252 rfl ntmps252 rfl rfl hG ?_;refine ak 1 ?_;intro a H;refine dP (cs:=[_,_,_,_,_,_]) H wn rfl rfl rfl ?_;clear H;intro b2 a w hb2 H;refine aD 6 H ?_;clear H;intro a H;refine s_call Yg H wn rfl (Xz _ _ H.ro x.num t) rfl ?_;clear H;rintro v8 G8 a w rfl mG H;refine fH 2 H ?_;exact rfl
theorem ael (G:GH) (w0:World) (hG:Hold G w0) (l:List jN) (t:Int) (v:aj) (hv:au G (.sl 6 (l.map jN.dat)) v) (hl:l.length≤4294967296) :
  Calls prog 251 #[v,vi t,.func (.func 252) #[] #[]] w0 (bB w0 G fun u G'=>u=.tuple #[vi (gX (l.map jN.num) t),.bool (mW (l.map jN.num) t)]):=by
 obtain ⟨A,c,rfl,hc1,hc2,-⟩:=hv.slice;rw [bM] at *;obtain ⟨p,hp⟩:∃ p:Nat→Bool,p=fun h=>decide (¬ (l.map jN.num).getD h 0 < t):=⟨_,rfl⟩
 have hbs:gX (l.map jN.num) t=lq p l.length 0 l.length:=by rw [hp,gX,bM]
 refine eN [(0,_),(1,_),(2,_)] func251 rfl ntmps251 rfl rfl hG ?_;refine ak 16 ?_;intro a H;refine eH (ι:=Nat × Nat × Nat × GH) (Tc:=[(0,_),(1,_),(2,_),(8,_)]) (Lc:=[]) (fun gh=>[(9,vi gh.1),(10,vi gh.2.1)]) (fun gh=>[]) (fun gh=>gh.2.2.2) (fun gh=>gh.1≤gh.2.1∧gh.2.1≤l.length∧gh.2.1 - gh.1≤gh.2.2.1∧lq p gh.2.2.1 gh.1 gh.2.1=gX (l.map jN.num) t∧(∀ b o,G b=some o→gh.2.2.2 b=some o)) (fun gh=>gh.2.1 - gh.1) ((0,l.length,l.length,G)) sB ?_ ?_
 ·exact ⟨gW _,bP _,Nat.sub_le _ _,hbs.symm,fun _ _ h=>h⟩
 clear H;rintro ⟨i,j,f,g⟩ a w hI H;dsimp only at hI H;obtain ⟨hij,hj,hf1,heq,hgm⟩:=hI;have AA:=hv.mono hgm;dsimp only [lca,bG] at H;refine dQ 6 H ?_ ?_ <;> clear H
 ·intro jJ
  have hlt:i < j:=by omega
  rw [TW hf1 hlt] at heq;obtain ⟨m,hm⟩:∃ m,m=(i+j) / 2:=⟨_,rfl⟩;rw [← hm] at heq
  have hml:m < l.length:=by omega
  obtain ⟨b,o,rfl,hrow⟩:=Uk AA hml
  have hpm:p m=decide (¬ l[m].num < t):=by rw [hp];dsimp only;rw [getD_map hml]
  rw [hpm] at heq;refine ak 6 ?_;intro a H;rw [show ((i:Int)+(j:Int))=((i+j:Nat):Int) by push_cast;rfl] at H;refine AV ((i+j:Nat):Int) FJ kI H wn rfl (TY (by omega) (by omega)) rfl ?_;clear H;intro a H;refine O6 _ H wn rfl rfl rfl (by decide) rfl ?_;clear H;intro a H;rw [TU,← hm] at H;refine AV (m:Int) kI FJ H wn rfl (EX (by omega) (by omega)) rfl ?_;clear H;refine ak 7 ?_;intro a H;refine aS xw (cs:=[_,_,_,_,_,_]) H wn rfl rfl (fun j v hj=>H.hp.aI (hrow j v hj)) rfl ?_;clear H;refine ak 1 ?_;intro a H;refine ji H wn rfl rfl (Xk _ _ H.ro l[m] t) rfl ?_;clear H;rintro v30 zV a w rfl Au H;refine gQ 2 H ?_ ?_ <;> clear H
  ·intro p31
   rw [ah (by simpa using MU.1 p31)] at heq;refine ak 4 ?_;intro a H;refine aC ?_;refine cB ((m+1,j,f - 1,zV)) sB ?_ ?_
   ·(try dsimp only);exact ⟨by omega,hj,by omega,heq,fun b o h=>Au b o (hgm b o h)⟩
   first|omega|(dsimp only;omega)
  intro p31
  rw [av (by simpa using fun h=>p31 (MU.2 h))] at heq;refine ak 3 ?_;intro a H;refine aC ?_;refine cB ((i,m,f - 1,zV)) sB ?_ ?_
  ·(try dsimp only);exact ⟨by omega,by omega,by omega,heq,fun b o h=>Au b o (hgm b o h)⟩
  first|omega|(dsimp only;omega)
 intro jJ
 refine ak 1 ?_;rw [TT (by omega)] at heq;refine jV 6 39 ?_ ?_
 ·intro za
  try have p39:=dT za
  have hil:i < l.length:=by omega
  obtain ⟨b,o,rfl,hrow⟩:=Uk AA hil;refine ak 4 ?_;intro a H;refine aS xw (cs:=[_,_,_,_,_,_]) H (wg H rfl rfl za) rfl rfl (fun j v hj=>H.hp.aI (hrow j v hj)) rfl ?_;clear H;refine ak 1 ?_;intro a H;refine ji H (wg H rfl rfl za) rfl rfl (Xk _ _ H.ro l[i] t) rfl ?_;clear H;rintro v46 Wh a w rfl ZH H;refine aD 5 H ?_;clear H;intro a H;refine bZ ?_;refine (eT H results251 (.cons (bq H rfl) (.cons (bq H rfl) .nil)) ?_).1;exact H.rt (by rw [JV heq.symm (by rw [bM];omega),← heq];simp)
 intro za
 try have p39:=dF za
 refine ak 12 ?_;intro a H;refine bZ ?_;refine (eT H results251 (.cons (bq H rfl) (.cons (bq H rfl) .nil)) ?_).1;exact H.rt (by rw [JX heq.symm (by rw [bM];omega),← heq])
theorem Xl (G:GH) (w0:World) (hG:Hold G w0) (x:aT) (t:Int):qp prog (.func (.func 261) #[] #[]) [.agg x.cells.toArray,vi t] w0 (bB w0 G fun u G'=>u=vi (Ag x.key t)):=by
 refine iN (caps:=[]) aii ?_;refine eN [(0,_),(1,_)] func261 rfl ntmps261 rfl rfl hG ?_;refine ak 1 ?_;intro a H;refine dP (cs:=[_,_]) H wn rfl rfl rfl ?_;clear H;intro b2 a w hb2 H;refine aD 6 H ?_;clear H;intro a H;refine s_call Yg H wn rfl (Xz _ _ H.ro x.key t) rfl ?_;clear H;rintro v8 G8 a w rfl mG H;refine fH 2 H ?_;exact rfl
theorem aem (G:GH) (w0:World) (hG:Hold G w0) (l:List aT) (t:Int) (v:aj) (hv:au G (.sl 2 (l.map aT.dat)) v) (hl:l.length≤4294967296) :
  Calls prog 260 #[v,vi t,.func (.func 261) #[] #[]] w0 (bB w0 G fun u G'=>u=.tuple #[vi (gX (l.map aT.key) t),.bool (mW (l.map aT.key) t)]):=by
 obtain ⟨A,c,rfl,hc1,hc2,-⟩:=hv.slice;rw [bM] at *;obtain ⟨p,hp⟩:∃ p:Nat→Bool,p=fun h=>decide (¬ (l.map aT.key).getD h 0 < t):=⟨_,rfl⟩
 have hbs:gX (l.map aT.key) t=lq p l.length 0 l.length:=by rw [hp,gX,bM]
 refine eN [(0,_),(1,_),(2,_)] func260 rfl ntmps260 rfl rfl hG ?_;refine ak 16 ?_;intro a H;refine eH (ι:=Nat × Nat × Nat × GH) (Tc:=[(0,_),(1,_),(2,_),(8,_)]) (Lc:=[]) (fun gh=>[(9,vi gh.1),(10,vi gh.2.1)]) (fun gh=>[]) (fun gh=>gh.2.2.2) (fun gh=>gh.1≤gh.2.1∧gh.2.1≤l.length∧gh.2.1 - gh.1≤gh.2.2.1∧lq p gh.2.2.1 gh.1 gh.2.1=gX (l.map aT.key) t∧(∀ b o,G b=some o→gh.2.2.2 b=some o)) (fun gh=>gh.2.1 - gh.1) ((0,l.length,l.length,G)) sB ?_ ?_
 ·exact ⟨gW _,bP _,Nat.sub_le _ _,hbs.symm,fun _ _ h=>h⟩
 clear H;rintro ⟨i,j,f,g⟩ a w hI H;dsimp only at hI H;obtain ⟨hij,hj,hf1,heq,hgm⟩:=hI;have AA:=hv.mono hgm;dsimp only [lca,bG] at H;refine dQ 6 H ?_ ?_ <;> clear H
 ·intro jJ
  have hlt:i < j:=by omega
  rw [TW hf1 hlt] at heq;obtain ⟨m,hm⟩:∃ m,m=(i+j) / 2:=⟨_,rfl⟩;rw [← hm] at heq
  have hml:m < l.length:=by omega
  obtain ⟨b,o,rfl,hrow⟩:=Fq AA hml
  have hpm:p m=decide (¬ l[m].key < t):=by rw [hp];dsimp only;rw [getD_map hml]
  rw [hpm] at heq;refine ak 6 ?_;intro a H;rw [show ((i:Int)+(j:Int))=((i+j:Nat):Int) by push_cast;rfl] at H;refine AV ((i+j:Nat):Int) FJ kI H wn rfl (TY (by omega) (by omega)) rfl ?_;clear H;intro a H;refine O6 _ H wn rfl rfl rfl (by decide) rfl ?_;clear H;intro a H;rw [TU,← hm] at H;refine AV (m:Int) kI FJ H wn rfl (EX (by omega) (by omega)) rfl ?_;clear H;refine ak 7 ?_;intro a H;refine aS gU (cs:=[_,_]) H wn rfl rfl (fun j v hj=>H.hp.aI (hrow j v hj)) rfl ?_;clear H;refine ak 1 ?_;intro a H;refine ji H wn rfl rfl (Xl _ _ H.ro l[m] t) rfl ?_;clear H;rintro v30 zV a w rfl Au H;refine gQ 2 H ?_ ?_ <;> clear H
  ·intro p31
   rw [ah (by simpa using MU.1 p31)] at heq;refine ak 4 ?_;intro a H;refine aC ?_;refine cB ((m+1,j,f - 1,zV)) sB ?_ ?_
   ·(try dsimp only);exact ⟨by omega,hj,by omega,heq,fun b o h=>Au b o (hgm b o h)⟩
   first|omega|(dsimp only;omega)
  intro p31
  rw [av (by simpa using fun h=>p31 (MU.2 h))] at heq;refine ak 3 ?_;intro a H;refine aC ?_;refine cB ((i,m,f - 1,zV)) sB ?_ ?_
  ·(try dsimp only);exact ⟨by omega,by omega,by omega,heq,fun b o h=>Au b o (hgm b o h)⟩
  first|omega|(dsimp only;omega)
 intro jJ
 refine ak 1 ?_;rw [TT (by omega)] at heq;refine jV 6 39 ?_ ?_
 ·intro za
  try have p39:=dT za
  have hil:i < l.length:=by omega
  obtain ⟨b,o,rfl,hrow⟩:=Fq AA hil;refine ak 4 ?_;intro a H;refine aS gU (cs:=[_,_]) H (wg H rfl rfl za) rfl rfl (fun j v hj=>H.hp.aI (hrow j v hj)) rfl ?_;clear H;refine ak 1 ?_;intro a H;refine ji H (wg H rfl rfl za) rfl rfl (Xl _ _ H.ro l[i] t) rfl ?_;clear H;rintro v46 Wh a w rfl ZH H;refine aD 5 H ?_;clear H;intro a H;refine bZ ?_;refine (eT H results260 (.cons (bq H rfl) (.cons (bq H rfl) .nil)) ?_).1;exact H.rt (by rw [JV heq.symm (by rw [bM];omega),← heq];simp)
 intro za
 try have p39:=dF za
 refine ak 12 ?_;intro a H;refine bZ ?_;refine (eT H results260 (.cons (bq H rfl) (.cons (bq H rfl) .nil)) ?_).1;exact H.rt (by rw [JX heq.symm (by rw [bM];omega),← heq])
end
section
open Go.RowKit
theorem ahZ:∀ args w,(callFunc 250 args).run prog w=.ok (.enter 250 args) w:=enters func250 rfl (by kernel_rfl)
theorem aia:∀ args w,(callFunc 251 args).run prog w=.ok (.enter 251 args) w:=enters func251 rfl (by kernel_rfl)
theorem vk:prog.underlying 41=some (.slice 3):=by kernel_rfl
instance:kg prog 41 (.slice 3):=⟨vk⟩
theorem aic:∀ args w,(callFunc 254 args).run prog w=.ok (.enter 254 args) w:=enters func254 rfl (by kernel_rfl)
theorem Yc:∀ args w,(callFunc 226 args).run prog w=.ok (.enter 226 args) w:=enters func226 rfl (by kernel_rfl)
theorem ahP:∀ args w,(callFunc 228 args).run prog w=.ok (.enter 228 args) w:=enters func228 rfl (by kernel_rfl)
instance ajP:dS prog 296 1 1:=⟨by kernel_rfl⟩
theorem ahO:∀ args w,(callFunc 227 args).run prog w=.ok (.enter 227 args) w:=enters func227 rfl (by kernel_rfl)
instance:dS prog 296 2 2:=⟨by kernel_rfl⟩
instance:dS prog 296 3 3:=⟨by kernel_rfl⟩
def kz:jN:=⟨0,0,0,0,0,⟨#[]⟩⟩
def E5:List Int:=E8.map jN.num
def mP (k:Int):jN × Bool:=if mW E5 k=true then (E8.getD (gX E5 k) kz,true) else (kz,false)
theorem find_spec (G:GH) (w0:World) (hG:Hold G w0) (k:Int):Calls prog 226 #[vi k] w0 (bB w0 G fun u G'=>u=.tuple #[.agg (mP k).1.cells.toArray,.bool (mP k).2]):=by
 refine eN [(0,_)] func226 rfl ntmps226 rfl rfl hG ?_;refine ak 1 ?_;intro a H;refine dz xw H wn rfl ?_;clear H;intro b2 a w hb2 H;refine aD 3 H ?_;clear H;intro a H;refine s_call ahZ H wn rfl (anP _ _ H.ro) rfl ?_;clear H;rintro v7 G7 a w hv7 wS H;obtain ⟨A,c,rfl,hc1,hc2,-⟩:=hv7.slice;rw [bM] at *;refine aD 5 H ?_;clear H;intro a H;refine s_call aia H wn rfl (ael _ _ H.ro E8 k _ hv7 (by decide)) rfl ?_;clear H;rintro v11 ru a w rfl BO H;have hv7:=hv7.mono BO;have hkn:E8.map jN.num=E5:=rfl;rw [hkn] at H;obtain ⟨n,hn⟩:∃ n,n=gX E5 k:=⟨_,rfl⟩;obtain ⟨q,hq⟩:∃ q,q=mW E5 k:=⟨_,rfl⟩;rw [← hn,← hq] at H;refine aD 1 H ?_;clear H;intro a H;(iterate 2 refine jK H wn rfl rfl rfl ?_;clear H;intro a H);refine iU 8 H ?_ ?_ <;> clear H
 ·intro uJ
  refine ak 1 ?_;intro a H;refine iy acw [_,_,_,_,_,_] H wn rfl rfl rfl rfl ?_;clear H;intro a H;refine aV xw 0 (vs:=[_,_,_,_,_,_]) _ H wn rfl rfl rfl rfl rfl rfl rfl rfl ?_;clear H;intro w H;dsimp only [List.set,setRow] at H;refine aD 2 H ?_;clear H;intro a H;refine bZ ?_;refine (eT H results226 (.cons (kF xw (cs:=[_,_,_,_,_,_]) H rfl rfl (H.hp.bN 0 rfl rfl)) (.cons (bq H rfl) .nil)) ?_).1;exact H.rt (by rw [mP,ah (by rw [← hq];simpa using uJ)];rfl)
 intro uJ
 have hlt:n < E8.length:=by have:=JW (ks:=E5) (t:=k) (by rw [← hq];simpa using uJ);rw [← hn] at this;simpa [E5] using this
 obtain ⟨b,o,rfl,hrow⟩:=Uk hv7 hlt;refine ak 5 ?_;intro a H;refine aS xw (cs:=[_,_,_,_,_,_]) H wn rfl rfl (fun j v hj=>H.hp.aI (hrow j v hj)) rfl ?_;clear H;intro a H;refine aV xw 0 (vs:=[_,_,_,_,_,_]) _ H wn rfl rfl rfl rfl rfl rfl rfl rfl ?_;clear H;intro w H;dsimp only [List.set,setRow] at H;refine aD 2 H ?_;clear H;intro a H;refine bZ ?_;refine (eT H results226 (.cons (kF xw (cs:=[_,_,_,_,_,_]) H rfl rfl (H.hp.bN 0 rfl rfl)) (.cons (bq H rfl) .nil)) ?_).1;exact H.rt (by rw [mP,av (by rw [← hq];simpa using uJ),← hn,List.getD_eq_getElem?_getD,eO hlt];rfl)
def eB (e:Int):List Int:=if e=1∨e=4∨e=5∨e=6 then [1] else if e=2 then [1,2] else if e=3 then [3] else if e=7 then [6] else if e=9 then [4] else if e=10 then [5] else []
theorem fF (G:GH) (A:List Int):bU G 1 (A.map fun k=>[li k]) (A.map vi):=by
 refine ⟨A.map fun k=>[vi k],?_,by simp,fun j r cs hr hc=>?_⟩
 ·induction A with
  | nil=>rfl
  | cons a A ih=>simpa using ih
 rw [qM] at hr hc
 cases h:A[j]? with
 | none=>rw [h] at hr;cases hr
 | some x =>
  rw [h] at hr hc
  cases hr;cases hc
  exact ⟨by simp only [aW];exact ⟨_,_,rfl,by simp [au,Value.oneCell'],rfl⟩,rfl⟩
theorem aks (G:GH) (w0:World) (hG:Hold G w0) (e:Int):Calls prog 228 #[vi e] w0 (bB w0 G fun u G'=>au G' (.sl 1 ((eB e).map fun k=>[li k])) u):=by
  refine eN [(0,_)] func228 rfl ntmps228 rfl rfl hG ?_;refine goC 13 ?_ ?_
  · intro h4
    try have p4:=dT h4
    refine ak 3 ?_;intro a H;refine gJ vk bR [_] [_] H wn rfl rfl rfl rfl rfl (by intro i q h;match i,h with|0,h=>exact h|n+1,h=>simp at h) rfl rfl ?_;clear H;intro b9 a w rQ H;refine aD 2 H ?_;clear H;intro a H;refine lr H results228 rfl ?_
    first
      | exact H.rt (by rw [eB,ah (by omega),ah (by omega),ah (by omega),ah (by omega),ah (by omega),ah (by omega)];exact au.gZ rfl (by decide))
      | (obtain ⟨Gz,hmz,hbz,H⟩:=H.dZ
         first
           | exact H.rt (by rw [eB,av (by omega)];exact au.eX (n:=1) (cap:=1) hbz rfl (bP _) (show 1≤maxLen by decide) rfl (fF _ [1]))
           | exact H.rt (by rw [eB,ah (by omega),av (by omega)];exact au.eX (n:=2) (cap:=2) hbz rfl (bP _) (show 2≤maxLen by decide) rfl (fF _ [1,2]))
           | exact H.rt (by rw [eB,ah (by omega),ah (by omega),av (by omega)];exact au.eX (n:=1) (cap:=1) hbz rfl (bP _) (show 1≤maxLen by decide) rfl (fF _ [3]))
           | exact H.rt (by rw [eB,ah (by omega),ah (by omega),ah (by omega),av (by omega)];exact au.eX (n:=1) (cap:=1) hbz rfl (bP _) (show 1≤maxLen by decide) rfl (fF _ [6]))
           | exact H.rt (by rw [eB,ah (by omega),ah (by omega),ah (by omega),ah (by omega),av (by omega)];exact au.eX (n:=1) (cap:=1) hbz rfl (bP _) (show 1≤maxLen by decide) rfl (fF _ [4]))
           | exact H.rt (by rw [eB,ah (by omega),ah (by omega),ah (by omega),ah (by omega),ah (by omega),av (by omega)];exact au.eX (n:=1) (cap:=1) hbz rfl (bP _) (show 1≤maxLen by decide) rfl (fF _ [5])))
  intro h4
  try have p4:=dF h4
  refine goC 4 ?_ ?_
  · intro h4
    try have p4:=dT h4
    refine ak 3 ?_;intro a H;refine gJ vk bR [_] [_] H wn rfl rfl rfl rfl rfl (by intro i q h;match i,h with|0,h=>exact h|n+1,h=>simp at h) rfl rfl ?_;clear H;intro b9 a w rQ H;refine aD 2 H ?_;clear H;intro a H;refine lr H results228 rfl ?_
    first
      | exact H.rt (by rw [eB,ah (by omega),ah (by omega),ah (by omega),ah (by omega),ah (by omega),ah (by omega)];exact au.gZ rfl (by decide))
      | (obtain ⟨Gz,hmz,hbz,H⟩:=H.dZ
         first
           | exact H.rt (by rw [eB,av (by omega)];exact au.eX (n:=1) (cap:=1) hbz rfl (bP _) (show 1≤maxLen by decide) rfl (fF _ [1]))
           | exact H.rt (by rw [eB,ah (by omega),av (by omega)];exact au.eX (n:=2) (cap:=2) hbz rfl (bP _) (show 2≤maxLen by decide) rfl (fF _ [1,2]))
           | exact H.rt (by rw [eB,ah (by omega),ah (by omega),av (by omega)];exact au.eX (n:=1) (cap:=1) hbz rfl (bP _) (show 1≤maxLen by decide) rfl (fF _ [3]))
           | exact H.rt (by rw [eB,ah (by omega),ah (by omega),ah (by omega),av (by omega)];exact au.eX (n:=1) (cap:=1) hbz rfl (bP _) (show 1≤maxLen by decide) rfl (fF _ [6]))
           | exact H.rt (by rw [eB,ah (by omega),ah (by omega),ah (by omega),ah (by omega),av (by omega)];exact au.eX (n:=1) (cap:=1) hbz rfl (bP _) (show 1≤maxLen by decide) rfl (fF _ [4]))
           | exact H.rt (by rw [eB,ah (by omega),ah (by omega),ah (by omega),ah (by omega),ah (by omega),av (by omega)];exact au.eX (n:=1) (cap:=1) hbz rfl (bP _) (show 1≤maxLen by decide) rfl (fF _ [5])))
  intro h4
  try have p4:=dF h4
  refine goC 4 ?_ ?_
  · intro h4
    try have p4:=dT h4
    refine ak 3 ?_;intro a H;refine gJ vk bR [_] [_] H wn rfl rfl rfl rfl rfl (by intro i q h;match i,h with|0,h=>exact h|n+1,h=>simp at h) rfl rfl ?_;clear H;intro b9 a w rQ H;refine aD 2 H ?_;clear H;intro a H;refine lr H results228 rfl ?_
    first
      | exact H.rt (by rw [eB,ah (by omega),ah (by omega),ah (by omega),ah (by omega),ah (by omega),ah (by omega)];exact au.gZ rfl (by decide))
      | (obtain ⟨Gz,hmz,hbz,H⟩:=H.dZ
         first
           | exact H.rt (by rw [eB,av (by omega)];exact au.eX (n:=1) (cap:=1) hbz rfl (bP _) (show 1≤maxLen by decide) rfl (fF _ [1]))
           | exact H.rt (by rw [eB,ah (by omega),av (by omega)];exact au.eX (n:=2) (cap:=2) hbz rfl (bP _) (show 2≤maxLen by decide) rfl (fF _ [1,2]))
           | exact H.rt (by rw [eB,ah (by omega),ah (by omega),av (by omega)];exact au.eX (n:=1) (cap:=1) hbz rfl (bP _) (show 1≤maxLen by decide) rfl (fF _ [3]))
           | exact H.rt (by rw [eB,ah (by omega),ah (by omega),ah (by omega),av (by omega)];exact au.eX (n:=1) (cap:=1) hbz rfl (bP _) (show 1≤maxLen by decide) rfl (fF _ [6]))
           | exact H.rt (by rw [eB,ah (by omega),ah (by omega),ah (by omega),ah (by omega),av (by omega)];exact au.eX (n:=1) (cap:=1) hbz rfl (bP _) (show 1≤maxLen by decide) rfl (fF _ [4]))
           | exact H.rt (by rw [eB,ah (by omega),ah (by omega),ah (by omega),ah (by omega),ah (by omega),av (by omega)];exact au.eX (n:=1) (cap:=1) hbz rfl (bP _) (show 1≤maxLen by decide) rfl (fF _ [5])))
  intro h4
  try have p4:=dF h4
  refine goB 4 ?_ ?_
  · intro p4
    refine ak 1 ?_;intro a H;refine gJ vk bR [_] [_] H wn rfl rfl rfl rfl rfl (by intro i q h;match i,h with|0,h=>exact h|n+1,h=>simp at h) rfl rfl ?_;clear H;intro b9 a w rQ H;refine aD 2 H ?_;clear H;intro a H;refine lr H results228 rfl ?_
    first
      | exact H.rt (by rw [eB,ah (by omega),ah (by omega),ah (by omega),ah (by omega),ah (by omega),ah (by omega)];exact au.gZ rfl (by decide))
      | (obtain ⟨Gz,hmz,hbz,H⟩:=H.dZ
         first
           | exact H.rt (by rw [eB,av (by omega)];exact au.eX (n:=1) (cap:=1) hbz rfl (bP _) (show 1≤maxLen by decide) rfl (fF _ [1]))
           | exact H.rt (by rw [eB,ah (by omega),av (by omega)];exact au.eX (n:=2) (cap:=2) hbz rfl (bP _) (show 2≤maxLen by decide) rfl (fF _ [1,2]))
           | exact H.rt (by rw [eB,ah (by omega),ah (by omega),av (by omega)];exact au.eX (n:=1) (cap:=1) hbz rfl (bP _) (show 1≤maxLen by decide) rfl (fF _ [3]))
           | exact H.rt (by rw [eB,ah (by omega),ah (by omega),ah (by omega),av (by omega)];exact au.eX (n:=1) (cap:=1) hbz rfl (bP _) (show 1≤maxLen by decide) rfl (fF _ [6]))
           | exact H.rt (by rw [eB,ah (by omega),ah (by omega),ah (by omega),ah (by omega),av (by omega)];exact au.eX (n:=1) (cap:=1) hbz rfl (bP _) (show 1≤maxLen by decide) rfl (fF _ [4]))
           | exact H.rt (by rw [eB,ah (by omega),ah (by omega),ah (by omega),ah (by omega),ah (by omega),av (by omega)];exact au.eX (n:=1) (cap:=1) hbz rfl (bP _) (show 1≤maxLen by decide) rfl (fF _ [5])))
  intro p4
  refine goB 4 ?_ ?_
  · intro iD
    refine ak 1 ?_;intro a H;refine gJ vk bR [_,_] [_,_] H wn rfl rfl rfl rfl rfl (by intro i q h;match i,h with|0,h=>exact h|1,h=>exact h|n+2,h=>simp at h) rfl rfl ?_;clear H;intro b12 a w EB H;refine aD 2 H ?_;clear H;intro a H;refine lr H results228 rfl ?_
    first
      | exact H.rt (by rw [eB,ah (by omega),ah (by omega),ah (by omega),ah (by omega),ah (by omega),ah (by omega)];exact au.gZ rfl (by decide))
      | (obtain ⟨Gz,hmz,hbz,H⟩:=H.dZ
         first
           | exact H.rt (by rw [eB,av (by omega)];exact au.eX (n:=1) (cap:=1) hbz rfl (bP _) (show 1≤maxLen by decide) rfl (fF _ [1]))
           | exact H.rt (by rw [eB,ah (by omega),av (by omega)];exact au.eX (n:=2) (cap:=2) hbz rfl (bP _) (show 2≤maxLen by decide) rfl (fF _ [1,2]))
           | exact H.rt (by rw [eB,ah (by omega),ah (by omega),av (by omega)];exact au.eX (n:=1) (cap:=1) hbz rfl (bP _) (show 1≤maxLen by decide) rfl (fF _ [3]))
           | exact H.rt (by rw [eB,ah (by omega),ah (by omega),ah (by omega),av (by omega)];exact au.eX (n:=1) (cap:=1) hbz rfl (bP _) (show 1≤maxLen by decide) rfl (fF _ [6]))
           | exact H.rt (by rw [eB,ah (by omega),ah (by omega),ah (by omega),ah (by omega),av (by omega)];exact au.eX (n:=1) (cap:=1) hbz rfl (bP _) (show 1≤maxLen by decide) rfl (fF _ [4]))
           | exact H.rt (by rw [eB,ah (by omega),ah (by omega),ah (by omega),ah (by omega),ah (by omega),av (by omega)];exact au.eX (n:=1) (cap:=1) hbz rfl (bP _) (show 1≤maxLen by decide) rfl (fF _ [5])))
  intro iD
  refine goB 4 ?_ ?_
  · intro oJ
    refine ak 1 ?_;intro a H;refine gJ vk bR [_] [_] H wn rfl rfl rfl rfl rfl (by intro i q h;match i,h with|0,h=>exact h|n+1,h=>simp at h) rfl rfl ?_;clear H;intro b15 a w alg H;refine aD 2 H ?_;clear H;intro a H;refine lr H results228 rfl ?_
    first
      | exact H.rt (by rw [eB,ah (by omega),ah (by omega),ah (by omega),ah (by omega),ah (by omega),ah (by omega)];exact au.gZ rfl (by decide))
      | (obtain ⟨Gz,hmz,hbz,H⟩:=H.dZ
         first
           | exact H.rt (by rw [eB,av (by omega)];exact au.eX (n:=1) (cap:=1) hbz rfl (bP _) (show 1≤maxLen by decide) rfl (fF _ [1]))
           | exact H.rt (by rw [eB,ah (by omega),av (by omega)];exact au.eX (n:=2) (cap:=2) hbz rfl (bP _) (show 2≤maxLen by decide) rfl (fF _ [1,2]))
           | exact H.rt (by rw [eB,ah (by omega),ah (by omega),av (by omega)];exact au.eX (n:=1) (cap:=1) hbz rfl (bP _) (show 1≤maxLen by decide) rfl (fF _ [3]))
           | exact H.rt (by rw [eB,ah (by omega),ah (by omega),ah (by omega),av (by omega)];exact au.eX (n:=1) (cap:=1) hbz rfl (bP _) (show 1≤maxLen by decide) rfl (fF _ [6]))
           | exact H.rt (by rw [eB,ah (by omega),ah (by omega),ah (by omega),ah (by omega),av (by omega)];exact au.eX (n:=1) (cap:=1) hbz rfl (bP _) (show 1≤maxLen by decide) rfl (fF _ [4]))
           | exact H.rt (by rw [eB,ah (by omega),ah (by omega),ah (by omega),ah (by omega),ah (by omega),av (by omega)];exact au.eX (n:=1) (cap:=1) hbz rfl (bP _) (show 1≤maxLen by decide) rfl (fF _ [5])))
  intro oJ
  refine goB 4 ?_ ?_
  · intro p16
    refine ak 1 ?_;intro a H;refine gJ vk bR [_] [_] H wn rfl rfl rfl rfl rfl (by intro i q h;match i,h with|0,h=>exact h|n+1,h=>simp at h) rfl rfl ?_;clear H;intro b18 a w JY H;refine aD 2 H ?_;clear H;intro a H;refine lr H results228 rfl ?_
    first
      | exact H.rt (by rw [eB,ah (by omega),ah (by omega),ah (by omega),ah (by omega),ah (by omega),ah (by omega)];exact au.gZ rfl (by decide))
      | (obtain ⟨Gz,hmz,hbz,H⟩:=H.dZ
         first
           | exact H.rt (by rw [eB,av (by omega)];exact au.eX (n:=1) (cap:=1) hbz rfl (bP _) (show 1≤maxLen by decide) rfl (fF _ [1]))
           | exact H.rt (by rw [eB,ah (by omega),av (by omega)];exact au.eX (n:=2) (cap:=2) hbz rfl (bP _) (show 2≤maxLen by decide) rfl (fF _ [1,2]))
           | exact H.rt (by rw [eB,ah (by omega),ah (by omega),av (by omega)];exact au.eX (n:=1) (cap:=1) hbz rfl (bP _) (show 1≤maxLen by decide) rfl (fF _ [3]))
           | exact H.rt (by rw [eB,ah (by omega),ah (by omega),ah (by omega),av (by omega)];exact au.eX (n:=1) (cap:=1) hbz rfl (bP _) (show 1≤maxLen by decide) rfl (fF _ [6]))
           | exact H.rt (by rw [eB,ah (by omega),ah (by omega),ah (by omega),ah (by omega),av (by omega)];exact au.eX (n:=1) (cap:=1) hbz rfl (bP _) (show 1≤maxLen by decide) rfl (fF _ [4]))
           | exact H.rt (by rw [eB,ah (by omega),ah (by omega),ah (by omega),ah (by omega),ah (by omega),av (by omega)];exact au.eX (n:=1) (cap:=1) hbz rfl (bP _) (show 1≤maxLen by decide) rfl (fF _ [5])))
  intro p16
  refine goB 4 ?_ ?_
  · intro sw
    refine ak 1 ?_;intro a H;refine gJ vk bR [_] [_] H wn rfl rfl rfl rfl rfl (by intro i q h;match i,h with|0,h=>exact h|n+1,h=>simp at h) rfl rfl ?_;clear H;intro b21 a w atv H;refine aD 2 H ?_;clear H;intro a H;refine lr H results228 rfl ?_
    first
      | exact H.rt (by rw [eB,ah (by omega),ah (by omega),ah (by omega),ah (by omega),ah (by omega),ah (by omega)];exact au.gZ rfl (by decide))
      | (obtain ⟨Gz,hmz,hbz,H⟩:=H.dZ
         first
           | exact H.rt (by rw [eB,av (by omega)];exact au.eX (n:=1) (cap:=1) hbz rfl (bP _) (show 1≤maxLen by decide) rfl (fF _ [1]))
           | exact H.rt (by rw [eB,ah (by omega),av (by omega)];exact au.eX (n:=2) (cap:=2) hbz rfl (bP _) (show 2≤maxLen by decide) rfl (fF _ [1,2]))
           | exact H.rt (by rw [eB,ah (by omega),ah (by omega),av (by omega)];exact au.eX (n:=1) (cap:=1) hbz rfl (bP _) (show 1≤maxLen by decide) rfl (fF _ [3]))
           | exact H.rt (by rw [eB,ah (by omega),ah (by omega),ah (by omega),av (by omega)];exact au.eX (n:=1) (cap:=1) hbz rfl (bP _) (show 1≤maxLen by decide) rfl (fF _ [6]))
           | exact H.rt (by rw [eB,ah (by omega),ah (by omega),ah (by omega),ah (by omega),av (by omega)];exact au.eX (n:=1) (cap:=1) hbz rfl (bP _) (show 1≤maxLen by decide) rfl (fF _ [4]))
           | exact H.rt (by rw [eB,ah (by omega),ah (by omega),ah (by omega),ah (by omega),ah (by omega),av (by omega)];exact au.eX (n:=1) (cap:=1) hbz rfl (bP _) (show 1≤maxLen by decide) rfl (fF _ [5])))
  intro sw
  refine goB 4 ?_ ?_
  · intro iY
    refine ak 1 ?_;intro a H;refine gJ vk bR [_] [_] H wn rfl rfl rfl rfl rfl (by intro i q h;match i,h with|0,h=>exact h|n+1,h=>simp at h) rfl rfl ?_;clear H;intro b24 a w atx H;refine aD 2 H ?_;clear H;intro a H;refine lr H results228 rfl ?_
    first
      | exact H.rt (by rw [eB,ah (by omega),ah (by omega),ah (by omega),ah (by omega),ah (by omega),ah (by omega)];exact au.gZ rfl (by decide))
      | (obtain ⟨Gz,hmz,hbz,H⟩:=H.dZ
         first
           | exact H.rt (by rw [eB,av (by omega)];exact au.eX (n:=1) (cap:=1) hbz rfl (bP _) (show 1≤maxLen by decide) rfl (fF _ [1]))
           | exact H.rt (by rw [eB,ah (by omega),av (by omega)];exact au.eX (n:=2) (cap:=2) hbz rfl (bP _) (show 2≤maxLen by decide) rfl (fF _ [1,2]))
           | exact H.rt (by rw [eB,ah (by omega),ah (by omega),av (by omega)];exact au.eX (n:=1) (cap:=1) hbz rfl (bP _) (show 1≤maxLen by decide) rfl (fF _ [3]))
           | exact H.rt (by rw [eB,ah (by omega),ah (by omega),ah (by omega),av (by omega)];exact au.eX (n:=1) (cap:=1) hbz rfl (bP _) (show 1≤maxLen by decide) rfl (fF _ [6]))
           | exact H.rt (by rw [eB,ah (by omega),ah (by omega),ah (by omega),ah (by omega),av (by omega)];exact au.eX (n:=1) (cap:=1) hbz rfl (bP _) (show 1≤maxLen by decide) rfl (fF _ [4]))
           | exact H.rt (by rw [eB,ah (by omega),ah (by omega),ah (by omega),ah (by omega),ah (by omega),av (by omega)];exact au.eX (n:=1) (cap:=1) hbz rfl (bP _) (show 1≤maxLen by decide) rfl (fF _ [5])))
  intro iY
  refine ak 4 ?_;intro a H;refine lr H results228 rfl ?_
  first
    | exact H.rt (by rw [eB,ah (by omega),ah (by omega),ah (by omega),ah (by omega),ah (by omega),ah (by omega)];exact au.gZ rfl (by decide))
    | (obtain ⟨Gz,hmz,hbz,H⟩:=H.dZ
       first
         | exact H.rt (by rw [eB,av (by omega)];exact au.eX (n:=1) (cap:=1) hbz rfl (bP _) (show 1≤maxLen by decide) rfl (fF _ [1]))
         | exact H.rt (by rw [eB,ah (by omega),av (by omega)];exact au.eX (n:=2) (cap:=2) hbz rfl (bP _) (show 2≤maxLen by decide) rfl (fF _ [1,2]))
         | exact H.rt (by rw [eB,ah (by omega),ah (by omega),av (by omega)];exact au.eX (n:=1) (cap:=1) hbz rfl (bP _) (show 1≤maxLen by decide) rfl (fF _ [3]))
         | exact H.rt (by rw [eB,ah (by omega),ah (by omega),ah (by omega),av (by omega)];exact au.eX (n:=1) (cap:=1) hbz rfl (bP _) (show 1≤maxLen by decide) rfl (fF _ [6]))
         | exact H.rt (by rw [eB,ah (by omega),ah (by omega),ah (by omega),ah (by omega),av (by omega)];exact au.eX (n:=1) (cap:=1) hbz rfl (bP _) (show 1≤maxLen by decide) rfl (fF _ [4]))
         | exact H.rt (by rw [eB,ah (by omega),ah (by omega),ah (by omega),ah (by omega),ah (by omega),av (by omega)];exact au.eX (n:=1) (cap:=1) hbz rfl (bP _) (show 1≤maxLen by decide) rfl (fF _ [5])))
theorem anE {G:GH} {l:List Int} {A:Option Addr} {n c k:Nat} (hv:au G (.sl 1 (l.map fun k=>[li k])) (.slice A n c)) (hk:k < l.length):∃ b o,A=some ⟨b,o,none⟩∧aI G b (o+k*1)=some (vi l[k]):=by
 obtain ⟨A',c',he,_,_,hg⟩:=hv.slice
 injection he with e1 e2 e3
 subst e1;obtain ⟨b,o,cs,h1,h2,h3,h4⟩:=hg k [li l[k]] (by simp [hk])
 simp only [aW,au] at h4
 obtain ⟨v1,_,rfl,⟨rfl,-⟩,rfl⟩:=h4;exact ⟨b,o,h1,h3 0 _ rfl⟩
theorem anz (G:GH) (w0:World) (hG:Hold G w0) (l:List Int) (t:Int) (v:aj) (hv:au G (.sl 1 (l.map fun k=>[li k])) v) :
  Calls prog 254 #[v,vi t] w0 (bB w0 G fun u G'=>u=vi (mJ (l.findIdx? fun x=>decide (t=x)))):=by
 obtain ⟨A,c,rfl,hc1,hc2,-⟩:=hv.slice;have hml:maxLen=9223372036854775807:=rfl;rw [bM] at *;refine eN [(0,_),(1,_)] func254 rfl ntmps254 rfl rfl hG ?_;refine ak 10 ?_;intro a H;refine eH (ι:=Nat) (Tc:=[(0,_),(1,_),(7,_)]) (Lc:=[]) (fun gh=>[(8,vi gh)]) (fun gh=>[]) (fun gh=>G) (fun gh=>gh≤l.length∧(l.take gh).findIdx? (fun x=>decide (t=x))=none) (fun gh=>l.length - gh) (0) sB ?_ ?_
 ·exact ⟨gW _,rfl⟩
 clear H;intro k a w hI H;obtain ⟨hk,hno⟩:=hI;dsimp only [lca,bG] at H;refine dQ 4 H ?_ ?_ <;> clear H
 ·intro p9
  have hk2:k < l.length:=by omega
  obtain ⟨b,o,rfl,hrow⟩:=anE hv hk2;refine goB 15 ?_ ?_
  ·intro p16
   refine aQ 4 ?_;rw [rW hk2 hno (by simpa using p16)];rfl
  intro p16
  refine ak 4 ?_;intro a H;refine aC ?_;refine cB ((k+1)) sB ?_ ?_
  ·exact ⟨by omega,Cc hk2 hno (by simpa using p16)⟩
  first|omega|(dsimp only;omega)
 intro p9
 refine aQ 4 ?_;rw [show l.take k=l from fK (by omega)] at hno;rw [hno];rfl
theorem afM (G:GH) (w0:World) (hG:Hold G w0) (l:List Int) (t:Int) (v:aj) (hv:au G (.sl 1 (l.map fun k=>[li k])) v) :
  Calls prog 227 #[v,vi t] w0 (bB w0 G fun u G'=>u=.bool (decide (t∈l))):=by
 obtain ⟨A,c,rfl,hc1,hc2,-⟩:=hv.slice;rw [bM] at *;refine eN [(0,_),(1,_)] func227 rfl ntmps227 rfl rfl hG ?_;refine ak 6 ?_;intro a H;refine s_call aic H wn rfl (anz _ _ H.ro l t _ hv) rfl ?_;clear H;rintro v7 G7 a w rfl wS H;refine fH 3 H ?_;exact (by
  congr 1
  cases h:l.findIdx? (fun x=>decide (t=x)) with
  | none =>
   rw [List.findIdx?_eq_none_iff] at h;have:t∉l:=fun hm=>absurd (h t hm) (by simp)
   simp [mJ,this]
  | some i =>
   obtain ⟨hi,he,-⟩:=List.findIdx?_eq_some_iff_getElem.1 h
   have:t∈l:=by rw [mD he];exact lD _
   simp [mJ,this])
def rO (e k:Int):Bool:=(mP k).2 && decide ((mP k).1.Al∈eB e)
theorem YQ (G:GH) (w0:World) (hG:Hold G w0) (e k:Int):Calls prog 194 #[vi e,vi k] w0 (bB w0 G fun u G'=>u=.bool (rO e k)):=by
 refine eN [(0,_),(1,_)] func194 rfl ntmps194 rfl rfl hG ?_;refine ak 5 ?_;intro a H;refine s_call Yc H wn rfl (find_spec _ _ H.ro k) rfl ?_;clear H;rintro v9 G9 a w rfl wT H;dsimp only [jN.cells] at H;refine aD 1 H ?_;clear H;intro a H;(iterate 2 refine jK H wn rfl rfl rfl ?_;clear H;intro a H);refine dz xw H wn rfl ?_;clear H;intro b5 a w hb5 H;refine aV xw 0 (vs:=[_,_,_,_,_,_]) _ H wn rfl rfl rfl rfl rfl rfl rfl rfl ?_;clear H;intro w H;dsimp only [List.set,setRow] at H;refine aD 3 H ?_;clear H
 intro a H;by_cases c0:(mP k).2=true
 ·skip
  have pE:∀ (aP:Nat) (v:aj) (G G':GH),(∀ k o,G k=some o→G' k=some o)→(fun (aP:Nat) (v:aj) (G:GH)=>match aP with|0=>v=.bool (mP k).2|1=>v=.bool (decide ((mP k).2=true))|2=>v=vi e|3=>(mP k).2=true→au G (.sl 1 ((eB e).map fun k=>[li k])) v|4=>v=(aG b5 1)|5=>v=vi (mP k).1.Al|6=>v=.bool (decide ((mP k).1.Al∈eB e))|7=>v=.bool (rO e k)|_=>True) aP v G→(fun (aP:Nat) (v:aj) (G:GH)=>match aP with|0=>v=.bool (mP k).2|1=>v=.bool (decide ((mP k).2=true))|2=>v=vi e|3=>(mP k).2=true→au G (.sl 1 ((eB e).map fun k=>[li k])) v|4=>v=(aG b5 1)|5=>v=vi (mP k).1.Al|6=>v=.bool (decide ((mP k).1.Al∈eB e))|7=>v=.bool (rO e k)|_=>True) aP v G':=by
   intro aP v G G' hm h
   match aP,h with
   | 0,h=>exact h
   | 1,h=>exact h
   | 2,h=>exact h
   | 3,h=>exact fun hf=>(h hf).mono hm
   | 4,h=>exact h
   | 5,h=>exact h
   | 6,h=>exact h
   | 7,h=>exact h
   | 8,h=>exact trivial
   | _+9,h=>exact trivial
  refine yR (hmx) [[],[0],[0,1],[0,1,2],[0,1],[0,1,4],(ra 0 6),(ra 0 7),(ra 0 8)] [8] (by kernel_rfl) (by kernel_rfl) (fun (aP:Nat) (v:aj) (G:GH)=>match aP with|0=>v=.bool (mP k).2|1=>v=.bool (decide ((mP k).2=true))|2=>v=vi e|3=>(mP k).2=true→au G (.sl 1 ((eB e).map fun k=>[li k])) v|4=>v=(aG b5 1)|5=>v=vi (mP k).1.Al|6=>v=.bool (decide ((mP k).1.Al∈eB e))|7=>v=.bool (rO e k)|_=>True) pE H ?_ ?_
  ·clear H;refine aF ?_ ?_ ?_ ?_ (aF ?_ ?_ ?_ ?_ (bH (bQ rfl) cZ))
   ·refine dB [] rfl trivial (by kernel_rfl) pE rfl rfl ?_;intro aR a w G1 hG HT H fin;exact kH H (Rm rfl fun _ H=>fin H iJ rfl)
   ·refine dB [(0,12,_)] rfl ⟨fun _ _ h=>h,aU⟩ (by kernel_rfl) pE rfl rfl ?_;intro aR a w G1 hG HT H fin;refine aD 1 H ?_;clear H;intro a H;exact fin H iJ (by simp)
   ·refine dB [(1,13,_)] rfl ⟨fun _ _ h=>h,aU⟩ (by kernel_rfl) pE rfl rfl ?_;intro aR a w G1 hG HT H fin;exact kH H (YM (aK c0) rfl fun _ H=>fin H iJ rfl)
   ·refine dB [(2,14,_),(1,13,_)] rfl ⟨fun _ _ h=>h,fun _ _ h=>h,aU⟩ (by kernel_rfl) pE rfl rfl ?_;intro aR a w G1 hG HT H fin;refine s_call ahP H (wg H rfl rfl (aK c0)) rfl (aks _ _ H.ro e) rfl ?_;clear H;rintro v15 Bn a w Du BI H;exact fin H BI (by first|exact fun _=>Du|rfl)
   ·refine dB [(1,13,_)] rfl ⟨fun _ _ h=>h,aU⟩ (by kernel_rfl) pE rfl rfl ?_;intro aR a w G1 hG HT H fin;exact kH H (YF ajP (aK c0) rfl fun _ H=>fin H iJ rfl)
   ·refine dB [(4,16,_),(1,13,_)] rfl ⟨fun _ _ h=>h,fun _ _ h=>h,aU⟩ (by kernel_rfl) pE rfl rfl ?_;intro aR a w G1 hG HT H fin;exact kH H (YO bR 0 (aK c0) rfl fun _ H=>fin H iJ rfl)
   ·intro aR a w G1 _ aL hc hG HT hv;have H:=HT;clear aL;obtain ⟨u15,ana,Du⟩:=hv 3 15 (hc 3 (by decide)) rfl;(try dsimp only at Du);have H:=H.gV ana;have H:=H.aN (hv 5 17 (hc 5 (by decide)) rfl) rfl;have H:=H.aN (hv 1 13 (hc 1 (by decide)) rfl) rfl;have Hb:=H.full;have H:=Hb;clear hc;refine s_call ahO H (wg H rfl rfl (aK c0)) rfl (afM _ _ H.ro _ _ _ (Du c0)) rfl ?_;clear H;rintro v18 PV a w rfl akx H;refine aC ⟨rfl,?_⟩;exact dG (by kernel_rfl) pE rfl rfl HT Hb hG hv akx (rfl) H
   refine dB [(1,13,_),(6,18,_)] rfl ⟨fun _ _ h=>h,fun _ _ h=>h,aU⟩ (by kernel_rfl) pE rfl rfl ?_;intro aR a w G1 hG HT H fin;refine aD 1 H ?_;clear H;intro a H;exact fin H iJ (by unfold rO;simp_all)
  clear H;intro a w G BJ H hv;have H:=H.aN (hv 7 19 rfl rfl) rfl;clear hv;refine t1 2 H ?_;clear H;refine aQ 0 ?_;exact rfl
 refine dI hmx [[],[0],[0,1],[0,1,2],[0,1],[0,1,4],(ra 0 6),(ra 0 7),(ra 0 8)] [8] (by kernel_rfl) [_,.bool (decide ((mP k).2=true)),undef,undef,undef,undef,undef,.bool (rO e k)] H (aF (Z0 rfl (Rm rfl)) ?_ (aZ 1 (bD c0) rfl rfl) ?_ (aF (aZ 1 (bD c0) rfl rfl) (aZ 1 (bD c0) rfl rfl) (aZ 1 (bD c0) rfl rfl) ?_ (bH (bQ rfl) cZ))) ?_
 ·refine eu 0 12 rfl rfl fun _ a w G1 hG HT H fin=>?_;refine aD 1 H ?_;clear H;intro a H;exact fin H iJ (by show _=_;simp)
 ·intro aR a w G1 _ aL hc hG HT hv;have H:=HT;clear aL;have H:=H.aN (hv 2 14 (hc 2 (by decide)) rfl) rfl;have H:=H.aN (hv 1 13 (hc 1 (by decide)) rfl) rfl;have Hb:=H.full;have H:=Hb;clear hc;refine aD 1 H ?_;clear H;intro a H;refine aC ⟨rfl,?_⟩;exact dG (by kernel_rfl) (fun _ _ _ _ _ h=>h) rfl rfl HT Hb hG hv (fun _ _ h=>h) (by first|exact fun _=>Du|rfl) H
 ·refine dH 1 13 6 18 rfl rfl fun _ a w G1 hG HT H fin=>?_;refine aD 1 H ?_;clear H;intro a H;exact fin H iJ (by show _=_;unfold rO;simp_all)
 clear H;intro a w G BJ H hv;have H:=H.aN (hv 7 19 rfl rfl) rfl;clear hv;refine t1 2 H ?_;clear H;refine aQ 0 ?_;exact rfl
def rG (k v:Int):Int:=if (mP k).2=false then 4 else if v < (mP k).1.low∨(mP k).1.high < v then 5 else 0
theorem Qx (G:GH) (w0:World) (hG:Hold G w0) (k x:Int):Calls prog 195 #[vi k,vi x] w0 (bB w0 G fun u G'=>u=vi (rG k x)):=by
 refine eN [(0,_),(1,_)] func195 rfl ntmps195 rfl rfl hG ?_;refine ak 5 ?_;intro a H;refine s_call Yc H wn rfl (find_spec _ _ H.ro k) rfl ?_;clear H;rintro v9 G9 a w rfl wT H;dsimp only [jN.cells] at H;refine aD 1 H ?_;clear H;intro a H;(iterate 2 refine jK H wn rfl rfl rfl ?_;clear H;intro a H);refine dz xw H wn rfl ?_;clear H;intro b5 a w hb5 H;refine aV xw 0 (vs:=[_,_,_,_,_,_]) _ H wn rfl rfl rfl rfl rfl rfl rfl rfl ?_;clear H;intro w H;dsimp only [List.set,setRow] at H;refine gQ 9 H ?_ ?_ <;> clear H
 ·intro pI
  refine aQ 3 ?_;unfold rG;simp_all
 intro pI
 refine lT 6 20 ?_ ?_
 ·intro Ck
  refine aQ 11 ?_;unfold rG;simp_all
 intro Ck
 refine goB 7 ?_ ?_
 ·intro qX
  refine aQ 3 ?_;unfold rG;simp_all
 intro qX
 refine aQ 4 ?_;unfold rG;simp_all
end
section
open Go.RowKit
theorem X9:∀ args w,(callFunc 194 args).run prog w=.ok (.enter 194 args) w:=enters func194 rfl (by kernel_rfl)
instance:dS prog 187 1 1:=⟨by kernel_rfl⟩
theorem Q7:∀ args w,(callFunc 195 args).run prog w=.ok (.enter 195 args) w:=enters func195 rfl (by kernel_rfl)
theorem aif:∀ args w,(callFunc 260 args).run prog w=.ok (.enter 260 args) w:=enters func260 rfl (by kernel_rfl)
theorem Q9:∀ args w,(callFunc 240 args).run prog w=.ok (.enter 240 args) w:=enters func240 rfl (by kernel_rfl)
def DF (q:Option Int) (k:Int):Bool:=match q with|some j=>decide (k < j)|none=>false
def xP (e:Int):Option Int→List aT→Int
 | _,[]=>0
 | q,p :: r=>if rO e p.key=false then 4 else if q=some p.key then 7 else if DF q p.key=true then 6 else if rG p.key p.value=0 then xP e (some p.key) r else rG p.key p.value
def zK (l:List aT) (k:Nat):Option Int:=if k=0 then none else l[k - 1]?.map aT.key
def gN (e:Int) (l:List aT):Int:=if e < 1∨10 < e then 3 else xP e none l
theorem afg {e:Int} {l:List aT} {k:Nat} (h:k < l.length):xP e (zK l k) (l.drop k)=if rO e l[k].key=false then 4 else if zK l k=some l[k].key then 7 else if DF (zK l k) l[k].key=true then 6 else if rG l[k].key l[k].value=0 then xP e (zK l (k+1)) (l.drop (k+1)) else rG l[k].key l[k].value:=by
 rw [pO h,xP]
 have:zK l (k+1)=some l[k].key:=by rw [zK,ah (by omega),Nat.add_sub_cancel,eO h];rfl
 rw [this]
theorem OE {l:List aT} {k:Nat} (h:k=0):zK l k=none:=av h
theorem abz (G:GH) (w0:World) (hG:Hold G w0) (e:Int) (l:List aT) (v:aj) (hv:au G (.sl 2 (l.map aT.dat)) v) :
  Calls prog 129 #[vi e,v] w0 (bB w0 G fun u G'=>u=vi (gN e l)):=by
 obtain ⟨A,c,rfl,hc1,hc2,-⟩:=hv.slice;have hml:maxLen=9223372036854775807:=rfl;rw [bM] at *;refine eN [(0,_),(1,_)] func129 rfl ntmps129 rfl rfl hG ?_;refine lT 8 10 ?_ ?_
 ·intro iD
  refine aQ 8 ?_
  first
   | exact (aB vi (by rw [ah (by simpa using p61)] at heq;rw [gN,ah (by omega)];exact heq))
   | exact (aB vi (by rw [av (by simpa using h21)] at heq;rw [gN,ah (by omega)];exact heq))
   | exact (aB vi (by rw [gN,ah (by omega)];exact heq))
   | exact (aB vi (by rw [gN,ah (by omega),← heq,show l.drop k=[] from kC (by omega)];rfl))
   | exact (aB vi (by rw [gN,av (by omega)]))
 intro iD
 refine goB 4 ?_ ?_
 ·intro oJ
  refine aQ 3 ?_
  first
   | exact (aB vi (by rw [ah (by simpa using p61)] at heq;rw [gN,ah (by omega)];exact heq))
   | exact (aB vi (by rw [av (by simpa using h21)] at heq;rw [gN,ah (by omega)];exact heq))
   | exact (aB vi (by rw [gN,ah (by omega)];exact heq))
   | exact (aB vi (by rw [gN,ah (by omega),← heq,show l.drop k=[] from kC (by omega)];rfl))
   | exact (aB vi (by rw [gN,av (by omega)]))
 intro oJ
 refine ak 8 ?_;intro a H;refine eH (ι:=Nat × GH) (Tc:=[(0,_),(1,_),(14,_),(15,_)]) (Lc:=[]) (fun gh=>[(16,vi gh.1)]) (fun gh=>[]) (fun gh=>gh.2) (fun gh=>gh.1≤l.length∧xP e (zK l gh.1) (l.drop gh.1)=xP e none l∧(∀ b o,G b=some o→gh.2 b=some o)) (fun gh=>l.length - gh.1) ((0,G)) sB ?_ ?_
 ·exact ⟨gW _,rfl,fun _ _ h=>h⟩
 clear H;rintro ⟨k,g⟩ a w hI H;dsimp only at hI H;obtain ⟨hk,heq,hgm⟩:=hI;dsimp only [lca,bG] at H;refine dQ 4 H ?_ ?_ <;> clear H
 ·intro jJ
  have hk2:k < l.length:=by omega
  have AA:=hv.mono hgm;obtain ⟨b,o,rfl,hrow⟩:=Fq AA hk2
  obtain ⟨pk,hpk⟩:∃ pk,0 < k→aI g b (o+(k - 1)*2+0)=some (vi pk)∧zK l k=some pk:=by
   by_cases h0:0 < k
   ·obtain ⟨b',o',he,hr'⟩:=Fq AA (show k - 1 < l.length by omega)
    injection he with he
    injection he with e1 e2 e3
    subst e1;subst e2;exact ⟨_,fun _=>⟨hr' 0 _ rfl,by rw [zK,ah (by omega),eO (by omega)];rfl⟩⟩
   exact ⟨0,fun h=>absurd h h0⟩
  rw [afg hk2] at heq;have atM:=heq;refine ak 6 ?_;intro a H;refine aS gU (cs:=[_,_]) H wn rfl rfl (fun j v hj=>H.hp.aI (hrow j v hj)) rfl ?_;clear H;intro a H;refine dz gU H wn rfl ?_;clear H;intro b6 a w hb6 H;refine aD 1 H ?_;clear H;intro a H;refine aV gU 0 (vs:=[_,_]) _ H wn rfl rfl rfl rfl rfl rfl rfl rfl ?_;clear H;intro w H;dsimp only [List.set,setRow] at H;refine aC ?_;refine dR ?_;refine qz (ι:=GH) (Tc:=[(0,_),(1,_),(6,_),(14,_),(15,_),(16,_)]) (Lc:=[(_,_)]) (fun gh=>[]) (fun gh=>[]) (fun gh=>gh) (fun gh=>(if rG l[k].key l[k].value=0 then xP e (zK l (k+1)) (l.drop (k+1)) else rG l[k].key l[k].value)=xP e none l∧(∀ b o,g b=some o→gh b=some o)) sB ?_ ?_
  ·refine fO 5 H ?_;clear H;intro a H;refine s_call X9 H wn rfl (YQ _ _ H.ro e l[k].key) rfl ?_;clear H;rintro v25 IZ a w rfl tJ H;replace hrow:=fun j u hj=>aH tJ (hrow j u hj);refine iU 3 H ?_ ?_ <;> clear H
   ·intro h21
    try have Cm:=dT h21
    refine aQ 3 ?_
    first
     | exact (aB vi (by rw [ah (by simpa using p61)] at heq;rw [gN,ah (by omega)];exact heq))
     | exact (aB vi (by rw [av (by simpa using h21)] at heq;rw [gN,ah (by omega)];exact heq))
     | exact (aB vi (by rw [gN,ah (by omega)];exact heq))
     | exact (aB vi (by rw [gN,ah (by omega),← heq,show l.drop k=[] from kC (by omega)];rfl))
     | exact (aB vi (by rw [gN,av (by omega)]))
   intro h21
   try have Cm:=dF h21
   rw [ah (by simpa using h21)] at heq;refine ak 1 ?_
   intro a H;by_cases c0:0 < (k:Int)
   ·skip
    by_cases c1:l[k].key=pk
    ·refine dI hmx [[],[0],[0,1],[0,1,2],(ra 0 4),[0,1,2],[0,1,2],[0,1,2,6],[0,1,2,5,6,7],[0,1,2,5,6,7,8],[0,1,2,5,6,7,8,9],(ra 0 11),(ra 0 12),(ra 0 13)] [13] (by kernel_rfl) [_,_,_,_,vi l[k].key,_,_,vi ((k - 1:Nat):Int),_,_,_,_,_] H (aF (Z0 rfl (Rm rfl)) (Z1 0 28 rfl (Rc rfl)) (Z1 1 29 rfl (Rm rfl)) (Z1 2 30 rfl (YF Db (aK c0) rfl)) (aF (Z2 3 31 2 30 rfl (YO bR 0 (aK c0) rfl)) (Z1 2 30 rfl (YM (aK c0) rfl)) (Z1 2 30 rfl (YM (aK c0) rfl)) ?_ (aF (Z3 5 33 7 35 2 30 rfl (YI iM gU (aK c0) rfl rfl)) (Z2 8 36 2 30 rfl (YF Db (aK c0) rfl)) (X2 9 37 2 30 rfl fun hG=>YR bR (aK c0) rfl (aH hG (aH tJ (hpk (by omega)).1))) (Z3 4 32 10 38 2 30 rfl (YC (aK c0) rfl)) (bH (Z2 2 30 11 39 rfl (Pt (aK c0) rfl)) (bH (bQ rfl) cZ))))) ?_
     ·refine dH 6 34 2 30 rfl rfl fun _ a w G1 hG HT H fin=>?_;refine lK _ H (wg H rfl rfl (aK c0)) rfl rfl rfl (by omega) (by omega) rfl ?_;clear H;intro a H;exact fin H iJ (by show _=_;first|rfl|exact aB vi (by omega))
     clear H;intro a w G nO H hv;have H:=H.aN (hv 12 40 rfl rfl) rfl;clear hv;refine t1 3 H ?_;clear H;rw [av (by rw [(hpk (by omega)).2,c1])] at heq;refine aQ 3 ?_
     first
      | exact (aB vi (by rw [ah (by simpa using p61)] at heq;rw [gN,ah (by omega)];exact heq))
      | exact (aB vi (by rw [av (by simpa using h21)] at heq;rw [gN,ah (by omega)];exact heq))
      | exact (aB vi (by rw [gN,ah (by omega)];exact heq))
      | exact (aB vi (by rw [gN,ah (by omega),← heq,show l.drop k=[] from kC (by omega)];rfl))
      | exact (aB vi (by rw [gN,av (by omega)]))
    refine dI hmx [[],[0],[0,1],[0,1,2],(ra 0 4),[0,1,2],[0,1,2],[0,1,2,6],[0,1,2,5,6,7],[0,1,2,5,6,7,8],[0,1,2,5,6,7,8,9],(ra 0 11),(ra 0 12),(ra 0 13)] [13] (by kernel_rfl) [_,_,_,_,vi l[k].key,_,_,vi ((k - 1:Nat):Int),_,_,_,_,_] H (aF (Z0 rfl (Rm rfl)) (Z1 0 28 rfl (Rc rfl)) (Z1 1 29 rfl (Rm rfl)) (Z1 2 30 rfl (YF Db (aK c0) rfl)) (aF (Z2 3 31 2 30 rfl (YO bR 0 (aK c0) rfl)) (Z1 2 30 rfl (YM (aK c0) rfl)) (Z1 2 30 rfl (YM (aK c0) rfl)) ?_ (aF (Z3 5 33 7 35 2 30 rfl (YI iM gU (aK c0) rfl rfl)) (Z2 8 36 2 30 rfl (YF Db (aK c0) rfl)) (X2 9 37 2 30 rfl fun hG=>YR bR (aK c0) rfl (aH hG (aH tJ (hpk (by omega)).1))) (Z3 4 32 10 38 2 30 rfl (YC (aK c0) rfl)) (bH (Z2 2 30 11 39 rfl (Pt (aK c0) rfl)) (bH (bQ rfl) cZ))))) ?_
    ·refine dH 6 34 2 30 rfl rfl fun _ a w G1 hG HT H fin=>?_;refine lK _ H (wg H rfl rfl (aK c0)) rfl rfl rfl (by omega) (by omega) rfl ?_;clear H;intro a H;exact fin H iJ (by show _=_;first|rfl|exact aB vi (by omega))
    clear H;intro a w G nO H hv;have H:=H.aN (hv 12 40 rfl rfl) rfl;clear hv;refine t1 4 H ?_;clear H
    have q1:¬ (0 < (k:Int)∧l[k].key=pk):=by first|exact fun h=>c1 h.2|exact fun h=>c0 h.1
    intro a H;rw [ah (fun h=>q1 (by
     by_cases h0:0 < k
     ·rw [(hpk h0).2] at h
      injection h with h
      exact ⟨by omega,h.symm⟩
     rw [OE (by omega)] at h
     cases h))] at heq
    by_cases c3:l[k].key < pk
    ·refine dI hmx [[],[0],[0,1],[0,1,2],(ra 0 4),[0,1,2],[0,1,2],[0,1,2,6],[0,1,2,5,6,7],[0,1,2,5,6,7,8],[0,1,2,5,6,7,8,9],(ra 0 11),(ra 0 12),(ra 0 13)] [13] (by kernel_rfl) [_,_,_,_,vi l[k].key,_,_,vi ((k - 1:Nat):Int),_,_,vi pk,_,_] H (aF (Z0 rfl (Rm rfl)) (Z1 0 42 rfl (Rc rfl)) (Z1 1 43 rfl (Rm rfl)) (Z1 2 44 rfl (YF Db (aK c0) rfl)) (aF (Z2 3 45 2 44 rfl (YO bR 0 (aK c0) rfl)) (Z1 2 44 rfl (YM (aK c0) rfl)) (Z1 2 44 rfl (YM (aK c0) rfl)) ?_ (aF (Z3 5 47 7 49 2 44 rfl (YI iM gU (aK c0) rfl rfl)) (Z2 8 50 2 44 rfl (YF Db (aK c0) rfl)) ?_ (Z3 4 46 10 52 2 44 rfl (YC (aK c0) rfl)) (bH (Z2 2 44 11 53 rfl (Pt (aK c0) rfl)) (bH (bQ rfl) cZ))))) ?_
     ·refine dH 6 48 2 44 rfl rfl fun _ a w G1 hG HT H fin=>?_;refine lK _ H (wg H rfl rfl (aK c0)) rfl rfl rfl (by omega) (by omega) rfl ?_;clear H;intro a H;exact fin H iJ (by show _=_;first|rfl|exact aB vi (by omega))
     ·refine dH 9 51 2 44 rfl rfl fun _ a w G1 hG HT H fin=>?_;refine iF bR H (wg H rfl rfl (aK c0)) rfl (H.hp.aI (aH hG (aH nO (aH tJ (hpk (by omega)).1)))) rfl ?_;clear H;intro a H;exact fin H iJ rfl
     clear H;intro a w G pX H hv;have H:=H.aN (hv 12 54 rfl rfl) rfl;clear hv;refine t1 3 H ?_;clear H;rw [av (by rw [(hpk (by omega)).2];exact aK c3)] at heq;refine aQ 3 ?_
     first
      | exact (aB vi (by rw [ah (by simpa using p61)] at heq;rw [gN,ah (by omega)];exact heq))
      | exact (aB vi (by rw [av (by simpa using h21)] at heq;rw [gN,ah (by omega)];exact heq))
      | exact (aB vi (by rw [gN,ah (by omega)];exact heq))
      | exact (aB vi (by rw [gN,ah (by omega),← heq,show l.drop k=[] from kC (by omega)];rfl))
      | exact (aB vi (by rw [gN,av (by omega)]))
    refine dI hmx [[],[0],[0,1],[0,1,2],(ra 0 4),[0,1,2],[0,1,2],[0,1,2,6],[0,1,2,5,6,7],[0,1,2,5,6,7,8],[0,1,2,5,6,7,8,9],(ra 0 11),(ra 0 12),(ra 0 13)] [13] (by kernel_rfl) [_,_,_,_,vi l[k].key,_,_,vi ((k - 1:Nat):Int),_,_,vi pk,_,_] H (aF (Z0 rfl (Rm rfl)) (Z1 0 42 rfl (Rc rfl)) (Z1 1 43 rfl (Rm rfl)) (Z1 2 44 rfl (YF Db (aK c0) rfl)) (aF (Z2 3 45 2 44 rfl (YO bR 0 (aK c0) rfl)) (Z1 2 44 rfl (YM (aK c0) rfl)) (Z1 2 44 rfl (YM (aK c0) rfl)) ?_ (aF (Z3 5 47 7 49 2 44 rfl (YI iM gU (aK c0) rfl rfl)) (Z2 8 50 2 44 rfl (YF Db (aK c0) rfl)) ?_ (Z3 4 46 10 52 2 44 rfl (YC (aK c0) rfl)) (bH (Z2 2 44 11 53 rfl (Pt (aK c0) rfl)) (bH (bQ rfl) cZ))))) ?_
    ·refine dH 6 48 2 44 rfl rfl fun _ a w G1 hG HT H fin=>?_;refine lK _ H (wg H rfl rfl (aK c0)) rfl rfl rfl (by omega) (by omega) rfl ?_;clear H;intro a H;exact fin H iJ (by show _=_;first|rfl|exact aB vi (by omega))
    ·refine dH 9 51 2 44 rfl rfl fun _ a w G1 hG HT H fin=>?_;refine iF bR H (wg H rfl rfl (aK c0)) rfl (H.hp.aI (aH hG (aH nO (aH tJ (hpk (by omega)).1)))) rfl ?_;clear H;intro a H;exact fin H iJ rfl
    clear H;intro a w G pX H hv;have H:=H.aN (hv 12 54 rfl rfl) rfl;clear hv;refine t1 3 H ?_;clear H;intro a H;refine jB ?_;refine ⟨_,sB,?_⟩
    have q2:¬ (0 < (k:Int)∧l[k].key < pk):=by first|exact fun h=>c3 h.2|exact fun h=>c0 h.1
    rw [ah (fun h=>q2 (by
     by_cases h0:0 < k
     ·rw [(hpk h0).2] at h;exact ⟨by omega,mD h⟩
     rw [OE (by omega)] at h
     cases h))] at heq
    exact ⟨heq,fun b o h=>pX b o (nO b o (tJ b o h))⟩
   refine dI hmx [[],[0],[0,1],[0,1,2],(ra 0 4),[0,1,2],[0,1,2],[0,1,2,6],[0,1,2,5,6,7],[0,1,2,5,6,7,8],[0,1,2,5,6,7,8,9],(ra 0 11),(ra 0 12),(ra 0 13)] [13] (by kernel_rfl) [_,_,_,undef,undef,undef,undef,undef,undef,undef,undef,undef,_] H (aF (Z0 rfl (Rm rfl)) (Z1 0 28 rfl (Rc rfl)) (Z1 1 29 rfl (Rm rfl)) (aZ 2 (bD c0) rfl rfl) (aF (aZ 2 (bD c0) rfl rfl) (aZ 2 (bD c0) rfl rfl) (aZ 2 (bD c0) rfl rfl) (aZ 2 (bD c0) rfl rfl) (aF (aZ 2 (bD c0) rfl rfl) (aZ 2 (bD c0) rfl rfl) (aZ 2 (bD c0) rfl rfl) (aZ 2 (bD c0) rfl rfl) (bH (Z2 2 30 11 39 rfl (Pf (bD c0) rfl)) (bH (bQ rfl) cZ))))) ?_
   clear H;intro a w G nO H hv;have H:=H.aN (hv 12 40 rfl rfl) rfl;clear hv;refine t1 4 H ?_;clear H
   have q1:¬ (0 < (k:Int)∧l[k].key=pk):=by first|exact fun h=>c1 h.2|exact fun h=>c0 h.1
   intro a H;rw [ah (fun h=>q1 (by
    by_cases h0:0 < k
    ·rw [(hpk h0).2] at h
     injection h with h
     exact ⟨by omega,h.symm⟩
    rw [OE (by omega)] at h
    cases h))] at heq
   refine dI hmx [[],[0],[0,1],[0,1,2],(ra 0 4),[0,1,2],[0,1,2],[0,1,2,6],[0,1,2,5,6,7],[0,1,2,5,6,7,8],[0,1,2,5,6,7,8,9],(ra 0 11),(ra 0 12),(ra 0 13)] [13] (by kernel_rfl) [_,_,_,undef,undef,undef,undef,undef,undef,undef,undef,undef,_] H (aF (Z0 rfl (Rm rfl)) (Z1 0 42 rfl (Rc rfl)) (Z1 1 43 rfl (Rm rfl)) (aZ 2 (bD c0) rfl rfl) (aF (aZ 2 (bD c0) rfl rfl) (aZ 2 (bD c0) rfl rfl) (aZ 2 (bD c0) rfl rfl) (aZ 2 (bD c0) rfl rfl) (aF (aZ 2 (bD c0) rfl rfl) (aZ 2 (bD c0) rfl rfl) (aZ 2 (bD c0) rfl rfl) (aZ 2 (bD c0) rfl rfl) (bH (Z2 2 44 11 53 rfl (Pf (bD c0) rfl)) (bH (bQ rfl) cZ))))) ?_
   clear H;intro a w G pX H hv;have H:=H.aN (hv 12 54 rfl rfl) rfl;clear hv;refine t1 3 H ?_;clear H;intro a H;refine jB ?_;refine ⟨_,sB,?_⟩
   have q2:¬ (0 < (k:Int)∧l[k].key < pk):=by first|exact fun h=>c3 h.2|exact fun h=>c0 h.1
   rw [ah (fun h=>q2 (by
    by_cases h0:0 < k
    ·rw [(hpk h0).2] at h;exact ⟨by omega,mD h⟩
    rw [OE (by omega)] at h
    cases h))] at heq
   exact ⟨heq,fun b o h=>pX b o (nO b o (tJ b o h))⟩
  clear H;intro g2 a w hI H;obtain ⟨heq,iV⟩:=hI;replace hrow:=fun j u hj=>aH iV (hrow j u hj);dsimp only [lca,bG] at H;refine fO 5 H ?_;clear H;intro a H;refine s_call Q7 H wn rfl (Qx _ _ H.ro l[k].key l[k].value) rfl ?_;clear H;rintro v59 G59 a w rfl amm H;refine gQ 6 H ?_ ?_ <;> clear H
  ·intro p61
   refine aQ 4 ?_
   first
    | exact (aB vi (by rw [ah (by simpa using p61)] at heq;rw [gN,ah (by omega)];exact heq))
    | exact (aB vi (by rw [av (by simpa using h21)] at heq;rw [gN,ah (by omega)];exact heq))
    | exact (aB vi (by rw [gN,ah (by omega)];exact heq))
    | exact (aB vi (by rw [gN,ah (by omega),← heq,show l.drop k=[] from kC (by omega)];rfl))
    | exact (aB vi (by rw [gN,av (by omega)]))
  intro p61
  refine ak 4 ?_;intro a H;refine aC ?_;refine cB ((k+1,G59)) (by exact (H.dY (Pl:=[_]) (dM:=[]) [] (by decide) rfl).sub ⟨rfl,rfl,rfl,rfl,rfl,aU⟩) ?_ ?_
  ·(try dsimp only);exact ⟨by omega,by rw [av (by simpa using p61)] at heq;exact heq,fun b o h=>amm b o (iV b o (hgm b o h))⟩
  first|omega|(dsimp only;omega)
 intro jJ
 refine aQ 4 ?_
 first
  | exact (aB vi (by rw [ah (by simpa using p61)] at heq;rw [gN,ah (by omega)];exact heq))
  | exact (aB vi (by rw [av (by simpa using h21)] at heq;rw [gN,ah (by omega)];exact heq))
  | exact (aB vi (by rw [gN,ah (by omega)];exact heq))
  | exact (aB vi (by rw [gN,ah (by omega),← heq,show l.drop k=[] from kC (by omega)];rfl))
  | exact (aB vi (by rw [gN,av (by omega)]))
def yV (l:List aT) (k:Int):Int × Bool:=if mW (l.map aT.key) k=true then ((l.getD (gX (l.map aT.key) k) ⟨0,0⟩).value,true) else (0,false)
theorem Vk (G:GH) (w0:World) (hG:Hold G w0) (l:List aT) (t:Int) (v:aj) (hv:au G (.sl 2 (l.map aT.dat)) v) (hl:l.length≤4294967296) :
  Calls prog 240 #[v,vi t] w0 (bB w0 G fun u G'=>u=.tuple #[vi (gX (l.map aT.key) t),.bool (mW (l.map aT.key) t)]):=by
 obtain ⟨A,c,rfl,hc1,hc2,-⟩:=hv.slice;rw [bM] at *;refine eN [(0,_),(1,_)] func240 rfl ntmps240 rfl rfl hG ?_;refine ak 7 ?_;intro a H;refine s_call aif H wn rfl (aem _ _ H.ro l t _ hv hl) rfl ?_;clear H;rintro v8 G8 a w rfl mG H;(iterate 2 refine jK H wn rfl rfl rfl ?_;clear H;intro a H);refine aD 3 H ?_;clear H;intro a H;refine bZ ?_;refine (eT H results240 (.cons (bq H rfl) (.cons (bq H rfl) .nil)) ?_).1;exact H.rt rfl
theorem ako (G:GH) (w0:World) (hG:Hold G w0) (l:List aT) (t:Int) (v:aj) (hv:au G (.sl 2 (l.map aT.dat)) v) (hl:l.length≤4294967296) :
  Calls prog 213 #[v,vi t] w0 (bB w0 G fun u G'=>u=.tuple #[vi (yV l t).1,.bool (yV l t).2]):=by
 obtain ⟨A,c,rfl,hc1,hc2,-⟩:=hv.slice;rw [bM] at *;refine eN [(0,_),(1,_)] func213 rfl ntmps213 rfl rfl hG ?_;refine ak 7 ?_;intro a H;refine s_call Q9 H wn rfl (Vk _ _ H.ro l t _ hv hl) rfl ?_;clear H;rintro v11 ru a w rfl BO H;obtain ⟨n,hn⟩:∃ n,n=gX (l.map aT.key) t:=⟨_,rfl⟩;obtain ⟨q,hq⟩:∃ q,q=mW (l.map aT.key) t:=⟨_,rfl⟩;rw [← hn,← hq] at H;refine aD 1 H ?_;clear H;intro a H;(iterate 2 refine jK H wn rfl rfl rfl ?_;clear H;intro a H);refine iU 8 H ?_ ?_ <;> clear H
 ·intro uJ
  refine ak 4 ?_;intro a H;refine bZ ?_;refine (eT H results213 (.cons (bq H rfl) (.cons (bq H rfl) .nil)) ?_).1;exact H.rt (by rw [yV,ah (by rw [← hq];simpa using uJ)])
 intro uJ
 have hlt:n < l.length:=by have:=JW (ks:=l.map aT.key) (t:=t) (by rw [← hq];simpa using uJ);rw [← hn] at this;simpa using this
 obtain ⟨b,o,rfl,hrow⟩:=Fq (hv.mono BO) hlt;have r1:aI ru b (o+n*2+1)=some (vi l[n].value):=hrow 1 _ rfl;refine ak 10 ?_;intro a H;refine bZ ?_;refine (eT H results213 (.cons (bq H rfl) (.cons (bq H rfl) .nil)) ?_).1;exact H.rt (by rw [yV,av (by rw [← hq];simpa using uJ),← hn,List.getD_eq_getElem?_getD,eO hlt];rfl)
end
section
open Go.RowKit
theorem QX:∀ args w,(callFunc 159 args).run prog w=.ok (.enter 159 args) w:=enters func159 rfl (by kernel_rfl)
theorem ahQ:∀ args w,(callFunc 241 args).run prog w=.ok (.enter 241 args) w:=enters func241 rfl (by kernel_rfl)
theorem arP:oO prog 187 [(0,1),(1,1)] [.int .i64 0,.int .i64 0]:=⟨by kernel_rfl,by kernel_rfl⟩
theorem ahR:∀ args w,(callFunc 242 args).run prog w=.ok (.enter 242 args) w:=enters func242 rfl (by kernel_rfl)
theorem aqZ {cur x ys A:List aj} {p q:Nat} (hA:cur.take p=A) (hp:p≤cur.length) (hx:x.length=q) (hl:p+q+ys.length≤cur.length):(seg (seg cur p x) (p+q) ys).take (p+q+ys.length)=A++x++ys∧(seg (seg cur p x) (p+q) ys).length=cur.length:=by
 have h1:(seg cur p x).length=cur.length:=DV (by omega);refine ⟨?_,by rw [DV (by rw [h1];omega),h1]⟩
 have h2:(seg cur p x).take (p+q)=A++x:=by
  rw [seg,hA,List.take_append_of_le_length (by rw [← hA];simp;omega),fK (by rw [← hA];simp;omega)]
 rw [seg,h2,List.take_append_of_le_length (by rw [← hA];simp;omega),fK (by rw [← hA];simp;omega)]
theorem ara {cur x ys A:List aj} {p q:Nat} (hA:cur.take p=A) (hp:p≤cur.length) (hx:x.length=q) (hl:p+q+ys.length≤cur.length):(seg (seg cur (p+q) ys) p x).take (p+q+ys.length)=A++x++ys∧(seg (seg cur (p+q) ys) p x).length=cur.length:=by
 have h1:(seg cur (p+q) ys).length=cur.length:=DV (by omega);refine ⟨?_,by rw [DV (by rw [h1];omega),h1]⟩
 have h2:(seg cur (p+q) ys).take p=A:=by
  rw [seg,jd,List.take_append_of_le_length (by simp;omega),List.take_take,Nat.min_eq_left (by omega),hA]
 have h3:(seg cur (p+q) ys).drop (p+q)=ys++cur.drop (p+q+ys.length):=by
  rw [seg,jd,List.drop_append_of_le_length (by simp;omega),kC (by simp;omega),oF]
 rw [seg,hx,h2,h3,← jd,List.take_append_of_le_length (by rw [← hA];simp;omega),fK (by rw [← hA];simp;omega)]
theorem aqY {cur ys A:List aj} {p:Nat} (hA:cur.take p=A) (hl:p+ys.length≤cur.length):(seg cur p ys).take (p+ys.length)=A++ys:=by
 rw [seg,hA,List.take_append_of_le_length (by rw [← hA];simp;omega),fK (by rw [← hA];simp;omega)]
theorem O8 {b o lo n c sz o' n' c':Nat} (h:¬ c=lo) (ho:o+lo*sz=o') (hn:n - lo=n') (hc:c - lo=c'):Value.slice (if c=lo then some ⟨b,o,none⟩ else (some ⟨b,o,none⟩:Option Addr).map (·.add (lo*sz))) (n - lo) (c - lo)=.slice (some ⟨b,o',none⟩) n' c':=by
 subst ho hn hc;rw [ah h,uo,add_lit]
theorem anD (G:GH) (w0:World) (Lo:OL) (hO:fU G Lo w0) (v:aj) (n i:Nat) (xs:List aj) (hrw:bV 187 2 v n xs Lo) (hx1:xs.all Value.oneCell'=true) (hi:i≤n) (hn:n≤4294967296) (bv:Nat) (x0 x1:aj) (hb:G bv=some (.cells #[x0,x1] 187 (0,0))) (h0:x0.oneCell'=true) (h1:x1.oneCell'=true) :
  Calls prog 241 #[v,vi i,.slice (some ⟨bv,0,none⟩) 1 1] w0 (fJ w0 G Lo fun u G' L'=>bV 187 2 u (n+1) (xs.take (i*2)++[x0,x1]++xs.drop (i*2)) L'):=by
 have hml:maxLen=9223372036854775807:=rfl;obtain ⟨A,c,rfl,hc1,hc2⟩:=hrw.shape;have hxl:=hrw.1
 have hx2:[x0,x1].all Value.oneCell'=true:=by simp [h0,h1]
 have hgx:∀ {w:World} {G':GH},Hold G' w→(∀ b o,G b=some o→G' b=some o)→∀ j u,[x0,x1][j]?=some u→w.cell? ⟨bv,0+j,none⟩=some u:=fun {w} {G'} hG hm j u hj=>by
  simp [World.cell?,hG _ _ (hm _ _ hb),← hj]
 refine jg (N:=95) (T:=[(0,_),(1,_),(2,_)]) func241 rfl ntmps241 rfl rfl hO ?_;refine ak 6 ?_;intro a H;refine yx iM gU i H wn rfl rfl rfl hi rfl ?_;clear H;refine goB 11 ?_ ?_
 ·intro p16
  intro a H;exact absurd p16 (by decide)
 intro p16
 refine goB 12 ?_ ?_
 ·intro iY
  refine ak 3 ?_;intro a H;refine lJ (Li:=[]) (Lo:=Lo) (news:=[x0,x1]) iM gU rfl rfl H wn rfl rfl hrw rfl (hgx H.ro fun _ _ h=>h) hx2 (by omega) (by omega) rfl ?_;clear H;intro v25 atg a w amJ H;dsimp only [List.nil_append] at H;refine aD 2 H ?_;clear H;intro a H;refine lr H results241 rfl ?_
  exact H.hp.dJ (by
   have e:i=n:=by omega
   have e1:xs.take (i*2)=xs:=fK (by omega);have e2:xs.drop (i*2)=[]:=kC (by omega)
   rw [e1,e2,gD];exact amJ)
 intro iY
 have hlt:i < n:=by omega
 obtain ⟨b,cap,cur,he,rfl,-,-,hcs,hct⟩:=hrw.2.resolve_left (fun h=>by omega)
 intro a H;injection he with e1 e2 e3
 subst e1 e3;obtain ⟨cur,rfl⟩:∃ l:List aj,cur=l.toArray:=⟨cur.toList,by simp⟩
 simp only [List.size_toArray,List.toList_toArray] at hcs hct
 have NI:cur.take (i*2)=xs.take (i*2):=by rw [← hct,List.take_take,Nat.min_eq_left (by omega)]
 have hcd:∀ j u,(xs.drop (i*2))[j]?=some u→cur[i*2+j]?=some u:=fun j u hj=>by
  rw [List.getElem?_drop,← hct,rE] at hj
  split at hj
  ·exact hj
  cases hj
 have alJ:∀ j u,(xs.take (i*2))[j]?=some u→cur[j]?=some u:=fun j u hj=>by
  rw [← NI,rE] at hj
  split at hj
  ·exact hj
  cases hj
 have hyl:(xs.drop (i*2)).length=(n - i)*2:=by rw [List.length_drop,hxl];omega
 have hy1:(xs.drop (i*2)).all Value.oneCell'=true:=jS.2 fun u hu=>jS.1 hx1 u (List.mem_of_mem_drop hu)
 have hbne:bv≠b:=fun e=>by have:=hO.sep (b,_) (List.mem_singleton_self _);rw [← e,hb] at this;cases this
 refine fO 7 H ?_;clear H;intro a H;refine aqw iM H wn rfl rfl ?_;clear H;refine goB 2 ?_ ?_
 ·intro p31
  refine ak 3 ?_;intro a H;refine DU iM gU i H wn rfl rfl rfl (by omega) rfl ?_;clear H;refine ak 5 ?_;intro a H;refine aqs (m:=n+1 - i) iM kI gU rfl rfl (xs.take (i*2)) H wn rfl rfl (by omega) (by rw [List.length_take,hxl];omega) (fun j u hj=>H.hp.qI 0 rfl (by rw [fV];simpa using alJ j u hj)) (by omega) (by omega) (by omega) (by omega) rfl ?_;clear H;intro b2 cap2 Da a w hq1 hq2 hq3 hq4 H;rw [show i+(n+1 - i)=n+1 by omega] at hq1 H;refine aD 5 H ?_;clear H;intro a H;refine yx iM gU i H wn rfl rfl rfl (by omega) rfl ?_;clear H;intro a H;rw [ah (by omega),uo,add_lit,fV] at H;refine aD 1 H ?_;clear H;intro a H;refine OY iM gU 0 1 [x0,x1] H wn rfl rfl rfl (by omega) rfl (hgx H.ro fun _ _ h=>h) (by simp;omega) hx2 rfl ?_;clear H;intro a w H;dsimp only [List.set] at H;obtain ⟨amU,amV⟩:=aqZ (x:=[x0,x1]) (ys:=xs.drop (i*2)) (q:=2) hq4 (by omega) rfl (by rw [hyl];omega);refine aD 2 H ?_;clear H;intro a H;refine dI hmx [[],[],[],[1,2],(ra 0 4),[],[],[5,6],(ra 0 8)] [8] (by kernel_rfl) [_,_,_,_,.slice (some ⟨b2,i*2+2,none⟩) (n - i) (cap2 - (i+1)),_,_,.slice (some ⟨b,i*2,none⟩) (n - i) (c - i)] H (aF (Z0 rfl (Rm rfl)) (Z0 rfl (Rm rfl)) (Z0 rfl (Rm rfl)) (Z2 1 47 2 48 rfl (Rd rfl)) (aF ?_ (Z0 rfl (Rm rfl)) (Z0 rfl (Rm rfl)) ?_ (bH (bQ rfl) cZ))) ?_
  ·refine dH 0 46 3 49 rfl rfl fun _ a w G1 hG HT H fin=>?_;refine yx iM gU (i+1) H wn rfl rfl (by omega) (by omega) rfl ?_;clear H;intro a H;exact fin H iJ (O8 (by omega) (by omega) (by omega) rfl)
  ·refine dH 5 51 6 52 rfl rfl fun _ a w G1 hG HT H fin=>?_;refine yx iM gU i H wn rfl rfl rfl (by omega) rfl ?_;clear H;intro a H;exact fin H iJ (O8 (by omega) (by omega) (by omega) rfl)
  clear H;intro a w G kZ H hv;have H:=H.aN (hv 4 50 rfl rfl) rfl;have H:=H.aN (hv 7 53 rfl rfl) rfl;clear hv;refine OY iM gU 0 (n - i) (xs.drop (i*2)) H wn rfl rfl rfl (by omega) hyl (fun j u hj=>H.hp.qI 1 rfl (by simpa using hcd j u hj)) (by rw [DV (by simp;omega),hyl];omega) hy1 rfl ?_;clear H;intro a w H;dsimp only [List.set] at H;refine aC ⟨rfl,?_⟩;refine dR ?_;refine fO 4 H ?_;clear H;intro a H;refine lr H results241 rfl ?_;exact H.hp.kE (L':=[_]) (List.Sublist.cons_cons _ (List.nil_sublist _)) ⟨by simp [List.length_take,hxl,hyl];omega,.inr ⟨b2,cap2,_,rfl,rfl,hq1,hq2,by rw [List.size_toArray,amV,hq3],by rw [List.toList_toArray];rw [← amU];congr 1;rw [hyl];omega⟩⟩
 intro p31
 refine ak 6 ?_;intro a H;refine DU iM gU (n+1) H wn rfl rfl (by omega) (by omega) rfl ?_;clear H;refine ak 9 ?_;intro a H;refine yx iM gU (i+1) H wn rfl rfl (by omega) (by omega) rfl ?_;clear H;intro a H;rw [ah (by omega),uo,add_lit,fV] at H;refine aqF (t:=23) (tr:=4) func262 (by kernel_rfl) (by kernel_rfl) (by kernel_rfl) (by kernel_rfl) iM gU H wn rfl rfl (H.ro _ _ hb) (H.hp.own (b,_) (List.mem_singleton_self _)) hbne (by rw [List.size_toArray,hcs];omega) rfl ?_;clear H;refine goC 2 ?_ ?_
 ·intro h68
  try have p68:=dT h68
  refine ak 1 ?_;intro a H;refine dI hmx [[],[],[],[1,2],(ra 0 4),[],[],[5,6],(ra 0 8)] [8] (by kernel_rfl) [_,_,_,_,.slice (some ⟨b,i*2+2,none⟩) (n - i) (c - (i+1)),_,_,.slice (some ⟨b,i*2,none⟩) (n+1 - i) (c - i)] H (aF (Z0 rfl (Rm rfl)) (Z0 rfl (Rm rfl)) (Z0 rfl (Rm rfl)) (Z2 1 70 2 71 rfl (Rd rfl)) (aF ?_ (Z0 rfl (Rm rfl)) (Z0 rfl (Rm rfl)) ?_ (bH (bQ rfl) cZ))) ?_
  ·refine dH 0 69 3 72 rfl rfl fun _ a w G1 hG HT H fin=>?_;refine yx iM gU (i+1) H wn rfl rfl (by omega) (by omega) rfl ?_;clear H;intro a H;exact fin H iJ (O8 (by omega) (by omega) (by omega) rfl)
  ·refine dH 5 74 6 75 rfl rfl fun _ a w G1 hG HT H fin=>?_;refine yx iM gU i H wn rfl rfl rfl (by omega) rfl ?_;clear H;intro a H;exact fin H iJ (O8 (by omega) (by omega) (by omega) rfl)
  clear H;intro a w G BI H hv;have H:=H.aN (hv 4 73 rfl rfl) rfl;have H:=H.aN (hv 7 76 rfl rfl) rfl;clear hv;refine OY iM gU 0 (n - i) (xs.drop (i*2)) H wn rfl rfl rfl (by omega) hyl (fun j u hj=>H.hp.qI 0 rfl (by simpa using hcd j u hj)) (by rw [hyl];omega) hy1 rfl ?_;clear H;intro a w H;dsimp only [List.set] at H;obtain ⟨amW,amX⟩:=ara (x:=[x0,x1]) (ys:=xs.drop (i*2)) (q:=2) NI (by omega) rfl (by rw [hyl];omega);refine aC ⟨rfl,?_⟩;refine dR ?_;refine fO 3 H ?_;clear H;intro a H;refine yx iM gU i H wn rfl rfl rfl (by omega) rfl ?_;clear H;intro a H;rw [ah (by omega),uo,add_lit,fV] at H;refine aD 1 H ?_;clear H;intro a H;refine OY iM gU 0 1 [x0,x1] H wn rfl rfl rfl (by omega) rfl (hgx H.ro BI) (by rw [DV (by rw [hyl];omega)];simp;omega) hx2 rfl ?_;clear H;intro a w H;dsimp only [List.set] at H;refine aD 5 H ?_;clear H;intro a H;refine lr H results241 rfl ?_;exact H.hp.dJ ⟨by simp [List.length_take,hxl,hyl];omega,.inr ⟨b,c,_,rfl,rfl,by omega,hc2,by rw [List.size_toArray,amX,hcs],by rw [List.toList_toArray];rw [← amW];congr 1;rw [hyl];omega⟩⟩
 intro h68
 intro a H;exact absurd (show true=false from h68) (by decide)
theorem afU (G:GH) (w0:World) (Lo:OL) (hO:fU G Lo w0) (v:aj) (n i:Nat) (xs:List aj) (hrw:bV 187 2 v n xs Lo) (hx1:xs.all Value.oneCell'=true) (hi:i < n) (hn:n≤4294967296) :
  Calls prog 242 #[v,vi i,vi ((i:Int)+1)] w0 (fJ w0 G Lo fun u G' L'=>bV 187 2 u (n - 1) (xs.take (i*2)++xs.drop ((i+1)*2)) L'):=by
 have hml:maxLen=9223372036854775807:=rfl;have hxl:=hrw.1;obtain ⟨b,c,cur,rfl,rfl,hc1,hc2,hcs,hct⟩:=hrw.2.resolve_left (fun h=>by omega);obtain ⟨cur,rfl⟩:∃ l:List aj,cur=l.toArray:=⟨cur.toList,by simp⟩
 simp only [List.size_toArray,List.toList_toArray] at hcs hct
 have NI:cur.take (i*2)=xs.take (i*2):=by rw [← hct,List.take_take,Nat.min_eq_left (by omega)]
 have hcd:∀ j u,(xs.drop ((i+1)*2))[j]?=some u→cur[(i+1)*2+j]?=some u:=fun j u hj=>by
  rw [List.getElem?_drop,← hct,rE] at hj
  split at hj
  ·exact hj
  cases hj
 have hyl:(xs.drop ((i+1)*2)).length=(n - (i+1))*2:=by rw [List.length_drop,hxl];omega
 have hy1:(xs.drop ((i+1)*2)).all Value.oneCell'=true:=jS.2 fun u hu=>jS.1 hx1 u (List.mem_of_mem_drop hu)
 obtain ⟨o2,ho2,ho3⟩:∃ o2,(if c=i+1 then some ⟨b,0,none⟩ else (some ⟨b,0,none⟩:Option Addr).map (·.add ((i+1)*2)))=some ⟨b,o2,none⟩∧(i+1 < n→o2=(i+1)*2):=by
  by_cases h:c=i+1
  ·rw [av h];exact ⟨0,rfl,fun h=>by omega⟩
  rw [ah h,uo,add_lit,fV];exact ⟨_,rfl,fun _=>rfl⟩
 have hsd:=aqY (ys:=xs.drop ((i+1)*2)) NI (by rw [hyl];omega);rw [hyl,show i*2+(n - (i+1))*2=(n - 1)*2 by omega] at hsd;refine jg (N:=33) (T:=[(0,_),(1,_),(2,_)]) func242 rfl ntmps242 rfl rfl hO ?_;intro a H;refine kP H (SQ fun _ K1=>SC (gu K1 rfl (SQ fun _ K2=>SC (Rm rfl (Rm rfl (Rm rfl (Rm rfl (Rl iM rfl ?_))))))));clear H K1;intro a H;refine aqJ iM gU i (i+1) n H wn rfl rfl rfl rfl rfl (by omega) rfl (by omega) (by omega) hc1 rfl ?_;clear H;intro v13 a H;refine kH H (Kn K2 (SQ fun _ K3=>SQ fun _ K4=>SC (Rm rfl (Rm rfl (Rc rfl (Kn K4 (Cd rfl ?_ ?_))))))) <;> clear H K2 K4
 ·intro h16 a H
  try have p16:=dT h16
  exfalso;omega
 intro h16 a H
 try have p16:=dF h16
 refine kP H (Kc K3 (SQ fun _ K5=>SC (Rm rfl (Rl iM rfl (gu K5 rfl (SQ fun _ K6=>?_))))));clear H K3 K5;intro a H;refine dI hmx [[],[],[0,1],[],[],[3,4],(ra 0 6),(ra 0 7)] [6,7] (by kernel_rfl) [_,_,.slice (some ⟨b,0,none⟩) i c,_,_,.slice (some ⟨b,o2,none⟩) (n - (i+1)) (c - (i+1))] H (aF (Z0 rfl (Rm rfl)) (Z0 rfl (Rm rfl)) ?_ (Z0 rfl (Rm rfl)) (aF (Z0 rfl (Rm rfl)) ?_ (bQ rfl) (bQ rfl) cZ)) ?_
 ·refine dH 0 20 1 21 rfl rfl fun _ a w G1 hG HT H fin=>?_;refine DU iM gU i H wn rfl rfl rfl (by omega) rfl ?_;clear H;intro a H;exact fin H iJ rfl
 ·refine dH 3 23 4 24 rfl rfl fun _ a w G1 hG HT H fin=>?_;refine yx iM gU (i+1) H wn rfl rfl (by omega) (by omega) rfl ?_;clear H;intro a H;exact fin H iJ (aB (fun A=>Value.slice A (n - (i+1)) (c - (i+1))) ho2)
 clear H;intro a w G kU H hv;have H:=H.aN (hv 2 22 rfl rfl) rfl;have H:=H.aN (hv 5 25 rfl rfl) rfl;clear hv
 refine aqr iM gU 0 (xs.drop ((i+1)*2)) H wn rfl rfl rfl hyl (fun j u hj=>H.hp.qI 0 rfl (by
  have hj2:=(jA.1 hj).1;rw [hyl] at hj2
  rw [ho3 (by omega)];simpa using hcd j u hj)) hy1 (by omega) (by rw [hyl];omega) rfl ?_;clear H;intro a w H
 dsimp only [List.set] at H;rw [show i+(n - (i+1))=n - 1 by omega] at H;refine kH H (Ra rfl ?_);clear H;intro a H;refine aC ⟨rfl,?_⟩;refine K6 _ _ ?_;clear K6;refine kP H (SQ fun _ K7=>SC (Rm rfl (Rm rfl (Rl iM rfl (Rm rfl ?_)))));clear H;intro a H;refine aqI iM gU (n - 1) n H wn rfl rfl rfl rfl rfl (by omega) (by omega) rfl ?_;clear H;intro a H;rw [ah (by omega),uo,add_lit,fV,show n - (n - 1)=1 by omega] at H;refine acd iM gU rfl rfl 0 H wn rfl rfl (by omega) (by rw [DV (by rw [hyl];omega)];omega) ?_;clear H;intro c2 w hq1 hq2 H;dsimp only [List.set] at H;exact kH H (Kn K7 (SQ fun _ K8=>SC (Rm rfl (gu K8 rfl (LR results242 rfl fun H=>H.hp.dJ ⟨by simp [List.length_take,hxl];omega,.inr ⟨b,c,_,rfl,rfl,by omega,hc2,by rw [List.size_toArray,hq1,DV (by rw [hyl];omega),hcs],by rw [List.toList_toArray,hq2,hsd]⟩⟩)))))
def DW (l:List aT) (k v:Int):List aT:=if mW (l.map aT.key) k=true then l.set (gX (l.map aT.key) k) ⟨(l.getD (gX (l.map aT.key) k) ⟨0,0⟩).key,v⟩ else l.take (gX (l.map aT.key) k)++⟨k,v⟩ :: l.drop (gX (l.map aT.key) k)
def C8 (l:List aT) (k:Int):List aT:=if mW (l.map aT.key) k=true then l.take (gX (l.map aT.key) k)++l.drop (gX (l.map aT.key) k+1) else l
theorem MV (l:List aT) (i:Nat) (h:i≤l.length):(kR l).take (i*2)=kR (l.take i)∧(kR l).drop (i*2)=kR (l.drop i):=by
 have e:kR l=kR (l.take i)++kR (l.drop i):=by rw [← Jm,List.take_append_drop]
 have hl:(kR (l.take i)).length=i*2:=by rw [QL,List.length_take,Nat.min_eq_left h]
 rw [e];exact ⟨by rw [List.take_append_of_le_length (by omega),fK (by omega)],by rw [List.drop_append_of_le_length (by omega),kC (by omega),oF]⟩
theorem XB (l:List aT):(kR l).all Value.oneCell'=true:=by
 rw [jS];intro u hu;obtain ⟨cs,hcs,hu⟩:=List.mem_flatten.1 hu;obtain ⟨p,-,rfl⟩:=List.mem_map.1 hcs
 simp only [aT.cells,ko,List.mem_nil_iff,or_false] at hu
 rcases hu with rfl|rfl <;> rfl
theorem afR (l:List aT) (i:Nat) (h:i < l.length) (v:Int):(kR l).set (i*2+1) (vi v)=kR (l.set i ⟨l[i].key,v⟩):=by
 have e:kR l=kR (l.take i)++([vi l[i].key,vi l[i].value]++kR (l.drop (i+1))):=by
  conv=>lhs;rw [← List.take_append_drop i l,pO h,Jm]
  rfl
 have hl:(kR (l.take i)).length=i*2:=by rw [QL,List.length_take,Nat.min_eq_left (by omega)]
 rw [e,List.set_append_right _ _ (by omega),hl,show i*2+1 - i*2=1 by omega,show ([vi l[i].key,vi l[i].value]++kR (l.drop (i+1))).set 1 (vi v)=[vi l[i].key,vi v]++kR (l.drop (i+1)) from rfl,List.set_eq_take_append_cons_drop (l:=l),av h,Jm]
 rfl
theorem ari (G:GH) (w0:World) (hG:Hold G w0) (l:List aT) (k x:Int) (v:aj) (hv:au G (.sl 2 (l.map aT.dat)) v) (hl:l.length≤4294967295) :
  Calls prog 214 #[v,vi k,vi x] w0 (bB w0 G fun u G'=>au G' (.sl 2 ((DW l k x).map aT.dat)) u):=by
 obtain ⟨A,c,rfl,hc1,hc2,-⟩:=hv.slice;rw [bM] at *;refine eN [(0,_),(1,_),(2,_)] func214 rfl ntmps214 rfl rfl hG ?_;refine ak 6 ?_;intro a H;refine s_call Q9 H wn rfl (Vk _ _ H.ro l k _ hv (by omega)) rfl ?_;clear H;rintro v13 FV a w rfl Hw H;obtain ⟨n,hn⟩:∃ n,n=gX (l.map aT.key) k:=⟨_,rfl⟩;obtain ⟨q,hq⟩:∃ q,q=mW (l.map aT.key) k:=⟨_,rfl⟩;rw [← hn,← hq] at H;refine aD 1 H ?_;clear H;intro a H;(iterate 2 refine jK H wn rfl rfl rfl ?_;clear H;intro a H);refine aD 5 H ?_;clear H;intro a H;refine gF QX (Li:=[]) (L:=[]) H wn rfl (abx (Hp.owns (Li:=[]) H.hp) l _ (hv.mono Hw) (by omega)) rfl ?_;clear H;rintro v17 yM Qc a w N8 qV H;dsimp only [List.nil_append] at H;obtain ⟨A17,c17,rfl,-,-⟩:=N8.shape;refine gQ 6 H ?_ ?_ <;> clear H
 ·intro qJ
  have hlt:n < l.length:=by
   have:=JW (ks:=l.map aT.key) (t:=k) (by rw [← hq];assumption);rw [← hn] at this;simpa using this
  obtain ⟨bb,rfl⟩:=N8.ptr (by omega);obtain ⟨cur,-,rfl,hcur,hset⟩:=N8.set1;refine ak 4 ?_;intro a H;refine xq iM gU n H wn rfl rfl rfl (by omega) rfl ?_;clear H;refine ak 1 ?_;intro a H;refine aV bR 0 (c:=cur) (vs:=[vi x]) (cur.set (n*2+1) (vi x)) H wn rfl rfl rfl rfl rfl rfl (by simp;omega) (by rw [fV];rfl) ?_;clear H;intro w H;dsimp only [List.set] at H;have hrwn:=hset (n*2+1) (vi x);rw [afR l n hlt] at hrwn;obtain ⟨G',hm',hrep,H⟩:=St.mR (Li:=[]) H hrwn (rows:=(l.set n ⟨l[n].key,x⟩).map aT.dat) (by simp) (OI _ _);refine fH 5 H ?_;rw [DW,av (by rw [← hq];assumption),← hn,List.getD_eq_getElem?_getD,eO hlt];exact hrep
 intro qJ
 refine ak 6 ?_;intro a H;refine iy arP [_,_] H wn rfl rfl rfl rfl ?_;clear H;intro a H;refine gJ iM gU [_,_] [_,_] H wn rfl rfl rfl rfl rfl (by intro i q h;match i,h with|0,h=>exact h|n+1,h=>simp at h) rfl rfl ?_;clear H;intro WW a w alk H;obtain ⟨Gb,hmb,alm,H⟩:=H.dZ;refine gF ahQ (Li:=[]) (L:=Qc) H wn rfl (anD _ _ Qc (Hp.owns (Li:=[]) H.hp) _ l.length n (kR l) N8 (XB l) (by rw [hn];exact Nat.le_trans (CZ _ _) (by simp)) (by omega) WW (vi k) (vi x) alm rfl rfl) rfl ?_;clear H;rintro v31 V8 L31 a w N9 HY H;rw [(MV l n (by rw [hn];exact Nat.le_trans (CZ _ _) (by simp))).1,(MV l n (by rw [hn];exact Nat.le_trans (CZ _ _) (by simp))).2] at N9
 obtain ⟨G',hm',hrep,H⟩:=St.mR (Li:=[]) H N9 (rows:=(l.take n++⟨k,x⟩ :: l.drop n).map aT.dat) (by simp;have:=CZ (l.map aT.key) k;rw [← hn] at this;simp at this;omega) (by
  have h:bU V8 2 ((l.take n++⟨k,x⟩ :: l.drop n).map aT.dat) (kR (l.take n++⟨k,x⟩ :: l.drop n)):=OI _ _;rw [Jm] at h
  simpa [kR,aT.cells] using h)
 refine fH 2 H ?_;rw [DW,ah (by rw [← hq];simp_all),← hn];exact hrep
theorem afk (G:GH) (w0:World) (hG:Hold G w0) (l:List aT) (k:Int) (v:aj) (hv:au G (.sl 2 (l.map aT.dat)) v) (hl:l.length≤4294967295) :
  Calls prog 215 #[v,vi k] w0 (bB w0 G fun u G'=>au G' (.sl 2 ((C8 l k).map aT.dat)) u):=by
 obtain ⟨A,c,rfl,hc1,hc2,-⟩:=hv.slice;rw [bM] at *;refine eN [(0,_),(1,_)] func215 rfl ntmps215 rfl rfl hG ?_;refine ak 6 ?_;intro a H;refine s_call Q9 H wn rfl (Vk _ _ H.ro l k _ hv (by omega)) rfl ?_;clear H;rintro v11 ru a w rfl BO H;obtain ⟨n,hn⟩:∃ n,n=gX (l.map aT.key) k:=⟨_,rfl⟩;obtain ⟨q,hq⟩:∃ q,q=mW (l.map aT.key) k:=⟨_,rfl⟩;rw [← hn,← hq] at H;refine aD 1 H ?_;clear H;intro a H;(iterate 2 refine jK H wn rfl rfl rfl ?_;clear H;intro a H);refine aD 5 H ?_;clear H;intro a H;refine gF QX (Li:=[]) (L:=[]) H wn rfl (abx (Hp.owns (Li:=[]) H.hp) l _ (hv.mono BO) (by omega)) rfl ?_;clear H;rintro v15 Bn Qb a w TJ zq H;dsimp only [List.nil_append] at H;obtain ⟨VW,c15,rfl,-,-⟩:=TJ.shape;refine gQ 6 H ?_ ?_ <;> clear H
 ·intro p16
  have hlt:n < l.length:=by
   have:=JW (ks:=l.map aT.key) (t:=k) (by rw [← hq];assumption);rw [← hn] at this;simpa using this
  refine ak 5 ?_;intro a H;refine gF ahR (Li:=[]) (L:=Qb) H wn rfl (afU _ _ Qb (Hp.owns (Li:=[]) H.hp) _ l.length n (kR l) TJ (XB l) hlt (by omega)) rfl ?_;clear H;rintro v21 IY L21 a w aal pY H;rw [(MV l n (by omega)).1,(MV l (n+1) (by omega)).2,← Jm] at aal;obtain ⟨G',hm',hrep,H⟩:=St.mR (Li:=[]) H aal (rows:=(l.take n++l.drop (n+1)).map aT.dat) (by simp;omega) (OI _ _);refine fH 6 H ?_;rw [C8,av (by rw [← hq];assumption),← hn];exact hrep
 intro p16
 intro a H;obtain ⟨G',hm',hrep,H⟩:=St.mR (Li:=[]) H TJ (rows:=l.map aT.dat) (by simp) (OI _ _);refine uH 5 H ?_;rw [C8,ah (by rw [← hq];simp_all)];exact hrep
end
section
open Go.RowKit
theorem ajp:Ma prog 187 [(0,false),(1,false)]:=⟨by kernel_rfl,by kernel_rfl,by kernel_rfl,by kernel_rfl,by kernel_rfl⟩
theorem ajn:Ma prog 159 [(0,false),(1,false)]:=⟨by kernel_rfl,by kernel_rfl,by kernel_rfl,by kernel_rfl,by kernel_rfl⟩
theorem ajo:Ma prog 161 [(0,false),(1,false),(2,false),(3,true)]:=⟨by kernel_rfl,by kernel_rfl,by kernel_rfl,by kernel_rfl,by kernel_rfl⟩
theorem XW:∀ args w,(callFunc 102 args).run prog w=.ok (.enter 102 args) w:=enters func102 rfl (by kernel_rfl)
instance Dc:dS prog 27 0 0:=⟨by kernel_rfl⟩
instance Yz:dS prog 27 1 1:=⟨by kernel_rfl⟩
theorem agl:∀ args w,(callFunc 103 args).run prog w=.ok (.enter 103 args) w:=enters func103 rfl (by kernel_rfl)
theorem agm:∀ args w,(callFunc 104 args).run prog w=.ok (.enter 104 args) w:=enters func104 rfl (by kernel_rfl)
abbrev fE.cells (x:fE):List aj:=[vi x.rev,vi x.move]
abbrev cK.cells (x:cK):List aj:=[vi x.rev,vi x.key,vi x.before,.bool x.had]
theorem Jq {G:GH} {x:fE} {cs:List aj} (h:aW G x.dat cs):cs=x.cells:=by
 simp only [fE.dat,aW,au] at h
 obtain ⟨_,_,rfl,⟨rfl,_⟩,_,_,rfl,⟨rfl,_⟩,rfl⟩:=h
 rfl
theorem Uo {G:GH} {x:cK} {cs:List aj} (h:aW G x.dat cs):cs=x.cells:=by
 simp only [cK.dat,aW,au] at h
 obtain ⟨_,_,rfl,⟨rfl,_⟩,_,_,rfl,⟨rfl,_⟩,_,_,rfl,⟨rfl,_⟩,_,_,rfl,⟨rfl,_⟩,rfl⟩:=h
 rfl
theorem aT.eq_iff (a b:aT):(a.key=b.key∧a.value=b.value)↔a=b:=by cases a;cases b;simp
theorem fE.eq_iff (a b:fE):(a.rev=b.rev∧a.move=b.move)↔a=b:=by cases a;cases b;simp
theorem cK.eq_iff (a b:cK):(a.rev=b.rev∧a.key=b.key∧a.before=b.before∧a.had=b.had)↔a=b:=by cases a;cases b;simp
instance:DecidableEq aT:=fun a b=>decidable_of_iff _ (aT.eq_iff a b)
instance:DecidableEq fE:=fun a b=>decidable_of_iff _ (fE.eq_iff a b)
instance:DecidableEq cK:=fun a b=>decidable_of_iff _ (cK.eq_iff a b)
theorem aow (a b:aT):(!([(0,false),(1,false)].all fun o=>kS #[vi a.key,vi a.value] o == kS #[vi b.key,vi b.value] o))=!decide (a=b):=by
 have h:=aT.eq_iff a b;rw [mE]
 simp only [uw,mM]
 rw [← h]
 simp [kS]
theorem aou (a b:fE):(!([(0,false),(1,false)].all fun o=>kS #[vi a.rev,vi a.move] o == kS #[vi b.rev,vi b.move] o))=!decide (a=b):=by
 have h:=fE.eq_iff a b;rw [mE]
 simp only [uw,mM]
 rw [← h]
 simp [kS]
theorem aov (a b:cK):(!([(0,false),(1,false),(2,false),(3,true)].all fun o=>kS #[vi a.rev,vi a.key,vi a.before,.bool a.had] o == kS #[vi b.rev,vi b.key,vi b.before,.bool b.had] o))=!decide (a=b):=by
 have h:=cK.eq_iff a b;rw [mE]
 simp only [uw,mM]
 rw [← h]
 simp [kS]
theorem Yo (G:GH) (w0:World) (hG:Hold G w0) (A B:List aT) (v u:aj) (hv:au G (.sl 2 (A.map aT.dat)) v) (hu:au G (.sl 2 (B.map aT.dat)) u) :
  Calls prog 102 #[v,u] w0 (bB w0 G fun r G'=>r=.bool (decide (A=B))):=by
 obtain ⟨vA,vc,rfl,hc1,hc2,hg⟩:=hv.slice;obtain ⟨uA,uc,rfl,hd1,hd2,hh⟩:=hu.slice;have hml:maxLen=9223372036854775807:=rfl;(iterate 2 rw [bM] at *);refine eN [(0,_),(1,_)] func102 rfl ntmps102 rfl rfl hG ?_;refine goB 11 ?_ ?_
 ·intro iD
  refine aQ 3 ?_;exact (dD (jc fun e=>absurd (aB List.length e) (by omega)).symm)
 intro iD
 refine ak 8 ?_;intro a H;refine eH (ι:=Nat × GH) (Tc:=[(0,_),(1,_),(12,_)]) (Lc:=[]) (fun gh=>[(13,vi gh.1)]) (fun gh=>[]) (fun gh=>gh.2) (fun gh=>gh.1≤A.length∧A.take gh.1=B.take gh.1∧(∀ b o,G b=some o→gh.2 b=some o)) (fun gh=>A.length - gh.1) ((0,G)) sB ?_ ?_
 ·exact ⟨by omega,rfl,fun _ _ h=>h⟩
 clear H;rintro ⟨k,g⟩ a w hI H;dsimp only at hI H;obtain ⟨hk,hsame,hgm⟩:=hI;dsimp only [lca,bG] at H;refine dQ 4 H ?_ ?_ <;> clear H
 ·intro jP
  have hk2:k < A.length:=by omega
  have hk3:k < B.length:=by omega
  obtain ⟨b1,o1,cs1,rfl,zl,mH,hr1⟩:=hg k A[k].dat (by simp [hk2]);obtain rfl:=OH hr1;obtain ⟨b2,o2,cs2,rfl,zm,hrow2,hr2⟩:=hh k B[k].dat (by simp [hk3]);obtain rfl:=OH hr2;refine ak 8 ?_;intro a H;refine dI hmx [[],[],[0,1],[0,1,2],[],[],[4,5],[4,5,6],(ra 0 8)] [] (by kernel_rfl) [_,_,_,.agg A[k].cells.toArray,_,_,_,.agg B[k].cells.toArray,.bool (!decide (A[k]=B[k]))] H (aF (Z0 rfl (Rm rfl)) (Z0 rfl (Rm rfl)) (Z2 0 16 1 17 rfl (Ri iM gU rfl rfl)) ?_ (aF (Z0 rfl (Rm rfl)) (Z0 rfl (Rm rfl)) (Z2 4 20 5 21 rfl (Ri iM gU rfl rfl)) ?_ (bH ?_ cZ))) ?_
  ·refine eu 2 18 rfl rfl fun _ a w G1 hG HT H fin=>?_;refine aS gU (cs:=A[k].cells) H wn rfl rfl (fun j v hj=>H.hp.aI (aH hG (aH hgm (mH j v hj)))) rfl ?_;clear H;intro a H;exact fin H iJ rfl
  ·refine eu 6 22 rfl rfl fun _ a w G1 hG HT H fin=>?_;refine aS gU (cs:=B[k].cells) H wn rfl rfl (fun j v hj=>H.hp.aI (aH hG (aH hgm (hrow2 j v hj)))) rfl ?_;clear H;intro a H;exact fin H iJ rfl
  ·refine dH 3 19 7 23 rfl rfl fun _ a w G1 hG HT H fin=>?_;refine Vh (.inr rfl) ajp H wn rfl rfl rfl rfl ?_;clear H;intro a H;exact fin H iJ (dD (aow A[k] B[k]))
  clear H;intro a w G gI H hv;have H:=H.aN (hv 8 24 rfl rfl) rfl;clear hv;refine t0 1 H ?_;clear H;refine goC 0 ?_ ?_
  ·intro fu
   refine aQ 3 ?_;exact (dD (jc fun e=>absurd fu (by subst e;simp)).symm)
  intro fu
  try have jq:=dF fu
  have hsm:A[k]=B[k]:=by simpa using fu
  refine ak 4 ?_;intro a H;refine aC ?_;refine cB ((k+1,G)) sB ?_ ?_
  ·(try dsimp only);exact ⟨by omega,by rw [fQ hk2,fQ hk3,hsame,hsm],fun b o h=>gI b o (hgm b o h)⟩
  first|omega|(dsimp only;omega)
 intro jP
 refine aQ 4 ?_;exact (dD (iT (by rw [fK (by omega),fK (by omega)] at hsame;exact hsame)).symm)
theorem aiU (G:GH) (w0:World) (hG:Hold G w0) (A B:List fE) (v u:aj) (hv:au G (.sl 2 (A.map fE.dat)) v) (hu:au G (.sl 2 (B.map fE.dat)) u) :
  Calls prog 103 #[v,u] w0 (bB w0 G fun r G'=>r=.bool (decide (A=B))):=by
 obtain ⟨vA,vc,rfl,hc1,hc2,hg⟩:=hv.slice;obtain ⟨uA,uc,rfl,hd1,hd2,hh⟩:=hu.slice;have hml:maxLen=9223372036854775807:=rfl;(iterate 2 rw [bM] at *);refine eN [(0,_),(1,_)] func103 rfl ntmps103 rfl rfl hG ?_;refine goB 11 ?_ ?_
 ·intro iD
  refine aQ 3 ?_;exact (dD (jc fun e=>absurd (aB List.length e) (by omega)).symm)
 intro iD
 refine ak 8 ?_;intro a H;refine eH (ι:=Nat × GH) (Tc:=[(0,_),(1,_),(12,_)]) (Lc:=[]) (fun gh=>[(13,vi gh.1)]) (fun gh=>[]) (fun gh=>gh.2) (fun gh=>gh.1≤A.length∧A.take gh.1=B.take gh.1∧(∀ b o,G b=some o→gh.2 b=some o)) (fun gh=>A.length - gh.1) ((0,G)) sB ?_ ?_
 ·exact ⟨by omega,rfl,fun _ _ h=>h⟩
 clear H;rintro ⟨k,g⟩ a w hI H;dsimp only at hI H;obtain ⟨hk,hsame,hgm⟩:=hI;dsimp only [lca,bG] at H;refine dQ 4 H ?_ ?_ <;> clear H
 ·intro jP
  have hk2:k < A.length:=by omega
  have hk3:k < B.length:=by omega
  obtain ⟨b1,o1,cs1,rfl,zl,mH,hr1⟩:=hg k A[k].dat (by simp [hk2]);obtain rfl:=Jq hr1;obtain ⟨b2,o2,cs2,rfl,zm,hrow2,hr2⟩:=hh k B[k].dat (by simp [hk3]);obtain rfl:=Jq hr2;refine ak 8 ?_;intro a H;refine dI hmx [[],[],[0,1],[0,1,2],[],[],[4,5],[4,5,6],(ra 0 8)] [] (by kernel_rfl) [_,_,_,.agg A[k].cells.toArray,_,_,_,.agg B[k].cells.toArray,.bool (!decide (A[k]=B[k]))] H (aF (Z0 rfl (Rm rfl)) (Z0 rfl (Rm rfl)) (Z2 0 16 1 17 rfl (Ri yF oz rfl rfl)) ?_ (aF (Z0 rfl (Rm rfl)) (Z0 rfl (Rm rfl)) (Z2 4 20 5 21 rfl (Ri yF oz rfl rfl)) ?_ (bH ?_ cZ))) ?_
  ·refine eu 2 18 rfl rfl fun _ a w G1 hG HT H fin=>?_;refine aS oz (cs:=A[k].cells) H wn rfl rfl (fun j v hj=>H.hp.aI (aH hG (aH hgm (mH j v hj)))) rfl ?_;clear H;intro a H;exact fin H iJ rfl
  ·refine eu 6 22 rfl rfl fun _ a w G1 hG HT H fin=>?_;refine aS oz (cs:=B[k].cells) H wn rfl rfl (fun j v hj=>H.hp.aI (aH hG (aH hgm (hrow2 j v hj)))) rfl ?_;clear H;intro a H;exact fin H iJ rfl
  ·refine dH 3 19 7 23 rfl rfl fun _ a w G1 hG HT H fin=>?_;refine Vh (.inr rfl) ajn H wn rfl rfl rfl rfl ?_;clear H;intro a H;exact fin H iJ (dD (aou A[k] B[k]))
  clear H;intro a w G gI H hv;have H:=H.aN (hv 8 24 rfl rfl) rfl;clear hv;refine t0 1 H ?_;clear H;refine goC 0 ?_ ?_
  ·intro fu
   refine aQ 3 ?_;exact (dD (jc fun e=>absurd fu (by subst e;simp)).symm)
  intro fu
  try have jq:=dF fu
  have hsm:A[k]=B[k]:=by simpa using fu
  refine ak 4 ?_;intro a H;refine aC ?_;refine cB ((k+1,G)) sB ?_ ?_
  ·(try dsimp only);exact ⟨by omega,by rw [fQ hk2,fQ hk3,hsame,hsm],fun b o h=>gI b o (hgm b o h)⟩
  first|omega|(dsimp only;omega)
 intro jP
 refine aQ 4 ?_;exact (dD (iT (by rw [fK (by omega),fK (by omega)] at hsame;exact hsame)).symm)
theorem aja (G:GH) (w0:World) (hG:Hold G w0) (A B:List cK) (v u:aj) (hv:au G (.sl 4 (A.map cK.dat)) v) (hu:au G (.sl 4 (B.map cK.dat)) u) :
  Calls prog 104 #[v,u] w0 (bB w0 G fun r G'=>r=.bool (decide (A=B))):=by
 obtain ⟨vA,vc,rfl,hc1,hc2,hg⟩:=hv.slice;obtain ⟨uA,uc,rfl,hd1,hd2,hh⟩:=hu.slice;have hml:maxLen=9223372036854775807:=rfl;(iterate 2 rw [bM] at *);refine eN [(0,_),(1,_)] func104 rfl ntmps104 rfl rfl hG ?_;refine goB 11 ?_ ?_
 ·intro iD
  refine aQ 3 ?_;exact (dD (jc fun e=>absurd (aB List.length e) (by omega)).symm)
 intro iD
 refine ak 8 ?_;intro a H;refine eH (ι:=Nat × GH) (Tc:=[(0,_),(1,_),(12,_)]) (Lc:=[]) (fun gh=>[(13,vi gh.1)]) (fun gh=>[]) (fun gh=>gh.2) (fun gh=>gh.1≤A.length∧A.take gh.1=B.take gh.1∧(∀ b o,G b=some o→gh.2 b=some o)) (fun gh=>A.length - gh.1) ((0,G)) sB ?_ ?_
 ·exact ⟨by omega,rfl,fun _ _ h=>h⟩
 clear H;rintro ⟨k,g⟩ a w hI H;dsimp only at hI H;obtain ⟨hk,hsame,hgm⟩:=hI;dsimp only [lca,bG] at H;refine dQ 4 H ?_ ?_ <;> clear H
 ·intro jP
  have hk2:k < A.length:=by omega
  have hk3:k < B.length:=by omega
  obtain ⟨b1,o1,cs1,rfl,zl,mH,hr1⟩:=hg k A[k].dat (by simp [hk2]);obtain rfl:=Uo hr1;obtain ⟨b2,o2,cs2,rfl,zm,hrow2,hr2⟩:=hh k B[k].dat (by simp [hk3]);obtain rfl:=Uo hr2;refine ak 8 ?_;intro a H;refine dI hmx [[],[],[0,1],[0,1,2],[],[],[4,5],[4,5,6],(ra 0 8)] [] (by kernel_rfl) [_,_,_,.agg A[k].cells.toArray,_,_,_,.agg B[k].cells.toArray,.bool (!decide (A[k]=B[k]))] H (aF (Z0 rfl (Rm rfl)) (Z0 rfl (Rm rfl)) (Z2 0 16 1 17 rfl (Ri oC jw rfl rfl)) ?_ (aF (Z0 rfl (Rm rfl)) (Z0 rfl (Rm rfl)) (Z2 4 20 5 21 rfl (Ri oC jw rfl rfl)) ?_ (bH ?_ cZ))) ?_
  ·refine eu 2 18 rfl rfl fun _ a w G1 hG HT H fin=>?_;refine aS jw (cs:=A[k].cells) H wn rfl rfl (fun j v hj=>H.hp.aI (aH hG (aH hgm (mH j v hj)))) rfl ?_;clear H;intro a H;exact fin H iJ rfl
  ·refine eu 6 22 rfl rfl fun _ a w G1 hG HT H fin=>?_;refine aS jw (cs:=B[k].cells) H wn rfl rfl (fun j v hj=>H.hp.aI (aH hG (aH hgm (hrow2 j v hj)))) rfl ?_;clear H;intro a H;exact fin H iJ rfl
  ·refine dH 3 19 7 23 rfl rfl fun _ a w G1 hG HT H fin=>?_;refine Vh (.inr rfl) ajo H wn rfl rfl rfl rfl ?_;clear H;intro a H;exact fin H iJ (dD (aov A[k] B[k]))
  clear H;intro a w G gI H hv;have H:=H.aN (hv 8 24 rfl rfl) rfl;clear hv;refine t0 1 H ?_;clear H;refine goC 0 ?_ ?_
  ·intro fu
   refine aQ 3 ?_;exact (dD (jc fun e=>absurd fu (by subst e;simp)).symm)
  intro fu
  try have jq:=dF fu
  have hsm:A[k]=B[k]:=by simpa using fu
  refine ak 4 ?_;intro a H;refine aC ?_;refine cB ((k+1,G)) sB ?_ ?_
  ·(try dsimp only);exact ⟨by omega,by rw [fQ hk2,fQ hk3,hsame,hsm],fun b o h=>gI b o (hgm b o h)⟩
  first|omega|(dsimp only;omega)
 intro jP
 refine aQ 4 ?_;exact (dD (iT (by rw [fK (by omega),fK (by omega)] at hsame;exact hsame)).symm)
theorem dW.eq_iff (a b:dW):(((a.props=b.props∧a.marks.ins=b.marks.ins)∧a.marks.move=b.marks.move)∧a.marks.bL=b.marks.bL)∧a.marks.layers=b.marks.layers↔a=b:=by
 obtain ⟨p,i,m,d,l⟩:=a;obtain ⟨p2,i2,m2,d2,l2⟩:=b
 simp [and_assoc]
instance:DecidableEq dW:=fun a b=>decidable_of_iff _ (dW.eq_iff a b)
abbrev pq (h:dW) (p d l:aj):aj:=.agg #[p,vi h.marks.ins,vi h.marks.move,d,l]
theorem GN (G:GH) (w0:World) (hG:Hold G w0) (x y:dW) (p d l p2 d2 l2:aj) (hx:fC G x p d l) (hy:fC G y p2 d2 l2) :
  Calls prog 52 #[pq x p d l,pq y p2 d2 l2] w0 (bB w0 G fun r G'=>r=.bool (decide (x=y))):=by
 obtain ⟨pA,pc,rfl,-,-,-⟩:=hx.props.slice;obtain ⟨dA,dc,rfl,-,-,-⟩:=hx.bL.slice;obtain ⟨lA,lc,rfl,-,-,-⟩:=hx.layers.slice;obtain ⟨Ir,pc2,rfl,-,-,-⟩:=hy.props.slice;obtain ⟨GA,GI,rfl,-,-,-⟩:=hy.bL.slice;obtain ⟨lA2,lc2,rfl,-,-,-⟩:=hy.layers.slice;have he:=dW.eq_iff x y;refine eN [(0,_),(1,_)] func52 rfl ntmps52 rfl rfl hG ?_;refine ak 1 ?_;intro a H;refine dP (cs:=[_,_,_,_,_]) H wn rfl rfl rfl ?_;clear H;intro b2 a w hb2 H;refine dP (cs:=[_,_,_,_,_]) H wn rfl rfl rfl ?_;clear H;intro b3 a w hb3 H;refine aD 7 H ?_;clear H;intro a H;refine s_call XW H wn rfl (Yo _ _ H.ro x.props y.props _ _ hx.props hy.props) rfl ?_;clear H;rintro v9 G9 a w rfl wT H;refine pW 1 10 H ?_ ?_ <;> clear H
 ·intro iD
  refine lT 9 19 ?_ ?_
  ·intro sw
   refine jV 9 28 ?_ ?_
   ·intro vO
    try have p28:=dT vO
    refine ak 6 ?_;intro a H;refine s_call agl H (wg H rfl rfl vO) rfl (aiU _ _ H.ro x.marks.bL y.marks.bL _ _ (hx.bL.mono wT) (hy.bL.mono wT)) rfl ?_;clear H;rintro v35 V9 a w rfl ZG H;refine kT 2 37 H ?_ ?_ <;> clear H
    ·intro h37
     try have p37:=dT h37
     refine ak 6 ?_;intro a H;refine s_call agm H (wg H rfl rfl h37) rfl (aja _ _ H.ro x.marks.layers y.marks.layers _ _ ((hx.layers.mono wT).mono ZG) ((hy.layers.mono wT).mono ZG)) rfl ?_;clear H;rintro v44 Wd a w rfl J5 H;refine fH 3 H ?_;exact (dD (by simp_all))
    intro h37
    try have p37:=dF h37
    refine aQ 10 ?_;exact (dD (by simp_all))
   intro vO
   try have p28:=dF vO
   refine aQ 19 ?_;exact (dD (by simp_all))
  intro sw
  refine aQ 28 ?_;exact (dD (by simp_all))
 intro iD
 refine aQ 37 ?_;exact (dD (by simp_all))
end
section
open Go.RowKit
def pV:Nat→List cK→List (Int × List cK)
 | 0,_=>[]
 | _+1,[]=>[]
 | f+1,y :: r=>(y.key,y :: r.takeWhile fun z=>decide (z.key=y.key)) :: pV f (r.dropWhile fun z=>decide (z.key=y.key))
def mQ (acc:Int→Bool):List cK→Nat→Nat→Nat
 | [],_,c=>c
 | y :: r,k,c=>mQ acc r (k+1) (if acc y.rev=true then k+1 else c)
def wo (rej:Int→Bool) (wE:List (Int × Bool)):List cK→Nat→Int × Bool→List cK × (Int × Bool)
 | [],_,now=>([],now)
 | y :: r,k,now=>if rej y.rev=true then wo rej wE r (k+1) now else
  let q:=wo rej wE r (k+1) (wE.getD (k+1) (0,false))
  (⟨y.rev,y.key,now.1,now.2⟩ :: q.1,q.2)
def pJ (props:List aT) (key:Int) (l:List cK):List (Int × Bool):=l.map (fun y=>(y.before,y.had))++[yV props key]
def qE (acc rej:Int→Bool) (props:List aT) (key:Int) (l:List cK):List cK × (Int × Bool) :=
 wo rej (pJ props key l) (l.drop (mQ acc l 0 0)) (mQ acc l 0 0) ((pJ props key l).getD (mQ acc l 0 0) (0,false))
def yG (l:List aT) (k:Int) (s:Int × Bool):List aT:=if s.2=true then DW l k s.1 else C8 l k
def vM (acc rej:Int→Bool) (props:List aT):List (Int × List cK)→List aT × List cK→List aT × List cK
 | [],s=>s
 | (k,l) :: r,s=>vM acc rej props r (yG s.1 k (qE acc rej props k l).2,s.2++(qE acc rej props k l).1)
def kX (acc rej:Int→Bool) (h:dW):Prop:=(h.marks.ins≠0∧rej h.marks.ins=true)∨∃ x∈h.marks.bL,acc x.rev=true
instance (acc rej:Int→Bool) (h:dW):Decidable (kX acc rej h):=inferInstanceAs (Decidable (_∨_))
def tN (acc:Int→Bool) (h:dW):Prop:=h.marks.ins≠0∧acc h.marks.ins=true
instance (acc:Int→Bool) (h:dW):Decidable (tN acc h):=inferInstanceAs (Decidable (_∧_))
def lF (acc rej:Int→Bool) (h:dW):dW :=
 let q:=vM acc rej h.props (pV h.marks.layers.length h.marks.layers) (h.props,[])
 ⟨q.1,⟨if tN acc h then 0 else h.marks.ins,if tN acc h then 0 else h.marks.move,h.marks.bL.filter fun x=>!rej x.rev,q.2⟩⟩
def zQ:dW:=⟨[],⟨0,0,[],[]⟩⟩
def WI (b:Bool) (h:dW) (u:aj) (G:GH):Prop:=∃ p d l,u=.tuple #[pq h p d l,.bool b]∧fC G h p d l
theorem FQ (G:GH):fC G zQ (.slice none 0 0) (.slice none 0 0) (.slice none 0 0):=⟨au.gZ rfl (by decide),au.gZ rfl (by decide),au.gZ rfl (by decide)⟩
theorem ard (l:List aT) (k v:Int):(DW l k v).length≤l.length+1:=by
 unfold DW;split
 ·rw [List.length_set];omega
 have:=CZ (l.map aT.key) k;rw [bM] at this
 simp only [iC,List.length_take,ku,List.length_drop];omega
theorem afE (l:List aT) (k:Int):(C8 l k).length≤l.length:=by
 unfold C8;split
 ·have:=CZ (l.map aT.key) k;rw [bM] at this
  simp only [iC,List.length_take,List.length_drop];omega
 exact bP _
theorem adl (l:List aT) (k:Int) (s:Int × Bool):(yG l k s).length≤l.length+1:=by
 unfold yG;split
 ·exact ard _ _ _
 have:=afE l k;omega
theorem Um (rej:Int→Bool) (wE:List (Int × Bool)):∀ (l:List cK) (k:Nat) (now:Int × Bool),(wo rej wE l k now).1.length≤l.length
 | [],_,_=>by rw [wo];exact bP _
 | y :: r,k,now=>by
  rw [wo];split
  ·have:=Um rej wE r (k+1) now;simp only [ku];omega
  have:=Um rej wE r (k+1) (wE.getD (k+1) (0,false));simp only [ku];omega
theorem R7 (acc rej:Int→Bool) (props:List aT) (key:Int) (l:List cK):(qE acc rej props key l).1.length≤l.length:=by
 have:=Um rej (pJ props key l) (l.drop (mQ acc l 0 0)) (mQ acc l 0 0) ((pJ props key l).getD (mQ acc l 0 0) (0,false));rw [List.length_drop] at this
 unfold qE;omega
theorem JB:∀ (f:Nat) (l:List cK),l.length≤f→(pV f l).flatMap Prod.snd=l∧∀ q∈pV f l,q.2≠[]
 | 0,l,h=>by
  have:l=[]:=List.eq_nil_of_length_eq_zero (by omega);subst this;exact ⟨rfl,fun q hq=>by cases hq⟩
 | f+1,[],_=>⟨rfl,fun q hq=>by cases hq⟩
 | f+1,y :: r,h=>by
  have h2:(r.dropWhile fun z=>decide (z.key=y.key)).length≤f:=by
   have:=(List.dropWhile_sublist (l:=r) fun z=>decide (z.key=y.key)).length_le
   simp only [ku] at h;omega
  obtain ⟨e1,e2⟩:=JB f _ h2;rw [pV];refine ⟨?_,fun q hq=>?_⟩
  ·rw [List.flatMap_cons,e1]
   show (y :: _)++_=_
   rw [nu,List.takeWhile_append_dropWhile]
  rcases ko.1 hq with rfl|hq
  ·exact List.cons_ne_nil _ _
  exact e2 q hq
end
section
open Go.RowKit
theorem Vn:F8 prog 172:=⟨by kernel_rfl⟩
theorem aeQ:prog.cellsOf 5=1:=by kernel_rfl
theorem aoB (v:aj) (w:World):(callFunc 210 #[v]).run prog w=.ok (.value v) w:=aqm func210 (by kernel_rfl) (by kernel_rfl) (by kernel_rfl) (by kernel_rfl) v w
theorem IG:prog.underlying 169=some (.pointer 172):=by kernel_rfl
instance:kg prog 169 (.pointer 172):=⟨IG⟩
theorem VF:prog.underlying 280=some .unsafePointer:=by kernel_rfl
instance:kg prog 280 .unsafePointer:=⟨VF⟩
instance:dS prog 172 0 0:=⟨by kernel_rfl⟩
instance acM:Ty prog 169 1 8 [.pointer none] false:=⟨by kernel_rfl,by kernel_rfl⟩
theorem agR:∀ args w,(callFunc 154 args).run prog w=.ok (.enter 154 args) w:=enters func154 rfl (by kernel_rfl)
theorem LB:prog.underlying 170=some (.slice 5):=by kernel_rfl
instance:kg prog 170 (.slice 5):=⟨LB⟩
instance Yy:dS prog 172 1 1:=⟨by kernel_rfl⟩
instance Po:Ty prog 170 1 24 [.slice none 0 0] false:=⟨by kernel_rfl,by kernel_rfl⟩
theorem acQ:prog.underlying 231=some (.pointer 5):=by kernel_rfl
instance:kg prog 231 (.pointer 5):=⟨acQ⟩
end
section
open Go.RowKit
instance iA:Ty prog 49 1 8 [.int .i64 0] false:=⟨by kernel_rfl,by kernel_rfl⟩
theorem qm:prog.underlying 203=some (.slice 49):=by kernel_rfl
instance:kg prog 203 (.slice 49):=⟨qm⟩
theorem wL:∀ args w,(callFunc 128 args).run prog w=.ok (.enter 128 args) w:=enters func128 rfl (by kernel_rfl)
theorem wW (G:GH) (w0:World) (hG:Hold G w0) (n l h:Int):Calls prog 128 #[vi n,vi l,vi h] w0 (bB w0 G fun u G'=>u=.bool (decide (l≤n∧n≤h))∧G=G'):=by
 refine eN [(0,_),(1,_),(2,_)] func128 rfl ntmps128 rfl rfl hG ?_;refine lT 8 10 ?_ ?_
 ·intro iD
  refine aQ 6 ?_;exact ⟨dD (by first|(simp_all;done)|(simp_all;omega)),rfl⟩
 intro iD
 refine aQ 6 ?_;exact ⟨dD (by first|(simp_all;done)|(simp_all;omega)),rfl⟩
def dx (b:Bool) (e:Int):Int:=if b=true then e else 0
theorem jH (G:GH) (w0:World) (hG:Hold G w0) (b:Bool) (e:Int):Calls prog 71 #[.bool b,vi e] w0 (bB w0 G fun u G'=>u=vi (dx b e)∧G=G'):=by
 refine eN [(0,_),(1,_)] func71 rfl ntmps71 rfl rfl hG ?_;refine goB 7 ?_ ?_
 ·intro p5
  refine aQ 4 ?_;exact ⟨aB vi (by simp_all [dx]),rfl⟩
 intro p5
 refine aQ 4 ?_;exact ⟨aB vi (by simp_all [dx]),rfl⟩
def cO:List Int→Int
 | []=>0
 | e :: r=>if e≠0 then e else cO r
theorem Nf {l:List Int} {k:Nat} (h:k < l.length):cO (l.drop k)=if l[k]≠0 then l[k] else cO (l.drop (k+1)):=by
 rw [pO h,cO]
theorem qD (G:GH) (w0:World) (hG:Hold G w0) (l:List Int) (v:aj) (hv:au G (.sl 1 (l.map fun k=>[li k])) v) :
  Calls prog 66 #[v] w0 (bB w0 G fun u G'=>u=vi (cO l)∧G=G'):=by
 obtain ⟨A,c,rfl,hc1,hc2,hg⟩:=hv.slice;have hml:maxLen=9223372036854775807:=rfl;rw [bM] at *;refine eN [(0,_)] func66 rfl ntmps66 rfl rfl hG ?_;refine ak 10 ?_;intro a H;refine eH (ι:=Nat) (Tc:=[(5,_),(6,_)]) (Lc:=[]) (fun gh=>[(7,vi gh)]) (fun gh=>[]) (fun gh=>G) (fun gh=>gh≤l.length∧cO (l.drop gh)=cO l) (fun gh=>l.length - gh) (0) sB ?_ ?_
 ·exact ⟨gW _,rfl⟩
 clear H;intro k a w hI H;obtain ⟨hk,he⟩:=hI;dsimp only [lca,bG] at H;refine dQ 4 H ?_ ?_ <;> clear H
 ·intro p8
  have hk2:k < l.length:=by omega
  obtain ⟨b,o,cs,rfl,hcl,hrow,hr⟩:=hg k [li l[k]] (by simp [hk2]);obtain ⟨v1,_,rfl,⟨rfl,-⟩,rfl⟩:∃ v vs,cs=v :: vs∧au G (li l[k]) v∧aW G [] vs:=hr
  have hcell:aI G b (o+k*1)=some (vi l[k]):=by simpa using hrow 0 _ rfl
  refine goB 12 ?_ ?_
  ·intro pI
   refine aQ 4 ?_;exact ⟨aB vi (by rw [Nf hk2,av pI] at he;exact he),rfl⟩
  intro pI
  refine ak 4 ?_;intro a H;refine aC ?_;refine cB ((k+1)) sB ?_ ?_
  ·exact ⟨by omega,by rw [Nf hk2,ah pI] at he;exact he⟩
  first|omega|(dsimp only;omega)
 intro p8
 refine aQ 4 ?_;exact ⟨aB vi (by rw [kC (by omega)] at he;exact he),rfl⟩
def sO (fv:aj) (Gi:GH) (n:Nat) (E:Nat→Int):Prop:=∀ i,i < n→∀ (G1:GH) (w1:World),(∀ b o,Gi b=some o→G1 b=some o)→Hold G1 w1→qp prog fv [vi i] w1 (bB w1 G1 fun u G'=>u=vi (E i))
theorem sO.mono {fv:aj} {G G':GH} {n:Nat} {E:Nat→Int} (h:sO fv G n E) (hm:∀ b o,G b=some o→G' b=some o):sO fv G' n E:=fun i hi G1 w1 hG1=>h i hi G1 w1 fun b o hb=>hG1 b o (hm b o hb)
def iH (E:Nat→Int) (n:Nat):Int:=cO ((List.range n).map E)
theorem Bt {E:Nat→Int} {n k:Nat} (h:k < n):cO (((List.range n).map E).drop k)=if E k≠0 then E k else cO (((List.range n).map E).drop (k+1)):=by
 rw [Nf (by simpa using h)];simp
theorem Je (G:GH) (w0:World) (hG:Hold G w0) (n:Nat) (E:Nat→Int) (fv:aj) (hn:n≤4611686018427387904) (hf:sO fv G n E) :
  Calls prog 123 #[vi n,fv] w0 (bB w0 G fun u G'=>u=vi (iH E n)):=by
 refine eN [(0,_),(1,_)] func123 rfl ntmps123 rfl rfl hG ?_;refine ak 9 ?_;intro a H;refine eH (ι:=Nat × GH) (Tc:=[(1,_),(7,_)]) (Lc:=[]) (fun gh=>[(8,vi gh.1)]) (fun gh=>[]) (fun gh=>gh.2) (fun gh=>gh.1≤n∧cO (((List.range n).map E).drop gh.1)=iH E n∧(∀ b o,G b=some o→gh.2 b=some o)) (fun gh=>n - gh.1) ((0,G)) sB ?_ ?_
 ·exact ⟨gW _,rfl,fun _ _ h=>h⟩
 clear H;rintro ⟨k,g⟩ a w hI H;dsimp only at hI H;obtain ⟨hk,he,hgm⟩:=hI;dsimp only [lca,bG] at H;refine dQ 4 H ?_ ?_ <;> clear H
 ·intro p9
  have hk2:k < n:=by omega
  refine ak 10 ?_;intro a H;refine ji H wn rfl rfl (hf k hk2 _ _ hgm H.ro) rfl ?_;clear H;rintro v13 FV a w rfl Hw H;refine gQ 6 H ?_ ?_ <;> clear H
  ·intro qX
   refine aQ 4 ?_;exact (aB vi (by rw [Bt hk2,av qX] at he;exact he))
  intro qX
  refine ak 4 ?_;intro a H;refine aC ?_;refine cB ((k+1,FV)) sB ?_ ?_
  ·(try dsimp only);exact ⟨by omega,by rw [Bt hk2,ah qX] at he;exact he,fun b o h=>Hw b o (hgm b o h)⟩
  first|omega|(dsimp only;omega)
 intro p9
 refine aQ 4 ?_;exact (aB vi (by rw [kC (by simp;omega)] at he;exact he))
def qd (id:Nat→Int) (i:Nat):Int:=if ¬ (1≤id i∧id i≤1073741824) then 18 else if 0 < i∧id i=id (i - 1) then 7 else if 0 < i∧id i < id (i - 1) then 6 else 0
theorem Uf (G:GH) (w0:World) (hG:Hold G w0) (i:Nat) (id:Nat→Int) (fv:aj) (hn:i≤4611686018427387904) (hf:sO fv G (i+1) id) :
  Calls prog 125 #[vi i,fv] w0 (bB w0 G fun u G'=>u=vi (qd id i)):=by
 refine eN [(0,_),(1,_)] func125 rfl ntmps125 rfl rfl hG ?_;intro a H;refine kP H (SQ fun _ K1=>SC (gu K1 rfl (SQ fun _ K2=>SB (SQ fun _ K3=>SC (Rm rfl (Rm rfl ?_))))));clear H K1;intro a H;refine ji H wn rfl rfl (hf i (Nat.lt_succ_self _) _ _ (fun _ _ h=>h) H.ro) rfl ?_;clear H;rintro v8 G8 a w rfl mG H;refine s_call wL H wn rfl (wW _ _ H.ro (id i) 1 1073741824) rfl ?_;clear H;rintro v9 _ a w ⟨rfl,rfl⟩ - H;refine kH H (Rn rfl (gu K3 rfl (Cd rfl ?_ ?_))) <;> clear H K3
 ·intro h5 a H
  try have p5:=dT h5
  refine kP H (SQ fun _ K4=>SC (gu K4 rfl ?_));clear H K4;intro a H;refine lr H results125 rfl ?_
  exact H.rt (aB vi (by unfold qd;(repeat' split) <;> first|rfl|(exfalso;simp_all;done)|(exfalso;simp_all;omega)))
 intro h5 a H
 try have p5:=dF h5
 refine kP H (SQ fun _ K5=>SC (Rm rfl (Rc rfl (Rm rfl (Sp 14 rfl ?_ ?_))))) <;> clear H
 ·intro kD a H
  try have jP:=dT kD
  refine kH H (YM kD rfl (YM kD rfl ?_));clear H;intro a H;refine ji H (wg H rfl rfl kD) rfl rfl (hf i (Nat.lt_succ_self _) _ _ mG H.ro) rfl ?_;clear H;rintro v17 yM a w rfl qV H;refine kH H (YM kD rfl (YM kD rfl ?_));clear H;intro a H;refine lK _ H (wg H rfl rfl kD) rfl rfl rfl (by omega) (by omega) rfl ?_;clear H;intro a H;rw [show ((i:Int) - 1)=((i - 1:Nat):Int) by omega] at H;refine ji H (wg H rfl rfl kD) rfl rfl (hf (i - 1) (by omega) _ _ (fun b o h=>qV b o (mG b o h)) H.ro) rfl ?_;clear H;rintro v21 IY a w rfl pY H;refine kH H (YC kD rfl (Pt kD rfl (gu K5 rfl (Cd rfl ?_ ?_)))) <;> clear H K5
  ·intro h11 a H
   try have qj:=dT h11
   refine kP H (SQ fun _ K6=>SC (gu K6 rfl ?_));clear H K6;intro a H;refine lr H results125 rfl ?_
   exact H.rt (aB vi (by unfold qd;(repeat' split) <;> first|rfl|(exfalso;simp_all;done)|(exfalso;simp_all;omega)))
  intro h11 a H
  try have qj:=dF h11
  refine kP H (SQ fun _ K7=>SC (Rm rfl (Rc rfl (Rm rfl (Sp 27 rfl ?_ ?_))))) <;> clear H
  ·intro h27 a H
   try have p27:=dT h27
   refine kH H (YM h27 rfl (YM h27 rfl ?_));clear H;intro a H;refine ji H (wg H rfl rfl h27) rfl rfl (hf i (Nat.lt_succ_self _) _ _ (fun b o h=>by first|exact pY b o (qV b o (mG b o h))|(exfalso;omega)) H.ro) rfl ?_;clear H;rintro v30 zV a w rfl Au H;refine kH H (YM h27 rfl (YM h27 rfl ?_));clear H;intro a H;refine lK _ H (wg H rfl rfl h27) rfl rfl rfl (by omega) (by omega) rfl ?_;clear H;intro a H;rw [show ((i:Int) - 1)=((i - 1:Nat):Int) by omega] at H;refine ji H (wg H rfl rfl h27) rfl rfl (hf (i - 1) (by omega) _ _ (fun b o h=>by first|exact Au b o (pY b o (qV b o (mG b o h)))|(exfalso;omega)) H.ro) rfl ?_;clear H;rintro v34 Md a w rfl HZ H;refine kH H (YC h27 rfl (Pt h27 rfl (gu K7 rfl (Cd rfl ?_ ?_)))) <;> clear H K7
   ·intro fu a H
    try have jq:=dT fu
    refine kP H (SQ fun _ K8=>SC (gu K8 rfl ?_));clear H K8;intro a H;refine lr H results125 rfl ?_
    exact H.rt (aB vi (by unfold qd;(repeat' split) <;> first|rfl|(exfalso;simp_all;done)|(exfalso;simp_all;omega)))
   intro fu a H
   try have jq:=dF fu
   refine kP H (Kc K2 (SQ fun _ K9=>SC (gu K9 rfl ?_)));clear H K2 K9;intro a H;refine lr H results125 rfl ?_
   exact H.rt (aB vi (by unfold qd;(repeat' split) <;> first|rfl|(exfalso;simp_all;done)|(exfalso;simp_all;omega)))
  intro h27 a H
  try have p27:=dF h27
  refine kH H (jR h27 rfl (jR h27 rfl (nK h27 rfl (Pf h27 rfl (gu K7 rfl (Cf rfl rfl (Kc K2 (SQ fun _ vB=>SC (gu vB rfl ?_)))))))));clear H K7 K2 vB;intro a H;refine lr H results125 rfl ?_
  exact H.rt (aB vi (by unfold qd;(repeat' split) <;> first|rfl|(exfalso;simp_all;done)|(exfalso;simp_all;omega)))
 intro kD a H
 try have jP:=dF kD
 refine kH H (jR kD rfl (jR kD rfl (nK kD rfl (Pf kD rfl (gu K5 rfl (Cf rfl rfl (SQ fun _ nJ=>SC (Rm rfl (Rc rfl (Rm rfl (Sp 27 rfl ?_ ?_))))))))))) <;> clear H K5
 ·intro h27 a H
  try have p27:=dT h27
  refine kH H (YM h27 rfl (YM h27 rfl ?_));clear H;intro a H;refine ji H (wg H rfl rfl h27) rfl rfl (hf i (Nat.lt_succ_self _) _ _ (fun b o h=>by first|exact pY b o (qV b o (mG b o h))|(exfalso;omega)) H.ro) rfl ?_;clear H;rintro v30 zV a w rfl Au H;refine kH H (YM h27 rfl (YM h27 rfl ?_));clear H;intro a H;refine lK _ H (wg H rfl rfl h27) rfl rfl rfl (by omega) (by omega) rfl ?_;clear H;intro a H;rw [show ((i:Int) - 1)=((i - 1:Nat):Int) by omega] at H;refine ji H (wg H rfl rfl h27) rfl rfl (hf (i - 1) (by omega) _ _ (fun b o h=>by first|exact Au b o (pY b o (qV b o (mG b o h)))|(exfalso;omega)) H.ro) rfl ?_;clear H;rintro v34 Md a w rfl HZ H;refine kH H (YC h27 rfl (Pt h27 rfl (gu nJ rfl (Cd rfl ?_ ?_)))) <;> clear H nJ
  ·intro fu a H
   try have jq:=dT fu
   refine kP H (SQ fun _ uh=>SC (gu uh rfl ?_));clear H uh;intro a H;refine lr H results125 rfl ?_
   exact H.rt (aB vi (by unfold qd;(repeat' split) <;> first|rfl|(exfalso;simp_all;done)|(exfalso;simp_all;omega)))
  intro fu a H
  try have jq:=dF fu
  refine kP H (Kc K2 (SQ fun _ zW=>SC (gu zW rfl ?_)));clear H K2 zW;intro a H;refine lr H results125 rfl ?_
  exact H.rt (aB vi (by unfold qd;(repeat' split) <;> first|rfl|(exfalso;simp_all;done)|(exfalso;simp_all;omega)))
 intro h27 a H
 try have p27:=dF h27
 refine kH H (jR h27 rfl (jR h27 rfl (nK h27 rfl (Pf h27 rfl (gu nJ rfl (Cf rfl rfl (Kc K2 (SQ fun _ I7=>SC (gu I7 rfl ?_)))))))));clear H nJ K2 I7;intro a H;refine lr H results125 rfl ?_
 exact H.rt (aB vi (by unfold qd;(repeat' split) <;> first|rfl|(exfalso;simp_all;done)|(exfalso;simp_all;omega)))
end
section
open Go.RowKit
theorem jC:∀ args w,(callFunc 71 args).run prog w=.ok (.enter 71 args) w:=enters func71 rfl (by kernel_rfl)
theorem qC:∀ args w,(callFunc 66 args).run prog w=.ok (.enter 66 args) w:=enters func66 rfl (by kernel_rfl)
def wI (s:ByteArray):Bool:=decide (1≤s.size∧s.size≤40) && qo s
theorem WT (G:GH) (w0:World) (hG:Hold G w0) (s:ByteArray) (hs:s.size < 4611686018427387904):Calls prog 127 #[.string s] w0 (bB w0 G fun u G'=>u=.bool (wI s)∧G=G'):=by
 refine eN [(0,_)] func127 rfl ntmps127 rfl rfl hG ?_;refine jV 8 6 ?_ ?_
 ·intro h6
  try have p6:=dT h6
  refine ak 1 ?_;intro a H;refine DT jG H (wg H rfl rfl h6) rfl rfl ?_;clear H;refine jV 3 11 ?_ ?_
  ·intro h11
   try have qj:=dT h11
   refine ak 1 ?_;intro a H;refine s_call Jt H (wg H rfl rfl h11) rfl (LH _ _ H.ro s hs) rfl ?_;clear H;rintro v13 _ a w ⟨rfl,rfl⟩ - H;refine fH 3 H ?_;exact ⟨dD (by unfold wI;first|(simp_all;done)|(simp_all;omega)),rfl⟩
  intro h11
  try have qj:=dF h11
  refine aQ 5 ?_;exact ⟨dD (by unfold wI;first|(simp_all;done)|(simp_all;omega)),rfl⟩
 intro h6
 try have p6:=dF h6
 refine aQ 10 ?_;exact ⟨dD (by unfold wI;first|(simp_all;done)|(simp_all;omega)),rfl⟩
def Cy (s:ByteArray):Int:=cO [dx (!qo s) 12,dx (decide (1024 < (s.size:Int))) 10]
theorem yC {G:GH} {b:Nat} {x y:Int} (h:G b=some (.cells #[vi x,vi y] 49 (0,0))):au G (.sl 1 ([x,y].map fun k=>[li k])) (.slice (some ⟨b,0,none⟩) 2 2) :=
 au.eX (n:=2) (cap:=2) h rfl (bP _) (show 2≤maxLen by decide) (fK (bP _)) (fF G [x,y])
theorem Vu (G:GH) (w0:World) (hG:Hold G w0) (s:ByteArray) (hs:s.size < 4611686018427387904):Calls prog 190 #[.string s] w0 (bB w0 G fun u G'=>u=vi (Cy s)):=by
 refine eN [(0,_)] func190 rfl ntmps190 rfl rfl hG ?_;refine ak 5 ?_;intro a H;refine s_call Jt H wn rfl (LH _ _ H.ro s hs) rfl ?_;clear H;rintro v4 _ a w ⟨rfl,rfl⟩ - H;refine aD 1 H ?_;clear H;intro a H;refine s_call jC H wn rfl (jH _ _ H.ro _ 12) rfl ?_;clear H;rintro v6 _ a w ⟨rfl,rfl⟩ - H;refine aD 3 H ?_;clear H;intro a H;refine s_call jC H wn rfl (jH _ _ H.ro _ 10) rfl ?_;clear H;rintro v10 _ a w ⟨rfl,rfl⟩ - H;refine gJ qm iA [_,_] [_,_] H wn rfl rfl rfl rfl rfl (by intro i q h;match i,h with|0,h=>exact h|1,h=>exact h|n+2,h=>simp at h) rfl rfl ?_;clear H;intro b11 a w EA H;obtain ⟨ru,BO,Aq,H⟩:=H.dZ;refine s_call qC H wn rfl (qD _ _ H.ro _ _ (yC Aq)) rfl ?_;clear H;rintro v12 _ a w ⟨rfl,rfl⟩ - H;refine fH 2 H ?_;exact rfl
def Oq (c:Int):Bool:=decide (97≤vI .or .u8 c 32) && decide (vI .or .u8 c 32≤122)
def Fp (c:Int):Bool:=(decide (48≤c) && decide (c≤57)) || decide (c=45) || decide (c=95)
def AL (s:ByteArray) (k:Nat):Bool:=Oq (fZ s k) || (decide (k≠0) && Fp (fZ s k))
def qP (s:ByteArray):Bool:=decide (1≤s.size∧s.size≤40) && (List.range s.size).all (AL s)
theorem QH (G:GH) (w0:World) (hG:Hold G w0) (s:ByteArray) (hs:s.size < 4611686018427387904):Calls prog 192 #[.string s] w0 (bB w0 G fun u G'=>u=.bool (qP s)∧G=G'):=by
 refine eN [(0,_)] func192 rfl ntmps192 rfl rfl hG ?_;refine jV 9 10 ?_ ?_
 ·intro h10
  try have iD:=dT h10
  refine aQ 9 ?_;exact ⟨dD (by unfold qP;rw [jc (by omega)];rfl),rfl⟩
 intro h10
 try have iD:=dF h10
 refine ak 1 ?_;intro a H;refine DT jG H (wg H rfl rfl h10) rfl rfl ?_;clear H;refine goB 3 ?_ ?_
 ·intro jP
  refine aQ 3 ?_;exact ⟨dD (by unfold qP;rw [jc (by omega)];rfl),rfl⟩
 intro jP
 refine ak 8 ?_;intro a H;refine eH (ι:=Nat) (Tc:=[(0,_),(16,_)]) (Lc:=[]) (fun gh=>[(17,vi gh)]) (fun gh=>[]) (fun gh=>G) (fun gh=>gh≤s.size∧(List.range gh).all (AL s)=true) (fun gh=>s.size - gh) (0) sB ?_ ?_
 ·exact ⟨gW _,rfl⟩
 clear H;intro k a w hI H;obtain ⟨hk,hall⟩:=hI;dsimp only [lca,bG] at H;refine dQ 4 H ?_ ?_ <;> clear H
 ·intro qJ
  have hk2:k < s.size:=by omega
  refine ak 10 ?_;intro a H;refine oL k jG H wn rfl rfl rfl (by omega) rfl ?_;clear H;intro a H;rw [← kW] at H;refine OX rfl H wn rfl rfl rfl ?_;clear H;refine ak 2 ?_;intro a H;refine qz (ι:=Bool) (Tc:=[(0,_),(3,_),(16,_),(17,_)]) (Lc:=[]) (fun gh=>[(5,.bool gh)]) (fun gh=>[]) (fun gh=>G) (fun gh=>gh=Oq (fZ s k)) sB ?_ ?_
  ·refine Ak 4 26 H ?_ ?_ <;> clear H
   ·intro p26
    refine ak 4 ?_;intro a H;refine aC ?_;refine ⟨_,sB,?_⟩
    unfold Oq;first|(simp_all;done)|(simp_all;omega)
   intro p26
   refine ak 4 ?_;intro a H;refine aC ?_;refine ⟨_,sB,?_⟩
   unfold Oq;first|(simp_all;done)|(simp_all;omega)
  clear H;intro lt a w hI H;have hlt:=hI;dsimp only [lca,bG] at H;refine qz (ι:=Bool) (Tc:=[(0,_),(3,_),(5,_),(16,_),(17,_)]) (Lc:=[]) (fun gh=>[(6,.bool gh)]) (fun gh=>[]) (fun gh=>G) (fun gh=>gh=Fp (fZ s k)) sB ?_ ?_
  ·refine fO 3 H ?_;clear H;intro a H;refine oL k jG H wn rfl rfl rfl (by omega) rfl ?_;clear H;intro a H;rw [← kW] at H;refine kT 2 34 H ?_ ?_ <;> clear H
   ·intro kY
    try have p34:=dT kY
    refine ak 2 ?_;intro a H;refine oL k jG H (wg H rfl rfl kY) rfl rfl rfl (by omega) rfl ?_;clear H;intro a H;rw [← kW] at H;refine kT 3 40 H ?_ ?_ <;> clear H
    ·intro tC
     try have p40:=dT tC
     refine ak 12 ?_;intro a H;refine aC ?_;refine ⟨_,sB,?_⟩
     unfold Fp;first|(simp_all;done)|(simp_all;omega)
    intro tC
    try have p40:=dF tC
    refine ak 2 ?_;intro a H;refine oL k jG H (wg H rfl rfl tC) rfl rfl rfl (by omega) rfl ?_;clear H;intro a H;rw [← kW] at H;refine kT 3 46 H ?_ ?_ <;> clear H
    ·intro h46
     try have p46:=dT h46
     refine ak 6 ?_;intro a H;refine aC ?_;refine ⟨_,sB,?_⟩
     unfold Fp;first|(simp_all;done)|(simp_all;omega)
    intro h46
    try have p46:=dF h46
    refine ak 2 ?_;intro a H;refine oL k jG H (wg H rfl rfl h46) rfl rfl rfl (by omega) rfl ?_;clear H;intro a H;rw [← kW] at H;refine aD 3 H ?_;clear H;intro a H;refine aC ?_;refine ⟨_,sB,?_⟩
    unfold Fp;first|(simp_all;done)|(simp_all;omega)
   intro kY
   try have p34:=dF kY
   refine ak 6 ?_;intro a H;(iterate 2 refine Fy H (wg H rfl rfl rfl) rfl rfl ?_;clear H;intro a H);refine oL k jG H (wg H rfl rfl rfl) rfl rfl rfl (by omega) rfl ?_;clear H;intro a H;rw [← kW] at H;refine Fw H (wg H rfl rfl rfl) rfl rfl rfl rfl ?_;clear H;refine jV 2 46 ?_ ?_
   ·intro h46
    try have p46:=dT h46
    refine ak 6 ?_;intro a H;refine aC ?_;refine ⟨_,sB,?_⟩
    unfold Fp;first|(simp_all;done)|(simp_all;omega)
   intro h46
   try have p46:=dF h46
   refine ak 2 ?_;intro a H;refine oL k jG H (wg H rfl rfl h46) rfl rfl rfl (by omega) rfl ?_;clear H;intro a H;rw [← kW] at H;refine aD 3 H ?_;clear H;intro a H;refine aC ?_;refine ⟨_,sB,?_⟩
   unfold Fp;first|(simp_all;done)|(simp_all;omega)
  clear H;intro ot a w hI H;have hot:=hI;dsimp only [lca,bG] at H;refine Ak 4 54 H ?_ ?_ <;> clear H
  ·intro p54
   refine lT 3 57 ?_ ?_
   ·intro p57
    refine aQ 9 ?_
    first
     | exact ⟨dD (by
       unfold qP
       rw [show k=s.size by omega] at hall
       rw [hall,iT (by omega)];rfl),rfl⟩
     | exact ⟨dD (by
       unfold qP
       rw [show (List.range s.size).all (AL s)=false from List.all_eq_false.2 ⟨k,by simpa using hk2,by unfold AL;simp_all⟩,Bool.and_false]),rfl⟩
   intro p57
   refine goB 5 ?_ ?_
   ·intro p61
    refine aQ 3 ?_
    first
     | exact ⟨dD (by
       unfold qP
       rw [show k=s.size by omega] at hall
       rw [hall,iT (by omega)];rfl),rfl⟩
     | exact ⟨dD (by
       unfold qP
       rw [show (List.range s.size).all (AL s)=false from List.all_eq_false.2 ⟨k,by simpa using hk2,by unfold AL;simp_all⟩,Bool.and_false]),rfl⟩
   intro p61
   refine ak 4 ?_;intro a H;refine aC ?_;refine cB ((k+1)) sB ?_ ?_
   ·exact ⟨by omega,by rw [List.range_succ,List.all_append,hall];simp [AL];simp_all⟩
   first|omega|(dsimp only;omega)
  intro p54
  refine ak 13 ?_;intro a H;refine aC ?_;refine cB ((k+1)) sB ?_ ?_
  ·exact ⟨by omega,by rw [List.range_succ,List.all_append,hall];simp [AL];simp_all⟩
  first|omega|(dsimp only;omega)
 intro qJ
 refine aQ 4 ?_
 first
  | exact ⟨dD (by
    unfold qP
    rw [show k=s.size by omega] at hall
    rw [hall,iT (by omega)];rfl),rfl⟩
  | exact ⟨dD (by
    unfold qP
    rw [show (List.range s.size).all (AL s)=false from List.all_eq_false.2 ⟨k,by simpa using hk2,by unfold AL;simp_all⟩,Bool.and_false]),rfl⟩
end
section
open Go.RowKit
section
variable {N:Nat} {D:List Deferred} {w0:World} {F:Nat→Prop} {G0 G:GH} {L:OL} {T:List (Nat × aj)}
variable {r:Option Nat} {P:Program} {ops:Array Oper} {Q:Exit→Act→World→Prop} {rest:List Oper} {a:Act} {w:World}
variable {d:Nat} {ty:TypeId} {pos:String} {aO:Array Edge} {g:Option (Nat × Bool)}
end
end
section
open Go.RowKit
section
variable {N:Nat} {D:List Deferred} {w0:World} {F:Nat→Prop} {G0 G:GH} {L:OL} {T T':List (Nat × aj)}
variable {r:Option Nat} {P:Program} {Q:Exit→Act→World→Prop} {l:List Oper} {a a':Act} {w w':World} {ε:Type}
def F9 (l:List Oper) (pr:ε→Nat→aj→Prop) (T:List (Nat × aj)) (S:Nat→Bool) (E:ε) (T':List (Nat × aj)):Prop :=
 (∀ t v,lk T t=some v→lk T' t=some v)∧∀ i d,S i=true→dX l i=some d→∃ v,lk T' d=some v∧pr E i v
theorem F9.put {pr:ε→Nat→aj→Prop} {S:Nat→Bool} {E E':ε} {i d:Nat} {v:aj} (h:F9 l pr T S E T') (hok:afZ l T=true) (hi:dX l i=some d) (hv:pr E' i v) (hE:∀ j u,j≠i→pr E j u→pr E' j u):F9 l pr T (dh S i) E' ((d,v) :: T'):=by
 have hil:=qB hi
 have hok1:=jS.1 hok i (sQ.2 hil)
 rw [nZ,hi] at hok1
 simp only [mq,Option.isNone_iff_eq_none,jS,sQ] at hok1
 refine ⟨fun t u ht=>?_,fun j e hj he=>?_⟩
 ·rw [uU (fun e=>by subst e;rw [hok1.1] at ht;cases ht)];exact h.1 t u ht
 ·by_cases hji:j=i
  ·subst hji;rw [hi] at he;cases he;exact ⟨v,wz _ _ _,hv⟩
  ·have hSj:S j=true:=by unfold dh at hj;rwa [ah hji] at hj
   obtain ⟨u,hu1,hu2⟩:=h.2 j e hSj he
   have hne:d≠e:=by
    intro e';subst e'
    have h2:=hok1.2 j (qB he)
    have hb:Nat.beq i j=false:=nX (fun h=>hji h.symm)
    rw [hb,he] at h2
    simp at h2
   exact ⟨u,by rw [uU hne];exact hu1,hE j u hji hu2⟩
theorem F9.add {pr:ε→Nat→aj→Prop} {S:Nat→Bool} {E:ε} (h:F9 l pr T S E T') {t:Nat} {u:aj} (hu:lk T' t=some u):F9 l pr T S E ((t,u) :: T'):=by
 have e:∀ s v,lk T' s=some v→lk ((t,u) :: T') s=some v:=fun s v hs=>by
  by_cases hst:t=s
  ·subst hst;rw [hu] at hs;cases hs;exact wz _ _ _
  ·rw [uU hst];exact hs
 exact ⟨fun s v hs=>e s v (h.1 s v hs),fun i d hi hd=>by
  obtain ⟨v,h1,h2⟩:=h.2 i d hi hd
  exact ⟨v,e d v h1,h2⟩⟩
end
end
section
open Go.RowKit
section
variable {N:Nat} {D:List Deferred} {w0:World} {F:Nat→Prop} {G0 G G1 G2:GH} {L L1:OL} {T Xs:List (Nat × aj)}
variable {r:Option Nat} {P:Program} {Q:Exit→Act→World→Prop} {l:List Oper} {a a':Act} {w w':World}
theorem El {id:Nat} (hm:P.follows .mixedOrders=true) (bJ:List (List Nat)) (B:List Nat) (hk:wK l bJ=true) (hB:uY l bJ B=true) (X:(Nat→Bool)→Act→World→Prop) (h0:X (fun _=>false) a w.drew)
  (hstep:∀ i o S a w,l[i]?=some o→B.contains i=false→S i=false→(∀ j∈bJ.getD i [],S j=true)→(∀ j,j < l.length→i∈bJ.getD j []→S j=false)→X S a w→WL r P l.toArray (fun e a' w'=>e=.normal∧X (dh S i) a' w') [o] a w)
  (hend:∀ S a w,(∀ i,i < l.length→B.contains i=false→S i=true)→(∀ i,B.contains i=true→S i=false)→X S a w→WL r P l.toArray (fun e a w=>e=.normal∧Q .normal a w) (oq l B) a w):WP r P (.region id l.toArray true) Q a w:=by
 have hB1:∀ p b,B[p]?=some b→b < l.length∧∀ i,i < l.length→(B.contains i=false∨(B.take p).contains i=true)→i∈bJ.getD b []:=by
  intro p b hp
  simp only [uY,mq] at hB
  have h1:=jS.1 hB.1 p (sQ.2 (jA.1 hp).1)
  rw [hp] at h1
  simp only [mq,jS,sQ] at h1
  refine ⟨Eq.mp Nat.blt_eq h1.1,fun i hi hor=>?_⟩
  have h2:=h1.2 i hi
  rcases hor with h3|h3
  ·have h4:i∉B:=by simpa using h3
   simpa [h4] using h2
  ·have h4:i∈B.take p:=by simpa using h3
   simpa [h4] using h2
 have hB2:∀ i,i < l.length→B.contains i=false→∀ j∈bJ.getD i [],B.contains j=false:=by
  intro i hi hb j hj
  simp only [uY,mq] at hB
  have h1:=jS.1 hB.2 i (sQ.2 hi)
  rw [hb] at h1
  simp only [Bool.false_or,jS] at h1
  simpa using h1 j hj
 refine Xh hm bJ hk (fun S a w=>((∀ i,B.contains i=true→S i=false)∧X S a w) ∨
   ∃ p,(∀ i,i < l.length→B.contains i=false→S i=true)∧(∀ i,(B.take p).contains i=true→S i=true)∧(∀ q b,B[q]?=some b→p≤q→S b=false)∧WL r P l.toArray (fun e a w=>e=.normal∧Q .normal a w) (oq l (B.drop p)) a w)
  (.inl ⟨fun _ _=>rfl,h0⟩) ?_ ?_
 ·intro i o S a w ho hX aL iL hdesc
  have hil:i < l.length:=(jA.1 ho).1
  by_cases hbi:B.contains i=true
  ·-- an operation of the tail: all that stands ahead of it is done
   obtain ⟨p0,hp0⟩:=List.getElem?_of_mem (by simpa using hbi:i∈B)
   have hall:∀ j,j < l.length→B.contains j=false→S j=true:=fun j hj hb=>iL j ((hB1 p0 i hp0).2 j hj (.inl hb))
   have TF:∃ p,(∀ i,(B.take p).contains i=true→S i=true)∧(∀ q b,B[q]?=some b→p≤q→S b=false)∧WL r P l.toArray (fun e a w=>e=.normal∧Q .normal a w) (oq l (B.drop p)) a w:=by
    rcases hX with ⟨h1,hD⟩|⟨p,_,h2,h3,h4⟩
    ·exact ⟨0,by simp,fun q b hq _=>h1 b (by simpa using kr hq),hend S a w hall h1 hD⟩
    ·exact ⟨p,h2,h3,h4⟩
   obtain ⟨p,h2,h3,h4⟩:=TF
   -- i is the next one
   have hpp:p≤p0:=by
    rcases Nat.lt_or_ge p0 p with hlt|hge
    ·have:(B.take p).contains i=true:=by
      simp only [xL]
      exact kr (i:=p0) (by rw [rE,av hlt];exact hp0)
     rw [h2 i this] at aL;cases aL
    ·exact hge
   have ER:p < B.length:=by have:=(jA.1 hp0).1;omega
   have hbp:B[p]?=some B[p]:=eO ER
   have heq:B[p]=i:=by
    rcases Nat.lt_or_ge p p0 with hlt|hge
    ·exfalso
     have hin:B[p]∈bJ.getD i []:=(hB1 p0 i hp0).2 _ (hB1 p _ hbp).1 (.inr (by
      simp only [xL]
      exact kr (i:=p) (by rw [rE,av hlt];exact hbp)))
     have:=iL _ hin
     rw [h3 p _ hbp (bP _)] at this;cases this
    ·have:p=p0:=by omega
     subst this
     rw [hbp] at hp0;simpa using hp0
   have hdrop:B.drop p=i :: B.drop (p+1):=by rw [pO ER,heq]
   have hops:oq l (B.drop p)=o :: oq l (B.drop (p+1)):=by rw [hdrop];simp [oq,ho]
   rw [hops] at h4
   refine ado (fun a' w' h5=>.inr ⟨p+1,fun j hj hb=>?_,fun j hj=>?_,fun q b hq hpq=>?_,h5⟩) h4
   ·unfold dh;split
    ·rfl
    ·exact hall j hj hb
   ·unfold dh;split
    ·rfl
    ·rename_i hne
     refine h2 j ?_
     simp only [xL] at hj ⊢
     rw [fQ ER,nW] at hj
     rcases hj with hj|hj
     ·exact hj
     ·simp only [sS] at hj;exact absurd (hj.trans heq) hne
   ·unfold dh
    rw [ah ?_]
    ·exact h3 q b hq (by omega)
    ·rintro rfl
     -- i would stand twice in B: it would come ahead of itself
     have h6:=(hB1 q b hq).2 b (hB1 q b hq).1 (.inr (by
      simp only [xL]
      exact kr (i:=p) (by rw [rE,av (by omega)];rw [hbp,heq])))
     rw [iL _ h6] at aL;cases aL
  ·have ED:B.contains i=false:=by cases h:B.contains i with|false=>rfl|true=>exact absurd h hbi
   rcases hX with ⟨h1,hX⟩|⟨p,h0,_,_,_⟩
   ·refine lC (fun e a' w' ⟨he,hD⟩=>⟨he,.inl ⟨fun j hj=>?_,hD⟩⟩) (hstep i o S a w ho ED aL iL hdesc hX)
    unfold dh
    rw [ah (by rintro rfl;rw [ED] at hj;cases hj)]
    exact h1 j hj
   ·rw [h0 i hil ED] at aL;cases aL
 ·intro S a w hall hX
  rcases hX with ⟨h1,hD⟩|⟨p,_,_,h3,h4⟩
  ·have hnil:B=[]:=by
    cases B with
    | nil=>rfl
    | cons b B=>have h5:=h1 b (by simp);rw [hall b (hB1 0 b rfl).1] at h5;cases h5
   subst hnil
   exact (hend S a w (fun j hj _=>hall j hj) h1 hD).2
  ·have hnil:B.drop p=[]:=by
    cases hd:B.drop p with
    | nil=>rfl
    | cons b B' =>
     have hb:B[p]?=some b:=by
      have:=aB (fun x:List Nat=>x[0]?) hd
      simpa using this
     have h5:=h3 p b hb (bP _)
     rw [hall b (hB1 p b hb).1] at h5;cases h5
   rw [hnil] at h4
   exact h4.2
theorem aep {id:Nat} (hm:P.follows .mixedOrders=true) (bJ:List (List Nat)) (B:List Nat) (hk:wK l bJ=true) (hB:uY l bJ B=true) (m:Nat) (J8:B.contains m=false) (ob:Obj) (pr:Nat→Nat→aj→GH→Prop)
  (Kt:∀ b b' i v G,i≠m→pr b i v G→pr b' i v G) (H:St N D w0 F G0 G L T a w)
  (hstep:allI (fun i o=>∀ b L' S a w G1,B.contains i=false→Nat.beq i m=false→S i=false→(∀ j∈bJ.getD i [],S j=true)→(∀ k o,G k=some o→G1 k=some o)→St N D w0 F G0 G1 L' T a w→(∀ i d,S i=true→dX l i=some d→∃ v,a.tmps[d]?=some v∧pr b i v G1) →
   WL r P l.toArray (fun e a' w'=>e=.normal∧DX N D w0 F G0 G L' T l (pr b) (dh S i) a' w') [o] a w) 0 l)
  (hmid:∀ o S a w G1,l[m]?=some o→S m=false→(∀ j∈bJ.getD m [],S j=true)→(∀ k o,G k=some o→G1 k=some o)→St N D w0 F G0 G1 L T a w→(∀ b i d,i≠m→S i=true→dX l i=some d→∃ v,a.tmps[d]?=some v∧pr b i v G1) →
   WL r P l.toArray (fun e a' w'=>e=.normal∧∃ b,DX N D w0 F G0 G ((b,ob) :: L) T l (pr b) (dh S m) a' w') [o] a w)
  (hend:∀ b a w G1,(∀ k o,G k=some o→G1 k=some o)→St N D w0 F G0 G1 ((b,ob) :: L) T a w→(∀ i d,B.contains i=false→dX l i=some d→∃ v,a.tmps[d]?=some v∧pr b i v G1)→WL r P l.toArray (fun e a w=>e=.normal∧Q .normal a w) (oq l B) a w)
  (hml:Nat.blt m l.length=true):WP r P (.region id l.toArray true) Q a w:=by
 refine El hm bJ B hk hB (fun S a w=>∃ b L',(S m=false→L'=L)∧(S m=true→L'=(b,ob) :: L)∧DX N D w0 F G0 G L' T l (pr b) S a w)
  ⟨0,L,fun _=>rfl,fun h=>absurd (show false=true from h) (by decide),G,fun _ _ h=>h,H.move H.hp.drew,fun _ _ h=>absurd (show false=true from h) (by decide)⟩ ?_ ?_
 ·rintro i o S a w ho hb aL iL hdesc ⟨b,L',h1,h2,G1,hG,HS,hv⟩
  by_cases him:i=m
  ·subst him
   have e:=h1 aL;subst e
   have h:=hmid o S a w G1 ho aL iL hG HS fun b' j d hj hSj hd=>by
    obtain ⟨v,hv1,hv2⟩:=hv j d hSj hd
    exact ⟨v,hv1,Kt b b' j v _ hj hv2⟩
   have e1:dh S i i=true:=av rfl
   exact lC (fun e a' w' ⟨he,b',hD⟩=>⟨he,b',_,fun h=>absurd (e1.symm.trans h) (by decide),fun _=>rfl,hD⟩) h
  ·have h:=yP hstep i o ho
   rw [fV] at h
   have e:dh S i m=S m:=ah (fun h=>him h.symm)
   exact lC (fun e' a' w' ⟨he,hD⟩=>⟨he,b,L',fun h=>h1 (e ▸ h),fun h=>h2 (e ▸ h),hD⟩) (h b L' S a w G1 hb (nX him) aL iL hG HS hv)
 ·rintro S a w hall Ic ⟨b,L',h1,h2,G1,hG,HS,hv⟩
  have H9:S m=true:=hall m (Eq.mp Nat.blt_eq hml) J8
  have e:=h2 H9;subst e
  exact hend b a w G1 hG HS fun j d hb hd=>hv j d (hall j (qB hd) hb) hd
theorem Er {pr:Nat→aj→GH→Prop} {S:Nat→Bool} {i d:Nat} {v:aj} (hok:nZ l T i=true) (hi:dX l i=some d) 
  (HT:St N D w0 F G0 G1 L T a w) (Hb:St N D w0 F G0 G1 L (Xs++full N a) a w) (hG:∀ k o,G k=some o→G1 k=some o) (hv:∀ j d,j≠i→S j=true→dX l j=some d→∃ v,a.tmps[d]?=some v∧pr j v G1)
  (hp:pr i v G1) (H:St N D w0 F G0 G1 L1 ((d,v) :: (Xs++full N a)) a' w'):DX N D w0 F G0 G L1 T l pr (dh S i) a' w':=by
 have hil:i < l.length:=qB hi
 have hok1:=hok
 rw [nZ,hi] at hok1
 simp only [mq,Option.isNone_iff_eq_none,jS,sQ] at hok1
 have hsame:∀ t,t≠d→a'.tmps[t]?=a.tmps[t]?:=by
  intro t ht
  by_cases hlt:t < N
  ·have h1:∃ u,lk (Xs++full N a) t=some u:=by
    rw [Om]
    cases lk Xs t with
    | some u=>exact ⟨u,rfl⟩
    | none=>exact ⟨_,Oo a hlt⟩
   obtain ⟨u,hu⟩:=h1
   rw [Hb.get t u hu,H.get t u (by rw [uU (Ne.symm ht)];exact hu)]
  ·rw [Array.getElem?_eq_none (by rw [H.mO];omega),Array.getElem?_eq_none (by rw [Hb.mO];omega)]
 refine ⟨G1,hG,⟨H.mO,fun t u ht=>?_,H.rJ,H.hp⟩,fun j e hj he=>?_⟩
 ·rw [hsame t (fun e=>by rw [e,hok1.1] at ht;cases ht)]
  exact HT.get t u ht
 ·by_cases hji:j=i
  ·subst hji
   rw [hi] at he
   simp only [nL] at he
   subst he
   exact ⟨v,H.get d v (wz _ _ _),hp⟩
  ·have hSj:S j=true:=by unfold dh at hj;rwa [ah hji] at hj
   obtain ⟨u,hu1,hu2⟩:=hv j e hji hSj he
   have hne:e≠d:=by
    intro e'
    subst e'
    have h2:=hok1.2 j (qB he)
    rw [nX (fun h=>hji h.symm),he] at h2
    simp at h2
   exact ⟨u,by rw [hsame e hne];exact hu1,hu2⟩
end
end
section
open Go.RowKit
section
variable {N:Nat} {D:List Deferred} {w0:World} {F:Nat→Prop} {G0 G G1 G2:GH} {L L1:OL} {T Xs:List (Nat × aj)}
variable {r:Option Nat} {P:Program} {Q:Exit→Act→World→Prop} {l:List Oper} {a a':Act} {w w':World}
theorem aer {id:Nat} (hm:P.follows .mixedOrders=true) (bJ:List (List Nat)) (B:List Nat) (hk:wK l bJ=true) (hB:uY l bJ B=true) (m:Nat) (J8:B.contains m=false) (ob:Obj) (pr:Nat→Nat→aj→GH→Prop)
  (Kt:∀ b b' i v G,i≠m→pr b i v G→pr b' i v G) (H:St N D w0 F G0 G L T a w)
  (hstep:allI (fun i o=>∀ b L' S a w G1,(∀ x,x∈L→x∈L')→B.contains i=false→Nat.beq i m=false→S i=false→(∀ j∈bJ.getD i [],S j=true)→(∀ k o,G k=some o→G1 k=some o)→St N D w0 F G0 G1 L' T a w→(∀ i d,S i=true→dX l i=some d→∃ v,a.tmps[d]?=some v∧pr b i v G1) →
   WL r P l.toArray (fun e a' w'=>e=.normal∧DX N D w0 F G0 G L' T l (pr b) (dh S i) a' w') [o] a w) 0 l)
  (hmid:∀ o S a w G1,l[m]?=some o→S m=false→(∀ j∈bJ.getD m [],S j=true)→(∀ k o,G k=some o→G1 k=some o)→St N D w0 F G0 G1 L T a w→(∀ b i d,i≠m→S i=true→dX l i=some d→∃ v,a.tmps[d]?=some v∧pr b i v G1) →
   WL r P l.toArray (fun e a' w'=>e=.normal∧∃ b,DX N D w0 F G0 G ((b,ob) :: L) T l (pr b) (dh S m) a' w') [o] a w)
  (hend:∀ b a w G1,(∀ k o,G k=some o→G1 k=some o)→St N D w0 F G0 G1 ((b,ob) :: L) T a w→(∀ i d,B.contains i=false→dX l i=some d→∃ v,a.tmps[d]?=some v∧pr b i v G1)→WL r P l.toArray (fun e a w=>e=.normal∧Q .normal a w) (oq l B) a w)
  (hml:Nat.blt m l.length=true):WP r P (.region id l.toArray true) Q a w:=by
 refine El hm bJ B hk hB (fun S a w=>∃ b L',(S m=false→L'=L)∧(S m=true→L'=(b,ob) :: L)∧DX N D w0 F G0 G L' T l (pr b) S a w)
  ⟨0,L,fun _=>rfl,fun h=>absurd (show false=true from h) (by decide),G,fun _ _ h=>h,H.move H.hp.drew,fun _ _ h=>absurd (show false=true from h) (by decide)⟩ ?_ ?_
 ·rintro i o S a w ho hb aL iL hdesc ⟨b,L',h1,h2,G1,hG,HS,hv⟩
  by_cases him:i=m
  ·subst him
   have e:=h1 aL;subst e
   have h:=hmid o S a w G1 ho aL iL hG HS fun b' j d hj hSj hd=>by
    obtain ⟨v,hv1,hv2⟩:=hv j d hSj hd
    exact ⟨v,hv1,Kt b b' j v _ hj hv2⟩
   have e1:dh S i i=true:=av rfl
   exact lC (fun e a' w' ⟨he,b',hD⟩=>⟨he,b',_,fun h=>absurd (e1.symm.trans h) (by decide),fun _=>rfl,hD⟩) h
  ·have h:=yP hstep i o ho
   rw [fV] at h
   have e:dh S i m=S m:=ah (fun h=>him h.symm)
   exact lC (fun e' a' w' ⟨he,hD⟩=>⟨he,b,L',fun h=>h1 (e ▸ h),fun h=>h2 (e ▸ h),hD⟩) (h b L' S a w G1 (fun x hx=>by
    cases hS:S m with
    | false=>rw [h1 hS];exact hx
    | true=>rw [h2 hS];exact gH _ hx) hb (nX him) aL iL hG HS hv)
 ·rintro S a w hall Ic ⟨b,L',h1,h2,G1,hG,HS,hv⟩
  have H9:S m=true:=hall m (Eq.mp Nat.blt_eq hml) J8
  have e:=h2 H9;subst e
  exact hend b a w G1 hG HS fun j d hb hd=>hv j d (hall j (qB hd) hb) hd
end
end
section
open Go.RowKit
section
variable {N:Nat} {D:List Deferred} {w0:World} {F:Nat→Prop} {G0 G G1 G2:GH} {L L1 L2:OL} {T Xs:List (Nat × aj)}
variable {r:Option Nat} {P:Program} {Q:Exit→Act→World→Prop} {l:List Oper} {a a':Act} {w w':World}
theorem QS {pr:Nat→aj→GH→Prop} {S:Nat→Bool} {i:Nat} (hi:dX l i=none) (HT:St N D w0 F G0 G1 L T a w) (hG:∀ k o,G k=some o→G1 k=some o) (hv:∀ i d,S i=true→dX l i=some d→∃ v,a.tmps[d]?=some v∧pr i v G1)
  (H:St N D w0 F G0 G1 L2 (Xs++full N a) a w'):DX N D w0 F G0 G L2 T l pr (dh S i) a w' :=
 ⟨G1,hG,HT.move H.hp,fun j e hj he=>hv j e (by
  unfold dh at hj
  by_cases hji:j=i
  ·subst hji;rw [hi] at he;cases he
  ·rwa [ah hji] at hj) he⟩
theorem aex {id:Nat} (hm:P.follows .mixedOrders=true) (bJ:List (List Nat)) (B:List Nat) (hk:wK l bJ=true) (hB:uY l bJ B=true) (m:Nat) (J8:B.contains m=false) (pr:Nat→aj→GH→Prop) (ix:Nat) (ob:Nat × Obj)
  (H:St N D w0 F G0 G L T a w)
  (hstep:allI (fun i o=>∀ S a w G1,B.contains i=false→Nat.beq i m=false→S i=false→(∀ j∈bJ.getD i [],S j=true)→(∀ k o,G k=some o→G1 k=some o)→St N D w0 F G0 G1 L T a w→(∀ i d,S i=true→dX l i=some d→∃ v,a.tmps[d]?=some v∧pr i v G1) →
   WL r P l.toArray (fun e a' w'=>e=.normal∧DX N D w0 F G0 G L T l pr (dh S i) a' w') [o] a w) 0 l)
  (hmid:∀ o S a w G1,l[m]?=some o→S m=false→(∀ j∈bJ.getD m [],S j=true)→(∀ k o,G k=some o→G1 k=some o)→St N D w0 F G0 G1 L T a w→(∀ i d,S i=true→dX l i=some d→∃ v,a.tmps[d]?=some v∧pr i v G1) →
   WL r P l.toArray (fun e a' w'=>e=.normal∧DX N D w0 F G0 G (L.set ix ob) T l pr (dh S m) a' w') [o] a w)
  (hstep2:allI (fun i o=>∀ S a w G1,(B.contains i || (bJ.getD m []).contains i)=false→Nat.beq i m=false→S i=false→(∀ j∈bJ.getD i [],S j=true)→(∀ k o,G k=some o→G1 k=some o)→St N D w0 F G0 G1 (L.set ix ob) T a w→(∀ i d,S i=true→dX l i=some d→∃ v,a.tmps[d]?=some v∧pr i v G1) →
   WL r P l.toArray (fun e a' w'=>e=.normal∧DX N D w0 F G0 G (L.set ix ob) T l pr (dh S i) a' w') [o] a w) 0 l)
  (hend:∀ a w G1,(∀ k o,G k=some o→G1 k=some o)→St N D w0 F G0 G1 (L.set ix ob) T a w→(∀ i d,B.contains i=false→dX l i=some d→∃ v,a.tmps[d]?=some v∧pr i v G1)→WL r P l.toArray (fun e a w=>e=.normal∧Q .normal a w) (oq l B) a w)
  (hml:Nat.blt m l.length=true):WP r P (.region id l.toArray true) Q a w:=by
 refine El hm bJ B hk hB (fun S a w=>(S m=false∧DX N D w0 F G0 G L T l pr S a w)∨(S m=true∧DX N D w0 F G0 G (L.set ix ob) T l pr S a w))
  (.inl ⟨rfl,G,fun _ _ h=>h,H.move H.hp.drew,fun _ _ h=>absurd (show false=true from h) (by decide)⟩) ?_ ?_
 ·rintro i o S a w ho hb aL iL hdesc hX
  by_cases him:i=m
  ·subst him
   rcases hX with ⟨_,G1,hG,HS,hv⟩|⟨h1,_⟩
   ·have h:=hmid o S a w G1 ho aL iL hG HS hv
    have e1:dh S i i=true:=av rfl
    exact lC (fun e a' w' ⟨he,hD⟩=>⟨he,.inr ⟨e1,hD⟩⟩) h
   ·rw [h1] at aL;cases aL
  ·have e:dh S i m=S m:=ah (fun h=>him h.symm)
   rcases hX with ⟨h1,G1,hG,HS,hv⟩|⟨h1,G1,hG,HS,hv⟩
   ·have h:=yP hstep i o ho
    rw [fV] at h
    exact lC (fun e' a' w' ⟨he,hD⟩=>⟨he,.inl ⟨e.trans h1,hD⟩⟩) (h S a w G1 hb (nX him) aL iL hG HS hv)
   ·have h:=yP hstep2 i o ho
    rw [fV] at h
    have hnc:(B.contains i || (bJ.getD m []).contains i)=false:=by
     rw [hb,Bool.false_or]
     cases hc2:(bJ.getD m []).contains i with
     | false=>rfl
     | true=>have:=hdesc m (Eq.mp Nat.blt_eq hml) (xL.1 hc2);rw [h1] at this;cases this
    exact lC (fun e' a' w' ⟨he,hD⟩=>⟨he,.inr ⟨e.trans h1,hD⟩⟩) (h S a w G1 hnc (nX him) aL iL hG HS hv)
 ·rintro S a w hall Ic hX
  have H9:S m=true:=hall m (Eq.mp Nat.blt_eq hml) J8
  rcases hX with ⟨h1,_⟩|⟨h1,G1,hG,HS,hv⟩
  ·rw [h1] at H9;cases H9
  ·exact hend a w G1 hG HS fun j d hb hd=>hv j d (hall j (qB hd) hb) hd
end
end
section
open Go.RowKit
theorem anX:liesAt prog prog.depth 340 (7 / prog.cellsOf 340) 2 172 1=true:=by kernel_rfl
instance Vx:Ty prog 5 1 1 [.int .u8 0] false:=⟨by kernel_rfl,by kernel_rfl⟩
abbrev gM (b:Nat) (s:ByteArray) (i:Int) (p v q:aj) (pl e:Int):Nat × Obj:=(b,.cells #[.string s,vi i,p,v,q,vi pl,vi e] 340 (0,0))
theorem aqV (G:GH) (L:OL) (w0:World) (b:Nat) (s:ByteArray) (i:Int) (A:Option Addr) (n c:Nat) (B:Option Addr) (m d:Nat) (pl e:Int) (hO:fU G (gM b s i (.pointer none) (.slice A n c) (.slice B m d) pl e :: L) w0) :
  Calls prog 154 #[(aG b 2)] w0 (fJ w0 G (gM b s i (.pointer none) (.slice A n c) (.slice B m d) pl e :: L) fun u G' L'=>L'=gM b s i (aG b 2) (.slice A n c) (.slice B m d) pl e :: L∧G'=G):=by
 refine jg (N:=20) (T:=[(0,_)]) func154 rfl ntmps154 rfl rfl hO ?_;refine ak 5 ?_;intro a H;refine ace IG H wn rfl rfl ?_;clear H;refine goC 1 ?_ ?_
 ·intro h6
  refine ak 3 ?_;intro a H;refine aqO IG VF Vn H wn rfl 0 rfl rfl rfl ?_;clear H;intro a H;refine aqE (xs:=[.tmp 9]) (aoB _) H wn rfl rfl ?_;clear H;intro a H;refine aqz VF IG Vn H wn rfl 0 rfl anX rfl ?_;clear H;refine ak 2 ?_;intro a H;refine aV acM 0 (vs:=[_]) _ H wn rfl rfl rfl rfl rfl rfl rfl rfl ?_;clear H;intro w H;dsimp only [List.set,setRow] at H;refine aC ?_;refine (leave0 H results154 ?_).2;exact H.hp.dJ ⟨rfl,rfl⟩
 intro h6
 intro a H;exact absurd h6 (by decide)
theorem aqW (G:GH) (L:OL) (w0:World) (b:Nat) (s:ByteArray) (i:Int) (A:Option Addr) (n c:Nat) (B:Option Addr) (m d:Nat) (pl e:Int) (hO:fU G (gM b s i (aG b 2) (.slice A n c) (.slice B m d) pl e :: L) w0) :
  Calls prog 154 #[(aG b 2)] w0 (fJ w0 G (gM b s i (aG b 2) (.slice A n c) (.slice B m d) pl e :: L) fun u G' L'=>L'=gM b s i (aG b 2) (.slice A n c) (.slice B m d) pl e :: L∧G'=G):=by
 refine jg (N:=20) (T:=[(0,_)]) func154 rfl ntmps154 rfl rfl hO ?_;refine ak 5 ?_;intro a H;refine ace IG H wn rfl rfl ?_;clear H;refine goC 1 ?_ ?_
 ·intro h6
  intro a H;exact absurd h6 (by simp)
 intro h6
 refine ak 6 ?_;intro a H;refine aqC IG Vn H wn rfl rfl rfl ?_;clear H;refine goC 1 ?_ ?_
 ·intro h19
  intro a H;exact absurd h19 (by decide)
 intro h19
 intro a H;refine jB ?_;refine (leave0 H results154 ?_).2;exact H.hp.dJ ⟨rfl,rfl⟩
theorem aqX (G:GH) (L:OL) (w0:World) (b:Nat) (s:ByteArray) (i:Int) (p:aj) (A:Option Addr) (n c:Nat) (B:Option Addr) (m d:Nat) (pl e:Int) (hp:p=.pointer none∨p=(aG b 2)) (hO:fU G (gM b s i p (.slice A n c) (.slice B m d) pl e :: L) w0) :
  Calls prog 154 #[(aG b 2)] w0 (fJ w0 G (gM b s i p (.slice A n c) (.slice B m d) pl e :: L) fun u G' L'=>L'=gM b s i (aG b 2) (.slice A n c) (.slice B m d) pl e :: L∧G'=G):=by
 rcases hp with rfl|rfl
 ·exact aqV G L w0 b s i A n c B m d pl e hO
 exact aqW G L w0 b s i A n c B m d pl e hO
theorem adi (G:GH) (Lp Lo:OL) (w0:World) (b:Nat) (s:ByteArray) (i:Int) (p v:aj) (B:Option Addr) (m d:Nat) (pl e:Int) (n:Nat) (xs:List aj) (c:Int) (hp:p=.pointer none∨p=(aG b 2)) (hO:fU G (gM b s i p v (.slice B m d) pl e :: (Lp++Lo)) w0) (hrow:bV 5 1 v n xs Lo) (hn:n≤4294967296) :
  Calls prog 273 #[(aG b 2),.int .u8 c] w0 (fJ w0 G (gM b s i p v (.slice B m d) pl e :: (Lp++Lo)) fun u G' L'=>∃ v' kJ,L'=gM b s i (aG b 2) v' (.slice B m d) pl e :: (Lp++kJ)∧bV 5 1 v' (n+1) (xs++[.int .u8 c]) kJ∧G'=G):=by
 have hml:maxLen=9223372036854775807:=rfl;obtain ⟨A,c0,rfl,-,-⟩:=hrow.shape;obtain ⟨Lt,oZ⟩:∃ x,x=Lp++Lo:=⟨_,rfl⟩;rw [← oZ] at hO ⊢;refine jg (N:=17) (T:=[(0,_),(1,_)]) func273 rfl ntmps273 rfl rfl hO ?_;refine ak 5 ?_;intro a H;refine gF agR (Li:=[]) (L:=gM b s i p _ (.slice B m d) pl e :: Lt) H wn rfl (aqX _ _ _ b s i p A n c0 B m d pl e hp (Hp.owns (Li:=[]) H.hp)) rfl ?_;clear H;rintro v6 _ L6 a w ⟨rfl,rfl⟩ EL H;dsimp only [List.nil_append] at H;refine aD 8 H ?_;clear H;intro a H;refine gJ LB Vx [_] [_] H wn rfl rfl rfl rfl rfl (by intro i q h;match i,h with|0,h=>exact h|n+1,h=>simp at h) rfl rfl ?_;clear H;intro b13 a w NA H;subst oZ;have H:=St.un (A:=[_,_]) (B:=Lp) (C:=Lo) H;refine lJ (Li:=[_,_]++Lp) (Lo:=Lo) (news:=[.int .u8 c]) LB Vx rfl rfl H wn rfl rfl hrow rfl (H.hp.bN 0 rfl rfl) rfl (by omega) (by omega) rfl ?_;clear H;intro v14 adJ a w Kv H;obtain ⟨PN,c14,rfl,-,-⟩:=Kv.shape;have H:=H.assoc;dsimp only [lca,bG] at H;refine aD 2 H ?_;clear H;intro a H;refine aV Po 1 (vs:=[_]) _ H wn rfl rfl rfl rfl rfl rfl rfl rfl ?_;clear H;intro w H;dsimp only [List.set,setRow] at H;refine aD 4 H ?_;clear H;intro a H;refine lr H results273 rfl ?_;exact H.hp.kE (L':=gM b s i _ _ _ pl e :: (Lp++adJ)) (Ac _ _) ⟨_,_,rfl,Kv,rfl⟩
theorem arD (G:GH) (L:OL) (w0:World) (b:Nat) (s:ByteArray) (i:Int) (p:aj) (A:Option Addr) (n c:Nat) (B:Option Addr) (m d:Nat) (pl e:Int) (hO:fU G (gM b s i p (.slice A n c) (.slice B m d) pl e :: L) w0) :
  Calls prog 279 #[(aG b 2)] w0 (fJ w0 G (gM b s i p (.slice A n c) (.slice B m d) pl e :: L) fun u G' L'=>u=vi n∧L'=gM b s i p (.slice A n c) (.slice B m d) pl e :: L∧G'=G):=by
 refine jg (N:=8) (T:=[(0,_)]) func279 rfl ntmps279 rfl rfl hO ?_;refine ak 11 ?_;intro a H;refine lr H results279 rfl ?_;exact H.hp.dJ ⟨rfl,rfl,rfl⟩
theorem arS (G:GH) (L:OL) (w0:World) (b:Nat) (s:ByteArray) (i:Int) (p:aj) (A:Option Addr) (n c:Nat) (B:Option Addr) (m d:Nat) (pl e:Int) (hO:fU G (gM b s i p (.slice A n c) (.slice B m d) pl e :: L) w0) :
  Calls prog 280 #[(aG b 2)] w0 (fJ w0 G (gM b s i p (.slice A n c) (.slice B m d) pl e :: L) fun u G' L'=>L'=gM b s i (.pointer none) (.slice none 0 0) (.slice B m d) pl e :: L∧G'=G):=by
 refine jg (N:=8) (T:=[(0,_)]) func280 rfl ntmps280 rfl rfl hO ?_;refine ak 4 ?_;intro a H;refine aV acM 0 (vs:=[_]) _ H wn rfl rfl rfl rfl rfl rfl rfl rfl ?_;clear H;intro w H;dsimp only [List.set,setRow] at H;refine aD 5 H ?_;clear H;intro a H;refine aV Po 0 (vs:=[_]) _ H wn rfl rfl rfl rfl rfl rfl rfl rfl ?_;clear H;intro w H;dsimp only [List.set,setRow] at H;refine aC ?_;refine (leave0 H results280 ?_).2;exact H.hp.dJ ⟨rfl,rfl⟩
theorem arT (G:GH) (Lp Lo:OL) (w0:World) (b:Nat) (s:ByteArray) (i:Int) (p v:aj) (B:Option Addr) (m d:Nat) (pl e:Int) (l:List UInt8) (hO:fU G (gM b s i p v (.slice B m d) pl e :: (Lp++Lo)) w0) (hrow:bV 5 1 v l.length (Lib.byteCells l) Lo) (h0:l≠[]) :
  Calls prog 94 #[(aG b 2)] w0 (fJ w0 G (gM b s i p v (.slice B m d) pl e :: (Lp++Lo)) fun u G' L'=>u=.string ⟨l.toArray⟩∧L'=gM b s i p v (.slice B m d) pl e :: Lp):=by
 rcases hrow.2 with ⟨-,h,-⟩|⟨b2,cap,cur,rfl,rfl,hc1,hc2,hc3,hc4⟩
 ·exact absurd (List.eq_nil_of_length_eq_zero h) h0
 have hl0:l.length≠0:=fun h=>h0 (List.eq_nil_of_length_eq_zero h);have hml:maxLen=9223372036854775807:=rfl;obtain ⟨Lt,oZ⟩:∃ x,x=Lp++[(b2,Obj.cells cur 5 (0,0))]:=⟨_,rfl⟩;rw [← oZ] at hO ⊢;refine jg (N:=14) (T:=[(0,_)]) func94 rfl ntmps94 rfl rfl hO ?_;refine ak 4 ?_;intro a H;have H:=H.sub (T':=[(0,_)]) ⟨rfl,aU⟩;refine dI hmx [[],[0],[0,1],[0,1,2],(ra 0 4),[],[5],[5,6],[5,6,7],(ra 5 4),(ra 0 10),(ra 0 11)] [10,11] (by kernel_rfl) [_,_,_,.slice (some ⟨b2,0,none⟩) l.length cap,(aG b2 0),_,_,_,.slice (some ⟨b2,0,none⟩) l.length cap,_] H (aF (Z0 rfl (Rm rfl)) (Z1 0 3 rfl (Rk rfl)) (Z1 1 4 rfl (Rf Yy rfl)) (Z1 2 5 rfl (Ro Po 0 rfl)) (aF ?_ (Z0 rfl (Rm rfl)) (Z1 5 8 rfl (Rk rfl)) (Z1 6 9 rfl (Rf Yy rfl)) (aF (Z1 7 10 rfl (Ro Po 0 rfl)) (Z1 8 11 rfl (Rl LB rfl)) (bQ rfl) (bQ rfl) cZ))) ?_
 ·refine eu 3 6 rfl rfl fun _ a w G1 hG HT H fin=>?_;refine aqK H wn rfl (by omega) rfl ?_;clear H;intro a H;exact fin H iJ rfl
 clear H;intro a w G iP H hv;have H:=H.aN (hv 4 7 rfl rfl) rfl;have H:=H.aN (hv 9 12 rfl rfl) rfl;clear hv;subst oZ;have H:=H.perm (List.Perm.cons _ uq);dsimp only [lca,bG] at H;refine aqP (i:=1) l acQ aeQ h0 (by omega) H wn rfl rfl rfl (by rw [← hc4,Nat.mul_one]) rfl ?_;clear H;intro fz a w H;dsimp only [List.set] at H;refine kH H (Ra rfl ?_);clear H;intro a H;refine aC ⟨rfl,?_⟩;refine dR ?_;refine lr H results94 rfl ?_;exact H.hp.kE (L':=gM b s i _ _ _ pl e :: Lp) (List.Sublist.cons_cons _ (Ac _ _)) ⟨rfl,rfl⟩
end
section
open Go.RowKit
section
variable {N:Nat} {D:List Deferred} {w0:World} {F:Nat→Prop} {G0 G G1 G2:GH} {L L1 L2:OL} {T Xs:List (Nat × aj)}
variable {r:Option Nat} {P:Program} {Q:Exit→Act→World→Prop} {l:List Oper} {a a':Act} {w w':World}
theorem DX.perm {pr:Nat→aj→GH→Prop} {S:Nat→Bool} (h:DX N D w0 F G0 G L1 T l pr S a w) (hp:L1.Perm L2):DX N D w0 F G0 G L2 T l pr S a w:=by
 obtain ⟨G1,hG,HS,hv⟩:=h
 exact ⟨G1,hG,HS.perm hp,hv⟩
end
end
end Go.Proofs.YtdiflmikikiedaaGreat
