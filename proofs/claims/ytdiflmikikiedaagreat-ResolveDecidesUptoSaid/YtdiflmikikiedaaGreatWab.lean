/-
  What the claim stands on, part 2: Cp Run Rg Pos Pq Doc Dq Idx Plc Plr Hv Prk Dlf Prp Prq Prc Pst Ehd Dc24 Bld Fst Nam Pn De Dj Dk Dw Lsc Dm.
-/
import Derived.Test.YtdiflmikikiedaaGreatWaa
import Derived.Test.YtdiflmikikiedaaGreatRows
namespace Go.Proofs.YtdiflmikikiedaaGreat
set_option linter.all false
open Go.Proofs.Tryz
set_option maxRecDepth 20000
set_option maxHeartbeats 4000000
section
open Go.RowKit
theorem kE:prog.underlying 3=some (.int .i64):=by kernel_rfl
instance:jZ prog 3 (.int .i64):=⟨kE⟩
theorem IE:prog.underlying 5=some (.int .u8):=by kernel_rfl
instance:jZ prog 5 (.int .u8):=⟨IE⟩
theorem jE:prog.underlying 9=some .string:=by kernel_rfl
instance:jZ prog 9 .string:=⟨jE⟩
theorem ahQ:∀ args w,(callFunc 268 args).run prog w=.ok (.enter 268 args) w:=enters func268 rfl (by kernel_rfl)
theorem ahF:∀ args w,(callFunc 249 args).run prog w=.ok (.enter 249 args) w:=enters func249 rfl (by kernel_rfl)
theorem ahu:∀ args w,(callFunc 225 args).run prog w=.ok (.enter 225 args) w:=enters func225 rfl (by kernel_rfl)
theorem Jm:∀ args w,(callFunc 193 args).run prog w=.ok (.enter 193 args) w:=enters func193 rfl (by kernel_rfl)
def iP (b:Int):Int × Int × Int :=
  (if b=224 then 160 else if b=240 then 144 else 128,if b=237 then 159 else if b=244 then 143 else 191,
   if b < 128 then 1 else if b < 194∨244 < b then 0 else if b < 224 then 2 else if b < 240 then 3 else 4)
theorem Va (b:Int):0≤(iP b).2.2∧(iP b).2.2≤4:=by
 simp only [iP];split
 ·omega
 split
 ·omega
 split
 ·omega
 split <;> omega
theorem arx (G:GH) (w0:World) (hG:Hold G w0) (b:Int) :
  Calls prog 268 #[.int .u8 b] w0 (bC w0 G fun v G'=>v=.tuple #[.int .u8 (iP b).1,.int .u8 (iP b).2.1,.int .i64 (iP b).2.2]∧G=G'):=by
 refine eN [(0,_)] func268 rfl ntmps268 rfl rfl hG ?_;refine goB 16 ?_ ?_
 ·intro p5
  refine goB 12 ?_ ?_
  ·intro iW
   refine ak 11 ?_;intro a H;refine cu ?_;refine (eU H results268 (.cons (aZ H rfl) (.cons (aZ H rfl) (.cons (aZ H rfl) .nil))) ?_).1
   first|(exfalso;omega)|exact H.rt ⟨by simp only [iP];repeat (first|rw [av (by omega)]|rw [ah (by omega)]),rfl⟩
  intro iW
  refine goB 4 ?_ ?_
  ·intro jq
   refine ak 11 ?_;intro a H;refine cu ?_;refine (eU H results268 (.cons (aZ H rfl) (.cons (aZ H rfl) (.cons (aZ H rfl) .nil))) ?_).1
   first|(exfalso;omega)|exact H.rt ⟨by simp only [iP];repeat (first|rw [av (by omega)]|rw [ah (by omega)]),rfl⟩
  intro jq
  refine goB 4 ?_ ?_
  ·intro p26
   refine ak 11 ?_;intro a H;refine cu ?_;refine (eU H results268 (.cons (aZ H rfl) (.cons (aZ H rfl) (.cons (aZ H rfl) .nil))) ?_).1
   first|(exfalso;omega)|exact H.rt ⟨by simp only [iP];repeat (first|rw [av (by omega)]|rw [ah (by omega)]),rfl⟩
  intro p26
  refine goB 4 ?_ ?_
  ·intro p28
   refine ak 11 ?_;intro a H;refine cu ?_;refine (eU H results268 (.cons (aZ H rfl) (.cons (aZ H rfl) (.cons (aZ H rfl) .nil))) ?_).1
   first|(exfalso;omega)|exact H.rt ⟨by simp only [iP];repeat (first|rw [av (by omega)]|rw [ah (by omega)]),rfl⟩
  intro p28
  refine ak 9 ?_;intro a H;refine cu ?_;refine (eU H results268 (.cons (aZ H rfl) (.cons (aZ H rfl) (.cons (aZ H rfl) .nil))) ?_).1
  first|(exfalso;omega)|exact H.rt ⟨by simp only [iP];repeat (first|rw [av (by omega)]|rw [ah (by omega)]),rfl⟩
 intro p5
 refine lU 4 11 ?_ ?_
 ·intro qg
  refine goB 18 ?_ ?_
  ·intro iW
   refine ak 11 ?_;intro a H;refine cu ?_;refine (eU H results268 (.cons (aZ H rfl) (.cons (aZ H rfl) (.cons (aZ H rfl) .nil))) ?_).1
   first|(exfalso;omega)|exact H.rt ⟨by simp only [iP];repeat (first|rw [av (by omega)]|rw [ah (by omega)]),rfl⟩
  intro iW
  refine goB 4 ?_ ?_
  ·intro jq
   refine ak 11 ?_;intro a H;refine cu ?_;refine (eU H results268 (.cons (aZ H rfl) (.cons (aZ H rfl) (.cons (aZ H rfl) .nil))) ?_).1
   first|(exfalso;omega)|exact H.rt ⟨by simp only [iP];repeat (first|rw [av (by omega)]|rw [ah (by omega)]),rfl⟩
  intro jq
  refine goB 4 ?_ ?_
  ·intro p26
   refine ak 11 ?_;intro a H;refine cu ?_;refine (eU H results268 (.cons (aZ H rfl) (.cons (aZ H rfl) (.cons (aZ H rfl) .nil))) ?_).1
   first|(exfalso;omega)|exact H.rt ⟨by simp only [iP];repeat (first|rw [av (by omega)]|rw [ah (by omega)]),rfl⟩
  intro p26
  refine goB 4 ?_ ?_
  ·intro p28
   refine ak 11 ?_;intro a H;refine cu ?_;refine (eU H results268 (.cons (aZ H rfl) (.cons (aZ H rfl) (.cons (aZ H rfl) .nil))) ?_).1
   first|(exfalso;omega)|exact H.rt ⟨by simp only [iP];repeat (first|rw [av (by omega)]|rw [ah (by omega)]),rfl⟩
  intro p28
  refine ak 9 ?_;intro a H;refine cu ?_;refine (eU H results268 (.cons (aZ H rfl) (.cons (aZ H rfl) (.cons (aZ H rfl) .nil))) ?_).1
  first|(exfalso;omega)|exact H.rt ⟨by simp only [iP];repeat (first|rw [av (by omega)]|rw [ah (by omega)]),rfl⟩
 intro qg
 refine goB 5 ?_ ?_
 ·intro p8
  refine goB 12 ?_ ?_
  ·intro iW
   refine ak 11 ?_;intro a H;refine cu ?_;refine (eU H results268 (.cons (aZ H rfl) (.cons (aZ H rfl) (.cons (aZ H rfl) .nil))) ?_).1
   first|(exfalso;omega)|exact H.rt ⟨by simp only [iP];repeat (first|rw [av (by omega)]|rw [ah (by omega)]),rfl⟩
  intro iW
  refine goB 4 ?_ ?_
  ·intro jq
   refine ak 11 ?_;intro a H;refine cu ?_;refine (eU H results268 (.cons (aZ H rfl) (.cons (aZ H rfl) (.cons (aZ H rfl) .nil))) ?_).1
   first|(exfalso;omega)|exact H.rt ⟨by simp only [iP];repeat (first|rw [av (by omega)]|rw [ah (by omega)]),rfl⟩
  intro jq
  refine goB 4 ?_ ?_
  ·intro p26
   refine ak 11 ?_;intro a H;refine cu ?_;refine (eU H results268 (.cons (aZ H rfl) (.cons (aZ H rfl) (.cons (aZ H rfl) .nil))) ?_).1
   first|(exfalso;omega)|exact H.rt ⟨by simp only [iP];repeat (first|rw [av (by omega)]|rw [ah (by omega)]),rfl⟩
  intro p26
  refine goB 4 ?_ ?_
  ·intro p28
   refine ak 11 ?_;intro a H;refine cu ?_;refine (eU H results268 (.cons (aZ H rfl) (.cons (aZ H rfl) (.cons (aZ H rfl) .nil))) ?_).1
   first|(exfalso;omega)|exact H.rt ⟨by simp only [iP];repeat (first|rw [av (by omega)]|rw [ah (by omega)]),rfl⟩
  intro p28
  refine ak 9 ?_;intro a H;refine cu ?_;refine (eU H results268 (.cons (aZ H rfl) (.cons (aZ H rfl) (.cons (aZ H rfl) .nil))) ?_).1
  first|(exfalso;omega)|exact H.rt ⟨by simp only [iP];repeat (first|rw [av (by omega)]|rw [ah (by omega)]),rfl⟩
 intro p8
 refine goB 5 ?_ ?_
 ·intro qh
  refine goB 12 ?_ ?_
  ·intro iW
   refine ak 11 ?_;intro a H;refine cu ?_;refine (eU H results268 (.cons (aZ H rfl) (.cons (aZ H rfl) (.cons (aZ H rfl) .nil))) ?_).1
   first|(exfalso;omega)|exact H.rt ⟨by simp only [iP];repeat (first|rw [av (by omega)]|rw [ah (by omega)]),rfl⟩
  intro iW
  refine goB 4 ?_ ?_
  ·intro jq
   refine ak 11 ?_;intro a H;refine cu ?_;refine (eU H results268 (.cons (aZ H rfl) (.cons (aZ H rfl) (.cons (aZ H rfl) .nil))) ?_).1
   first|(exfalso;omega)|exact H.rt ⟨by simp only [iP];repeat (first|rw [av (by omega)]|rw [ah (by omega)]),rfl⟩
  intro jq
  refine goB 4 ?_ ?_
  ·intro p26
   refine ak 11 ?_;intro a H;refine cu ?_;refine (eU H results268 (.cons (aZ H rfl) (.cons (aZ H rfl) (.cons (aZ H rfl) .nil))) ?_).1
   first|(exfalso;omega)|exact H.rt ⟨by simp only [iP];repeat (first|rw [av (by omega)]|rw [ah (by omega)]),rfl⟩
  intro p26
  refine goB 4 ?_ ?_
  ·intro p28
   refine ak 11 ?_;intro a H;refine cu ?_;refine (eU H results268 (.cons (aZ H rfl) (.cons (aZ H rfl) (.cons (aZ H rfl) .nil))) ?_).1
   first|(exfalso;omega)|exact H.rt ⟨by simp only [iP];repeat (first|rw [av (by omega)]|rw [ah (by omega)]),rfl⟩
  intro p28
  refine ak 9 ?_;intro a H;refine cu ?_;refine (eU H results268 (.cons (aZ H rfl) (.cons (aZ H rfl) (.cons (aZ H rfl) .nil))) ?_).1
  first|(exfalso;omega)|exact H.rt ⟨by simp only [iP];repeat (first|rw [av (by omega)]|rw [ah (by omega)]),rfl⟩
 intro qh
 refine goB 5 ?_ ?_
 ·intro qI
  refine goB 12 ?_ ?_
  ·intro iW
   refine ak 11 ?_;intro a H;refine cu ?_;refine (eU H results268 (.cons (aZ H rfl) (.cons (aZ H rfl) (.cons (aZ H rfl) .nil))) ?_).1
   first|(exfalso;omega)|exact H.rt ⟨by simp only [iP];repeat (first|rw [av (by omega)]|rw [ah (by omega)]),rfl⟩
  intro iW
  refine goB 4 ?_ ?_
  ·intro jq
   refine ak 11 ?_;intro a H;refine cu ?_;refine (eU H results268 (.cons (aZ H rfl) (.cons (aZ H rfl) (.cons (aZ H rfl) .nil))) ?_).1
   first|(exfalso;omega)|exact H.rt ⟨by simp only [iP];repeat (first|rw [av (by omega)]|rw [ah (by omega)]),rfl⟩
  intro jq
  refine goB 4 ?_ ?_
  ·intro p26
   refine ak 11 ?_;intro a H;refine cu ?_;refine (eU H results268 (.cons (aZ H rfl) (.cons (aZ H rfl) (.cons (aZ H rfl) .nil))) ?_).1
   first|(exfalso;omega)|exact H.rt ⟨by simp only [iP];repeat (first|rw [av (by omega)]|rw [ah (by omega)]),rfl⟩
  intro p26
  refine goB 4 ?_ ?_
  ·intro p28
   refine ak 11 ?_;intro a H;refine cu ?_;refine (eU H results268 (.cons (aZ H rfl) (.cons (aZ H rfl) (.cons (aZ H rfl) .nil))) ?_).1
   first|(exfalso;omega)|exact H.rt ⟨by simp only [iP];repeat (first|rw [av (by omega)]|rw [ah (by omega)]),rfl⟩
  intro p28
  refine ak 9 ?_;intro a H;refine cu ?_;refine (eU H results268 (.cons (aZ H rfl) (.cons (aZ H rfl) (.cons (aZ H rfl) .nil))) ?_).1
  first|(exfalso;omega)|exact H.rt ⟨by simp only [iP];repeat (first|rw [av (by omega)]|rw [ah (by omega)]),rfl⟩
 intro qI
 refine goB 12 ?_ ?_
 ·intro iW
  refine ak 11 ?_;intro a H;refine cu ?_;refine (eU H results268 (.cons (aZ H rfl) (.cons (aZ H rfl) (.cons (aZ H rfl) .nil))) ?_).1
  first|(exfalso;omega)|exact H.rt ⟨by simp only [iP];repeat (first|rw [av (by omega)]|rw [ah (by omega)]),rfl⟩
 intro iW
 refine goB 4 ?_ ?_
 ·intro jq
  refine ak 11 ?_;intro a H;refine cu ?_;refine (eU H results268 (.cons (aZ H rfl) (.cons (aZ H rfl) (.cons (aZ H rfl) .nil))) ?_).1
  first|(exfalso;omega)|exact H.rt ⟨by simp only [iP];repeat (first|rw [av (by omega)]|rw [ah (by omega)]),rfl⟩
 intro jq
 refine goB 4 ?_ ?_
 ·intro p26
  refine ak 11 ?_;intro a H;refine cu ?_;refine (eU H results268 (.cons (aZ H rfl) (.cons (aZ H rfl) (.cons (aZ H rfl) .nil))) ?_).1
  first|(exfalso;omega)|exact H.rt ⟨by simp only [iP];repeat (first|rw [av (by omega)]|rw [ah (by omega)]),rfl⟩
 intro p26
 refine goB 4 ?_ ?_
 ·intro p28
  refine ak 11 ?_;intro a H;refine cu ?_;refine (eU H results268 (.cons (aZ H rfl) (.cons (aZ H rfl) (.cons (aZ H rfl) .nil))) ?_).1
  first|(exfalso;omega)|exact H.rt ⟨by simp only [iP];repeat (first|rw [av (by omega)]|rw [ah (by omega)]),rfl⟩
 intro p28
 refine ak 9 ?_;intro a H;refine cu ?_;refine (eU H results268 (.cons (aZ H rfl) (.cons (aZ H rfl) (.cons (aZ H rfl) .nil))) ?_).1
 first|(exfalso;omega)|exact H.rt ⟨by simp only [iP];repeat (first|rw [av (by omega)]|rw [ah (by omega)]),rfl⟩
def fV (s:ByteArray) (i:Nat):Int:=if h:i < s.size then (s[i].toNat:Int) else 0
theorem kV {s:ByteArray} {i:Nat} (h:i < s.size):fV s i=(s[i].toNat:Int):=by simp [fV,h]
def oU (s:ByteArray) (at_ n:Nat):(fuel k:Nat)→(low high p:Int)→Int × Nat × Bool
 | 0,k,_,_,p=>(p,k,true)
 | f+1,k,low,high,p =>
  if n≤k then (p,k,true)
  else if s.size≤at_+k∨fV s (at_+k) < low∨high < fV s (at_+k) then (0,k,false)
  else oU s at_ n f (k+1) 128 191 (vk .or .i64 (IntKind.i64.wrap (p*2 ^ 6)) (vk .and .i64 (fV s (at_+k)) 63))
def kG (s:ByteArray) (at_:Nat):Int × Nat × Bool :=
 let b:=fV s at_
 let t:=iP b
 if t.2.2=0 then (0,0,false) else if t.2.2=1 then (b,1,true)
 else oU s at_ t.2.2.toNat 4 1 t.1 t.2.1 (vk .and .i64 b ((127:Int).fdiv (2 ^ t.2.2.toNat)))
theorem Vi (n:UInt8):IntKind.i64.wrap (n.toNat:Int)=(n.toNat:Int):=EW (by omega) (by have:=n.toNat_lt;omega)
theorem afz (G:GH) (w0:World) (hG:Hold G w0) (s:ByteArray) (i:Nat) (hi:i < s.size) (hs:s.size < 4611686018427387904) :
  Calls prog 249 #[.string s,.int .i64 i] w0 (bC w0 G fun v G'=>v=.tuple #[.int .i64 (kG s i).1,.int .i64 (kG s i).2.1,.bool (kG s i).2.2]∧G=G'):=by
 have hb:=kV hi;obtain ⟨n,hn⟩:∃ n:Nat,(iP (fV s i)).2.2=(n:Int):=⟨(iP (fV s i)).2.2.toNat,by have:=Va (fV s i);omega⟩
 have hn4:n≤4:=by have:=Va (fV s i);omega
 refine eN [(0,_),(1,_)] func249 rfl ntmps249 rfl rfl hG ?_;refine ak 8 ?_;intro a H;refine oL _ jE H wn rfl rfl rfl (by first|assumption|omega) rfl ?_;clear H;refine ak 1 ?_;intro a H;rw [← hb] at H;refine aD 3 H ?_;clear H;intro a H;refine s_call ahQ H wn rfl (arx _ _ H.ro _) rfl ?_;clear H;rintro v16 _ a w ⟨rfl,rfl⟩ - H;refine aD 1 H ?_;clear H;intro a H;(iterate 3 refine jY H wn rfl rfl rfl ?_;clear H;intro a H);refine gF 13 H ?_ ?_ <;> clear H
 ·intro Ce
  refine ak 5 ?_;intro a H;refine cu ?_;refine (eU H results249 (.cons (aZ H rfl) (.cons (aZ H rfl) (.cons (aZ H rfl) .nil))) ?_).1;exact H.rt ⟨by simp [kG,Ce],rfl⟩
 intro Ce
 refine goB 4 ?_ ?_
 ·intro Az
  refine ak 2 ?_;intro a H;refine AJ (fV s i) kE IE H wn rfl (by rw [hb];exact Vi _) rfl ?_;clear H;refine ak 4 ?_;intro a H;refine cu ?_;refine (eU H results249 (.cons (aZ H rfl) (.cons (aZ H rfl) (.cons (aZ H rfl) .nil))) ?_).1;exact H.rt ⟨by simp [kG,Ce,Az],rfl⟩
 intro Az
 refine ak 3 ?_;intro a H;refine AJ (fV s i) kE IE H wn rfl (by rw [hb];exact Vi _) rfl ?_;clear H;refine ak 1 ?_;intro a H;refine OU n H wn rfl rfl (by rw [hn]) (by show n≤64;omega) rfl ?_;clear H;intro a H;refine OJ rfl H wn rfl rfl rfl ?_;clear H;refine ak 7 ?_;intro a H;refine eH (ι:=Nat × Int × Int × Int) (Tc:=[(0,_),(1,_),(10,_)]) (Lc:=[]) (fun gh=>[(4,.int .i64 gh.2.2.2),(5,.int .i64 (gh.1:Int)),(8,.int .u8 gh.2.1),(9,.int .u8 gh.2.2.1)]) (fun gh=>[]) (fun gh=>G) (fun gh=>gh.1≤4∧kG s i=oU s i n (5 - gh.1) gh.1 gh.2.1 gh.2.2.1 gh.2.2.2) (fun gh=>5 - gh.1) ((1,_,_,_)) sB ?_ ?_
 ·refine ⟨by omega,?_⟩;simp only [kG,hn];rw [ah (by omega),ah (by omega)];rfl
 clear H;rintro ⟨k,low,high,p⟩ a w hI H;dsimp only at hI H;obtain ⟨hk,hdec⟩:=hI;dsimp only [lca,bG] at H;refine dO 6 H ?_ ?_ <;> clear H
 ·intro p34
  refine jM 12 43 ?_ ?_
  ·intro h43
   try have p43:=dT h43
   refine ak 25 ?_;intro a H;refine cu ?_
   have hfin:kG s i=(if n≤k then (p,k,true) else (0,k,false)):=by
    rw [hdec];have e:5 - k=(4 - k)+1:=by omega
    rw [e,oU]
    by_cases hk2:n≤k
    ·rw [av hk2,av hk2]
    rw [ah hk2,ah hk2,av (by first|omega|(rw [kV (by omega)];omega))]
   refine (eU H results249 (.cons (aZ H rfl) (.cons (aZ H rfl) (.cons (aZ H rfl) .nil))) ?_).1;exact H.rt ⟨by rw [hfin];first|rw [av (by omega)]|rw [ah (by omega)],rfl⟩
  intro h43
  try have p43:=dF h43
  refine ak 3 ?_;intro a H;refine KO _ H (wg H rfl rfl h43) rfl rfl rfl (by omega) (by omega) rfl ?_;clear H;intro a H;refine oL _ jE H (wg H rfl rfl h43) rfl rfl rfl (by first|assumption|omega) rfl ?_;clear H;refine jM 4 52 ?_ ?_
  ·intro Jz
   try have p52:=dT Jz
   refine ak 16 ?_;intro a H;refine cu ?_
   have hfin:kG s i=(if n≤k then (p,k,true) else (0,k,false)):=by
    rw [hdec];have e:5 - k=(4 - k)+1:=by omega
    rw [e,oU]
    by_cases hk2:n≤k
    ·rw [av hk2,av hk2]
    rw [ah hk2,ah hk2,av (by first|omega|(rw [kV (by omega)];omega))]
   refine (eU H results249 (.cons (aZ H rfl) (.cons (aZ H rfl) (.cons (aZ H rfl) .nil))) ?_).1;exact H.rt ⟨by rw [hfin];first|rw [av (by omega)]|rw [ah (by omega)],rfl⟩
  intro Jz
  try have p52:=dF Jz
  refine ak 3 ?_;intro a H;refine KO _ H (wg H rfl rfl Jz) rfl rfl rfl (by omega) (by omega) rfl ?_;clear H;intro a H;refine oL _ jE H (wg H rfl rfl Jz) rfl rfl rfl (by first|assumption|omega) rfl ?_;clear H;refine goB 4 ?_ ?_
  ·intro p60
   refine ak 6 ?_;intro a H;refine cu ?_
   have hfin:kG s i=(if n≤k then (p,k,true) else (0,k,false)):=by
    rw [hdec];have e:5 - k=(4 - k)+1:=by omega
    rw [e,oU]
    by_cases hk2:n≤k
    ·rw [av hk2,av hk2]
    rw [ah hk2,ah hk2,av (by first|omega|(rw [kV (by omega)];omega))]
   refine (eU H results249 (.cons (aZ H rfl) (.cons (aZ H rfl) (.cons (aZ H rfl) .nil))) ?_).1;exact H.rt ⟨by rw [hfin];first|rw [av (by omega)]|rw [ah (by omega)],rfl⟩
  intro p60
  refine ak 3 ?_;intro a H;refine aqf _ H wn rfl rfl rfl (by decide) rfl ?_;clear H;refine ak 4 ?_;intro a H;refine oL _ jE H wn rfl rfl rfl (by first|assumption|omega) rfl ?_;clear H;intro a H;refine AJ (fV s (i+k)) kE IE H wn rfl (by rw [kV (by omega)];exact Vi _) rfl ?_;clear H;intro a H;(iterate 2 refine OJ rfl H wn rfl rfl rfl ?_;clear H;intro a H);refine aD 10 H ?_;clear H;intro a H;refine aC ?_;refine cB ((k+1,128,191,vk .or .i64 (IntKind.i64.wrap (p*2 ^ 6)) (vk .and .i64 (fV s (i+k)) 63))) sB ?_ ?_
  ·(try dsimp only);refine ⟨by omega,?_⟩
   have e:5 - k=(5 - (k+1))+1:=by omega
   rw [hdec,e,oU,ah (by omega),kV (by omega),ah (by omega)]
  first|omega|(dsimp only;omega)
 intro p34
 refine ak 8 ?_;intro a H;refine cu ?_
 have hfin:kG s i=(if n≤k then (p,k,true) else (0,k,false)):=by
  rw [hdec];have e:5 - k=(4 - k)+1:=by omega
  rw [e,oU]
  by_cases hk2:n≤k
  ·rw [av hk2,av hk2]
  rw [ah hk2,ah hk2,av (by first|omega|(rw [kV (by omega)];omega))]
 refine (eU H results249 (.cons (aZ H rfl) (.cons (aZ H rfl) (.cons (aZ H rfl) .nil))) ?_).1;exact H.rt ⟨by rw [hfin];first|rw [av (by omega)]|rw [ah (by omega)],rfl⟩
theorem Xp (s:ByteArray) (at_ n:Nat):∀ (f k:Nat) (low high p:Int),n≤k+f→k≤n→k≤(oU s at_ n f k low high p).2.1∧(oU s at_ n f k low high p).2.1≤n∧((oU s at_ n f k low high p).2.2=true→at_+k≤s.size→at_+(oU s at_ n f k low high p).2.1≤s.size)
 | 0,k,low,high,p,h1,h2=>by simp only [oU];omega
 | f+1,k,low,high,p,h1,h2=>by
  unfold oU
  split
  ·simp only [];omega
  split
  ·simp only [];omega
  have ih:=Xp s at_ n f (k+1) 128 191 (vk .or .i64 (IntKind.i64.wrap (p*2 ^ 6)) (vk .and .i64 (fV s (at_+k)) 63)) (by omega) (by omega);refine ⟨by have:=ih.1;omega,ih.2.1,fun h3 h4=>ih.2.2 h3 (by omega)⟩
theorem MP (s:ByteArray) (i:Nat) (hi:i < s.size):(kG s i).2.1≤4∧((kG s i).2.2=true→1≤(kG s i).2.1∧i+(kG s i).2.1≤s.size):=by
 have ht:=Va (fV s i)
 unfold kG
 simp only []
 split
 ·simp
 split
 ·simp;omega
 have:=Xp s i (iP (fV s i)).2.2.toNat 4 1 (iP (fV s i)).1 (iP (fV s i)).2.1 (vk .and .i64 (fV s i) ((127:Int).fdiv (2 ^ (iP (fV s i)).2.2.toNat))) (by omega) (by omega);refine ⟨by omega,fun h=>⟨by omega,this.2.2 h (by omega)⟩⟩
def rF (s:ByteArray) (i:Nat):Int :=
 if h:i < s.size then (if h2:(kG s i).2.2=true then rF s (i+(kG s i).2.1) else i) else -1
 termination_by s.size - i
 decreasing_by have:=(MP s i h).2 h2;omega
theorem ajJ (G:GH) (w0:World) (hG:Hold G w0) (s:ByteArray) (hs:s.size < 4611686018427387904) :
  Calls prog 225 #[.string s] w0 (bC w0 G fun v G'=>v=.int .i64 (rF s 0)∧G=G'):=by
 refine eN [(0,_)] func225 rfl ntmps225 rfl rfl hG ?_;refine ak 8 ?_;intro a H;refine eH (ι:=Nat) (Tc:=[(0,_)]) (Lc:=[]) (fun gh=>[(3,.int .i64 (gh:Int))]) (fun gh=>[]) (fun gh=>G) (fun gh=>gh≤s.size∧rF s 0=rF s gh) (fun gh=>s.size - gh) (0) sB ?_ ?_
 ·exact ⟨by omega,rfl⟩
 clear H;intro i a w hI H;obtain ⟨hk,hf⟩:=hI;dsimp only [lca,bG] at H;refine dO 7 H ?_ ?_ <;> clear H
 ·intro gX
  refine ak 5 ?_;intro a H;refine s_call ahF H wn rfl (afz _ _ H.ro s i (by omega) hs) rfl ?_;clear H;rintro v14 _ a w ⟨rfl,rfl⟩ - H;have hd:=MP s i (by omega);refine aD 1 H ?_;clear H;intro a H;(iterate 3 refine jY H wn rfl rfl rfl ?_;clear H;intro a H);refine iR 9 H ?_ ?_ <;> clear H
  ·intro h19
   try have rX:=dT h19
   refine aP 4 ?_;exact ⟨by rw [hf,rF,dif_pos (by omega),dif_neg (by simpa using h19)],rfl⟩
  intro h19
  try have rX:=dF h19
  refine ak 6 ?_;intro a H;refine aC ?_;refine cB ((i+(kG s i).2.1)) sB ?_ ?_
  ·have h1:(kG s i).2.2=true:=by simpa using h19
   have h2:=hd.2 h1;refine ⟨by omega,?_⟩;rw [hf,rF,dif_pos (by omega),dif_pos h1]
  have h1:(kG s i).2.2=true:=by simpa using h19
  have h2:=hd.2 h1
  omega
 intro gX
 refine aP 4 ?_;exact ⟨by rw [hf,rF,dif_neg (by omega)],rfl⟩
def qm (s:ByteArray):Bool:=decide (rF s 0 < 0)
theorem Le (G:GH) (w0:World) (hG:Hold G w0) (s:ByteArray) (hs:s.size < 4611686018427387904) :
  Calls prog 193 #[.string s] w0 (bC w0 G fun v G'=>v=.bool (qm s)∧G=G'):=by
 refine eN [(0,_)] func193 rfl ntmps193 rfl rfl hG ?_;refine ak 5 ?_;intro a H;refine s_call ahu H wn rfl (ajJ _ _ H.ro s hs) rfl ?_;clear H;rintro v4 _ a w ⟨rfl,rfl⟩ - H;refine fu 3 H ?_;exact ⟨rfl,rfl⟩
def oQ (s:ByteArray) (i:Nat):Nat :=
 if i < s.size then (if vk .and .u8 (fV s i) 192=128 then 0 else 1)+oQ s (i+1) else 0
 termination_by s.size - i
theorem Xc (s:ByteArray):∀ (n i:Nat),s.size - i=n→oQ s i≤n
 | 0,i,h=>by rw [oQ,ah (by omega)];exact bP _
 | n+1,i,h=>by
  have ih:=Xc s n (i+1) (by omega);rw [oQ,av (by omega)]
  split <;> omega
def rD (s:ByteArray):Nat:=if qm s then oQ s 0 else 0
def IG (s:ByteArray):Int:=if qm s then 0 else 12
theorem Xd (s:ByteArray):rD s≤s.size:=by unfold rD;have:=Xc s s.size 0 (by omega);split <;> omega
theorem afu (G:GH) (w0:World) (hG:Hold G w0) (s:ByteArray) (hs:s.size < 4611686018427387904) :
  Calls prog 197 #[.string s] w0 (bC w0 G fun v G'=>v=.tuple #[vi (rD s),vi (IG s)]∧G=G'):=by
 refine eN [(0,_)] func197 rfl ntmps197 rfl rfl hG ?_;refine ak 7 ?_;intro a H;refine s_call Jm H wn rfl (Le _ _ H.ro s hs) rfl ?_;clear H;rintro v6 _ a w ⟨rfl,rfl⟩ - H;refine iR 2 H ?_ ?_ <;> clear H
 ·intro h7
  refine ak 4 ?_;intro a H;refine cu ?_;refine (eU H results197 (.cons (aZ H rfl) (.cons (aZ H rfl) .nil)) ?_).1;exact H.rt ⟨by simp [rD,IG,show qm s=false by simpa using h7],rfl⟩
 intro h7
 try have p7:=dF h7
 refine ak 8 ?_;intro a H;refine eH (ι:=Nat × Nat) (Tc:=[(0,_),(9,_)]) (Lc:=[]) (fun gh=>[(2,vi gh.2),(10,vi gh.1)]) (fun gh=>[]) (fun gh=>G) (fun gh=>gh.1≤s.size∧gh.2≤gh.1∧gh.2+oQ s gh.1=rD s) (fun gh=>s.size - gh.1) ((0,0)) sB ?_ ?_
 ·exact ⟨by omega,by omega,by simp [rD,show qm s=true by simpa using h7]⟩
 clear H;rintro ⟨i,n⟩ a w hI H;dsimp only at hI H;obtain ⟨hk,hn,hf⟩:=hI;dsimp only [lca,bG] at H;refine dO 4 H ?_ ?_ <;> clear H
 ·intro qg
  refine ak 10 ?_;intro a H;refine oL _ jE H wn rfl rfl rfl (by first|assumption|omega) rfl ?_;clear H;intro a H;refine OJ rfl H wn rfl rfl rfl ?_;clear H;refine goB 2 ?_ ?_
  ·intro jH
   refine ak 8 ?_;intro a H;refine aC ?_;refine cB ((i+1,n+1)) sB ?_ ?_
   ·(try dsimp only);rw [← kV (by omega)] at jH;rw [oQ,av (by omega),ah jH] at hf;exact ⟨by omega,by omega,by omega⟩
   first|omega|(dsimp only;omega)
  intro jH
  refine ak 4 ?_;intro a H;refine aC ?_;refine cB ((i+1,n)) sB ?_ ?_
  ·(try dsimp only);rw [← kV (by omega),nK] at jH;rw [oQ,av (by omega),av jH] at hf;exact ⟨by omega,by omega,by omega⟩
  first|omega|(dsimp only;omega)
 intro qg
 refine ak 6 ?_;intro a H;refine cu ?_;refine (eU H results197 (.cons (aZ H rfl) (.cons (aZ H rfl) .nil)) ?_).1;exact H.rt ⟨by rw [oQ,ah (by omega),wu] at hf;rw [hf];simp [IG,show qm s=true by simpa using h7],rfl⟩
end
section
open Go.RowKit
theorem hmx:prog.follows .mixedOrders=true:=by kernel_rfl
instance Bu:dR prog 68 0 0:=⟨by kernel_rfl⟩
instance bR:Ty prog 3 1 8 [.int .i64 0] false:=⟨by kernel_rfl,by kernel_rfl⟩
instance GU:dR prog 68 3 3:=⟨by kernel_rfl⟩
instance mh:Ty prog 9 1 16 [.string ⟨#[]⟩] false:=⟨by kernel_rfl,by kernel_rfl⟩
theorem ahf:∀ args w,(callFunc 197 args).run prog w=.ok (.enter 197 args) w:=enters func197 rfl (by kernel_rfl)
theorem nT:prog.underlying 22=some (.slice 68):=by kernel_rfl
instance:jZ prog 22 (.slice 68):=⟨nT⟩
instance fZ:Ty prog 68 11 176 [.int .i64 0,.int .i64 0,.int .i64 0,.string ⟨#[]⟩,.slice none 0 0,.int .i64 0,.int .i64 0,.slice none 0 0,.slice none 0 0,.slice none 0 0,.slice none 0 0] true:=⟨by kernel_rfl,by kernel_rfl⟩
theorem iL:prog.underlying 23=some (.slice 187):=by kernel_rfl
instance:jZ prog 23 (.slice 187):=⟨iL⟩
instance gM:Ty prog 187 2 16 [.int .i64 0,.int .i64 0] true:=⟨by kernel_rfl,by kernel_rfl⟩
theorem yj:prog.underlying 24=some (.slice 159):=by kernel_rfl
instance:jZ prog 24 (.slice 159):=⟨yj⟩
instance ow:Ty prog 159 2 16 [.int .i64 0,.int .i64 0] true:=⟨by kernel_rfl,by kernel_rfl⟩
theorem oz:prog.underlying 25=some (.slice 161):=by kernel_rfl
instance:jZ prog 25 (.slice 161):=⟨oz⟩
instance jv:Ty prog 161 4 32 [.int .i64 0,.int .i64 0,.int .i64 0,.bool false] true:=⟨by kernel_rfl,by kernel_rfl⟩
instance dw:Ty prog 29 5 88 [.slice none 0 0,.int .i64 0,.int .i64 0,.slice none 0 0,.slice none 0 0] true:=⟨by kernel_rfl,by kernel_rfl⟩
instance:dR prog 29 0 0:=⟨by kernel_rfl⟩
instance FC:Ty prog 23 1 24 [.slice none 0 0] false:=⟨by kernel_rfl,by kernel_rfl⟩
theorem MS:∀ args w,(callFunc 168 args).run prog w=.ok (.enter 168 args) w:=enters func168 rfl (by kernel_rfl)
instance Jt:dR prog 29 1 1:=⟨by kernel_rfl⟩
instance GR:dR prog 27 2 2:=⟨by kernel_rfl⟩
instance Cu:Ty prog 24 1 24 [.slice none 0 0] false:=⟨by kernel_rfl,by kernel_rfl⟩
theorem agK:∀ args w,(callFunc 169 args).run prog w=.ok (.enter 169 args) w:=enters func169 rfl (by kernel_rfl)
instance Rh:dR prog 27 3 3:=⟨by kernel_rfl⟩
instance Pb:Ty prog 25 1 24 [.slice none 0 0] false:=⟨by kernel_rfl,by kernel_rfl⟩
theorem agL:∀ args w,(callFunc 170 args).run prog w=.ok (.enter 170 args) w:=enters func170 rfl (by kernel_rfl)
theorem FJ:prog.underlying 66=some (.slice 74):=by kernel_rfl
instance:jZ prog 66 (.slice 74):=⟨FJ⟩
instance jI:Ty prog 74 6 112 [.slice none 0 0,.int .i64 0,.int .i64 0,.slice none 0 0,.slice none 0 0,.slice none 0 0] true:=⟨by kernel_rfl,by kernel_rfl⟩
theorem Cw:prog.underlying 72=some (.slice 76):=by kernel_rfl
instance:jZ prog 72 (.slice 76):=⟨Cw⟩
instance jO:Ty prog 76 7 120 [.int .i64 0,.slice none 0 0,.int .i64 0,.int .i64 0,.slice none 0 0,.slice none 0 0,.slice none 0 0] true:=⟨by kernel_rfl,by kernel_rfl⟩
instance Yn:dR prog 76 0 0:=⟨by kernel_rfl⟩
instance Yo:dR prog 76 1 1:=⟨by kernel_rfl⟩
theorem Ep:∀ args w,(callFunc 108 args).run prog w=.ok (.enter 108 args) w:=enters func108 rfl (by kernel_rfl)
instance Yp:dR prog 76 2 6:=⟨by kernel_rfl⟩
instance pG:Ty prog 22 1 24 [.slice none 0 0] false:=⟨by kernel_rfl,by kernel_rfl⟩
theorem Q0:∀ args w,(callFunc 80 args).run prog w=.ok (.enter 80 args) w:=enters func80 rfl (by kernel_rfl)
theorem OZ:pI prog 76 [(0,1),(1,5),(6,1)] [.int .i64 0,.slice none 0 0,.int .i64 0,.int .i64 0,.slice none 0 0,.slice none 0 0,.slice none 0 0]:=⟨by kernel_rfl,by kernel_rfl⟩
instance Rw:dR prog 74 0 0:=⟨by kernel_rfl⟩
instance Ju:dR prog 74 1 5:=⟨by kernel_rfl⟩
instance IB:Ty prog 72 1 24 [.slice none 0 0] false:=⟨by kernel_rfl,by kernel_rfl⟩
theorem XL:∀ args w,(callFunc 172 args).run prog w=.ok (.enter 172 args) w:=enters func172 rfl (by kernel_rfl)
theorem OY:pI prog 74 [(0,5),(5,1)] [.slice none 0 0,.int .i64 0,.int .i64 0,.slice none 0 0,.slice none 0 0,.slice none 0 0]:=⟨by kernel_rfl,by kernel_rfl⟩
instance GV:dR prog 68 4 4:=⟨by kernel_rfl⟩
instance Yl:dR prog 68 5 9:=⟨by kernel_rfl⟩
instance Ym:dR prog 68 6 10:=⟨by kernel_rfl⟩
instance KW:Ty prog 66 1 24 [.slice none 0 0] false:=⟨by kernel_rfl,by kernel_rfl⟩
theorem XF:∀ args w,(callFunc 110 args).run prog w=.ok (.enter 110 args) w:=enters func110 rfl (by kernel_rfl)
theorem XI:∀ args w,(callFunc 140 args).run prog w=.ok (.enter 140 args) w:=enters func140 rfl (by kernel_rfl)
theorem ahh:∀ args w,(callFunc 203 args).run prog w=.ok (.enter 203 args) w:=enters func203 rfl (by kernel_rfl)
theorem agt:∀ args w,(callFunc 142 args).run prog w=.ok (.enter 142 args) w:=enters func142 rfl (by kernel_rfl)
theorem ags:∀ args w,(callFunc 141 args).run prog w=.ok (.enter 141 args) w:=enters func141 rfl (by kernel_rfl)
def jl (x:ay):Nat:=if x.kind=1 then rD x.text else 1
def Lb (x:ay):Int:=if x.kind=1 then IG x.text else 0
def MR (l:List ay):Bool:=l.all fun x=>decide (Lb x=0)
def Fy:List ay→Nat
 | []=>0
 | x :: l=>jl x+Fy l
def Dq (l:List ay):Int:=if MR l then Fy l else 0
def mZ:List ay→Nat
 | []=>0
 | x :: l=>x.text.size+1+mZ l
theorem Fz (l m:List ay):mZ (l++m)=mZ l+mZ m:=by
 induction l with
 | nil=>simp [mZ]
 | cons x l ih=>simp [mZ,ih];omega
theorem aco (l:List ay) (k:Nat):mZ (l.take k)≤mZ l:=by
 have:=Fz (l.take k) (l.drop k);rw [List.take_append_drop] at this;omega
theorem Es {G:GH} {l:List ay} {A:Option Addr} {k:Nat} (hk:k < l.length) (hg:∀ k r,(l.map ay.dat)[k]?=some r→∃ b o cs,A=some ⟨b,o,none⟩∧cs.length=11∧(∀ j u,cs[j]?=some u→aI G b (o+k*11+j)=some u)∧aU G r cs) :
  ∃ b o pA pn pc dA dn dc yA yn yc fA fn fc rA rn rc,A=some ⟨b,o,none⟩∧(∀ j u,[vi l[k].kind,vi l[k].code,vi l[k].id,.string l[k].text,.slice pA pn pc,vi l[k].head.marks.ins,vi l[k].head.marks.move,.slice dA dn dc,.slice yA yn yc,.slice fA fn fc,.slice rA rn rc][j]?=some u→aI G b (o+k*11+j)=some u) ∧
   fD G l[k].head (.slice pA pn pc) (.slice dA dn dc) (.slice yA yn yc)∧au G (.sl 11 (l[k].flow.map ay.dat)) (.slice fA fn fc)∧au G (.sl 6 (l[k].rows.map aV.dat)) (.slice rA rn rc):=by
 obtain ⟨b,o,cs,h1,h2,h3,h4⟩:=hg k l[k].dat (by simp [hk]);obtain ⟨pA,pn,pc,dA,dn,dc,yA,yn,yc,fA,fn,fc,rA,rn,rc,rfl,h5,h6,h7⟩:=h4.item;exact ⟨b,o,pA,pn,pc,dA,dn,dc,yA,yn,yc,fA,fn,fc,rA,rn,rc,h1,h3,h5,h6,h7⟩
theorem Ub:∀ l:List ay,l.length≤mZ l
 | []=>bP _
 | x :: l=>by have:=Ub l;simp only [kr,mZ];omega
theorem acn:∀ l:List ay,mZ l≤bZ l
 | []=>bP _
 | x :: l=>by
  have:=acn l;have h2:=yB x
  simp only [mZ,bZ,eZ,eG] at *;omega
theorem Qr (G:GH) (w0:World) (hG:Hold G w0) (rows:List (List Dat)) (A:Option Addr) (n c:Nat) (hv:au G (.sl 2 rows) (.slice A n c)) (hz:rows.length≤4294967296) :
  Calls prog 168 #[.slice A n c] w0 (bC w0 G fun v G'=>au G' (.sl 2 rows) v):=by
 obtain ⟨hn,hc1,hc2,hnil,hx⟩:=hv.cells;refine eN [(0,_)] func168 rfl ntmps168 rfl rfl hG ?_;refine ak 6 ?_;intro a H;refine AL iL H wn rfl rfl ?_;clear H;refine goC 1 ?_ ?_
 ·intro h4
  refine aP 3 ?_;rw [hnil (by simpa using h4)];exact au.iH rfl (by simp [maxLen])
 intro h4
 try have p4:=dF h4
 refine ak 1 ?_
 have hA:¬ A=none:=by intro e;rw [e] at h4;cases h4
 refine ak 1 ?_;intro a H;refine AB iL gM H wn rfl ?_;clear H;intro b5 a w hb5 H;refine aD 1 H ?_;clear H
 intro a H;by_cases hr0:rows=[]
 ·have hn0:n=0:=by rw [hn,hr0];rfl
  subst hn0;refine AA iL gM H wn rfl rfl (bP _) rfl ?_;clear H;refine aP 2 ?_;rw [hr0];exact au.iH rfl (by simp [maxLen])
 obtain ⟨b,o,xs,rfl,hxl,hxc,hx1,dV⟩:=hx hr0;refine lJ (Li:=[]) (Lo:=[_]) (news:=xs) iL gM rfl rfl H wn rfl rfl bV.empty hxl (fun j u hj=>H.hp.aI (hxc j u hj)) hx1 (by omega) (by omega) rfl ?_;clear H;intro v7 Lo a w hrow H;obtain ⟨G',hm,hrep,H⟩:=H.mR hrow (rows:=rows) (by omega) (by simpa using dV)
 try clear hG
 obtain ⟨G2,hG2⟩:∃ g,g=G':=⟨_,rfl⟩;subst hG2;refine fu 2 H ?_;exact hrep
theorem aeT (G:GH) (w0:World) (hG:Hold G w0) (rows:List (List Dat)) (A:Option Addr) (n c:Nat) (hv:au G (.sl 2 rows) (.slice A n c)) (hz:rows.length≤4294967296) :
  Calls prog 169 #[.slice A n c] w0 (bC w0 G fun v G'=>au G' (.sl 2 rows) v):=by
 obtain ⟨hn,hc1,hc2,hnil,hx⟩:=hv.cells;refine eN [(0,_)] func169 rfl ntmps169 rfl rfl hG ?_;refine ak 6 ?_;intro a H;refine AL yj H wn rfl rfl ?_;clear H;refine goC 1 ?_ ?_
 ·intro h4
  refine aP 3 ?_;rw [hnil (by simpa using h4)];exact au.iH rfl (by simp [maxLen])
 intro h4
 try have p4:=dF h4
 refine ak 1 ?_
 have hA:¬ A=none:=by intro e;rw [e] at h4;cases h4
 refine ak 1 ?_;intro a H;refine AB yj ow H wn rfl ?_;clear H;intro b5 a w hb5 H;refine aD 1 H ?_;clear H
 intro a H;by_cases hr0:rows=[]
 ·have hn0:n=0:=by rw [hn,hr0];rfl
  subst hn0;refine AA yj ow H wn rfl rfl (bP _) rfl ?_;clear H;refine aP 2 ?_;rw [hr0];exact au.iH rfl (by simp [maxLen])
 obtain ⟨b,o,xs,rfl,hxl,hxc,hx1,dV⟩:=hx hr0;refine lJ (Li:=[]) (Lo:=[_]) (news:=xs) yj ow rfl rfl H wn rfl rfl bV.empty hxl (fun j u hj=>H.hp.aI (hxc j u hj)) hx1 (by omega) (by omega) rfl ?_;clear H;intro v7 Lo a w hrow H;obtain ⟨G',hm,hrep,H⟩:=H.mR hrow (rows:=rows) (by omega) (by simpa using dV)
 try clear hG
 obtain ⟨G2,hG2⟩:∃ g,g=G':=⟨_,rfl⟩;subst hG2;refine fu 2 H ?_;exact hrep
theorem aeY (G:GH) (w0:World) (hG:Hold G w0) (rows:List (List Dat)) (A:Option Addr) (n c:Nat) (hv:au G (.sl 4 rows) (.slice A n c)) (hz:rows.length≤4294967296) :
  Calls prog 170 #[.slice A n c] w0 (bC w0 G fun v G'=>au G' (.sl 4 rows) v):=by
 obtain ⟨hn,hc1,hc2,hnil,hx⟩:=hv.cells;refine eN [(0,_)] func170 rfl ntmps170 rfl rfl hG ?_;refine ak 6 ?_;intro a H;refine AL oz H wn rfl rfl ?_;clear H;refine goC 1 ?_ ?_
 ·intro h4
  refine aP 3 ?_;rw [hnil (by simpa using h4)];exact au.iH rfl (by simp [maxLen])
 intro h4
 try have p4:=dF h4
 refine ak 1 ?_
 have hA:¬ A=none:=by intro e;rw [e] at h4;cases h4
 refine ak 1 ?_;intro a H;refine AB oz jv H wn rfl ?_;clear H;intro b5 a w hb5 H;refine aD 1 H ?_;clear H
 intro a H;by_cases hr0:rows=[]
 ·have hn0:n=0:=by rw [hn,hr0];rfl
  subst hn0;refine AA oz jv H wn rfl rfl (bP _) rfl ?_;clear H;refine aP 2 ?_;rw [hr0];exact au.iH rfl (by simp [maxLen])
 obtain ⟨b,o,xs,rfl,hxl,hxc,hx1,dV⟩:=hx hr0;refine lJ (Li:=[]) (Lo:=[_]) (news:=xs) oz jv rfl rfl H wn rfl rfl bV.empty hxl (fun j u hj=>H.hp.aI (hxc j u hj)) hx1 (by omega) (by omega) rfl ?_;clear H;intro v7 Lo a w hrow H;obtain ⟨G',hm,hrep,H⟩:=H.mR hrow (rows:=rows) (by omega) (by simpa using dV)
 try clear hG
 obtain ⟨G2,hG2⟩:∃ g,g=G':=⟨_,rfl⟩;subst hG2;refine fu 2 H ?_;exact hrep
theorem Em (G:GH) (w0:World) (hG:Hold G w0) (h:dW) (pA dA yA:Option Addr) (pn pc dn dc yn yc:Nat) (hv:fD G h (.slice pA pn pc) (.slice dA dn dc) (.slice yA yn yc)) (hz:kU h≤4294967296) :
  Calls prog 108 #[.agg #[.slice pA pn pc,vi h.marks.ins,vi h.marks.move,.slice dA dn dc,.slice yA yn yc]] w0 (bC w0 G fun v G'=>∃ p d l,v=.agg #[p,vi h.marks.ins,vi h.marks.move,d,l]∧fD G' h p d l):=by
 have he:=DW h;have h1:=oq (h.props.map aT.dat);have h2:=oq (h.marks.bL.map fF.dat);have h3:=oq (h.marks.layers.map cK.dat);refine eN [(0,_)] func108 rfl ntmps108 rfl rfl hG ?_;refine ak 1 ?_;intro a H;refine dP (cs:=[_,_,_,_,_]) H wn rfl rfl rfl ?_;clear H;intro b1 a w hb1 H;refine dz dw H wn rfl ?_;clear H;intro b2 a w hb2 H;refine aD 4 H ?_;clear H;intro a H;refine s_call MS H wn rfl (Qr _ _ H.ro _ _ _ _ hv.props (by omega)) rfl ?_;clear H;rintro v5 G5 a w pX Dc H;obtain ⟨A5,n5,c5,rfl⟩:=pX.form;refine aD 1 H ?_;clear H;intro a H;refine aX FC 1 (vs:=[_]) _ H wn rfl rfl rfl rfl rfl rfl rfl rfl ?_;clear H;intro w H;dsimp only [List.set,setRow] at H;refine aD 2 H ?_;clear H;obtain ⟨hvp,hvd,hvy⟩:=hv.mono Dc;clear hv
 have oZ:∀ (aQ:Nat) (v:aj) (G G':GH),(∀ k o,G k=some o→G' k=some o)→(fun (aQ:Nat) (v:aj) (G:GH)=>match aQ with|0=>v=(aG b1 1)|1=>v=(aG b1 3)|2=>v=.slice dA dn dc|3=>au G (.sl 2 (h.marks.bL.map fF.dat)) v|4=>v=(aG b1 1)|5=>v=(aG b1 4)|6=>v=.slice yA yn yc|7=>au G (.sl 4 (h.marks.layers.map cK.dat)) v|8=>v=(aG b1 1)|9=>v=(aG b1 3)|_=>True) aQ v G→(fun (aQ:Nat) (v:aj) (G:GH)=>match aQ with|0=>v=(aG b1 1)|1=>v=(aG b1 3)|2=>v=.slice dA dn dc|3=>au G (.sl 2 (h.marks.bL.map fF.dat)) v|4=>v=(aG b1 1)|5=>v=(aG b1 4)|6=>v=.slice yA yn yc|7=>au G (.sl 4 (h.marks.layers.map cK.dat)) v|8=>v=(aG b1 1)|9=>v=(aG b1 3)|_=>True) aQ v G':=by
  intro aQ v G G' hm h
  match aQ,h with
  | 0,h=>exact h
  | 1,h=>exact h
  | 2,h=>exact h
  | 3,h=>exact au.mono hm h
  | 4,h=>exact h
  | 5,h=>exact h
  | 6,h=>exact h
  | 7,h=>exact au.mono hm h
  | 8,h=>exact h
  | 9,h=>exact h
  | 10,h=>exact trivial
  | 11,h=>exact trivial
  | 12,h=>exact trivial
  | 13,h=>exact trivial
  | _+14,h=>exact trivial
 intro a H;refine yJ (hmx) [[],[0],[0,1],[0,1,2],[],[4],[4,5],(ra 0 7),(ra 0 7),(ra 0 7++[8]),(ra 0 10),(ra 0 11),(ra 0 12),(ra 0 13)] (ra 10 4) (by kernel_rfl) (by kernel_rfl) (fun (aQ:Nat) (v:aj) (G:GH)=>match aQ with|0=>v=(aG b1 1)|1=>v=(aG b1 3)|2=>v=.slice dA dn dc|3=>au G (.sl 2 (h.marks.bL.map fF.dat)) v|4=>v=(aG b1 1)|5=>v=(aG b1 4)|6=>v=.slice yA yn yc|7=>au G (.sl 4 (h.marks.layers.map cK.dat)) v|8=>v=(aG b1 1)|9=>v=(aG b1 3)|_=>True) oZ H ?_ ?_
 ·clear H;refine aF ?_ ?_ ?_ ?_ (aF ?_ ?_ ?_ ?_ (aF ?_ ?_ (bQ rfl) (bQ rfl) (bH (bQ rfl) (bH (bQ rfl) cO))))
  ·refine dU [] rfl trivial (by kernel_rfl) oZ rfl rfl ?_;intro aS a w G1 hG HT H fin;exact kH H (Rf Jt rfl fun _ H=>fin H iJ rfl)
  ·refine dU [(0,7,_)] rfl ⟨fun _ _ h=>h,bq⟩ (by kernel_rfl) oZ rfl rfl ?_;intro aS a w G1 hG HT H fin;exact kH H (Rf GR rfl fun _ H=>fin H iJ rfl)
  ·refine dU [(1,8,_)] rfl ⟨fun _ _ h=>h,bq⟩ (by kernel_rfl) oZ rfl rfl ?_;intro aS a w G1 hG HT H fin;exact kH H (Ro Cu 1 rfl fun _ H=>fin H iJ rfl)
  ·refine dU [(2,9,_)] rfl ⟨fun _ _ h=>h,bq⟩ (by kernel_rfl) oZ rfl rfl ?_;intro aS a w G1 hG HT H fin;refine s_call agK H wn rfl (aeT _ _ H.ro _ _ _ _ (hvd.mono hG) (by omega)) rfl ?_;clear H;rintro v10 zO a w rP pW H;exact fin H pW (rP)
  ·refine dU [] rfl trivial (by kernel_rfl) oZ rfl rfl ?_;intro aS a w G1 hG HT H fin;exact kH H (Rf Jt rfl fun _ H=>fin H iJ rfl)
  ·refine dU [(4,11,_)] rfl ⟨fun _ _ h=>h,bq⟩ (by kernel_rfl) oZ rfl rfl ?_;intro aS a w G1 hG HT H fin;exact kH H (Rf Rh rfl fun _ H=>fin H iJ rfl)
  ·refine dU [(5,12,_)] rfl ⟨fun _ _ h=>h,bq⟩ (by kernel_rfl) oZ rfl rfl ?_;intro aS a w G1 hG HT H fin;exact kH H (Ro Pb 1 rfl fun _ H=>fin H iJ rfl)
  ·refine dU [(6,13,_)] rfl ⟨fun _ _ h=>h,bq⟩ (by kernel_rfl) oZ rfl rfl ?_;intro aS a w G1 hG HT H fin;refine s_call agL H wn rfl (aeY _ _ H.ro _ _ _ _ (hvy.mono hG) (by omega)) rfl ?_;clear H;rintro v14 zP a w qG wI H;exact fin H wI (qG)
  ·refine dU [] rfl trivial (by kernel_rfl) oZ rfl rfl ?_;intro aS a w G1 hG HT H fin;exact kH H (Rf Jt rfl fun _ H=>fin H iJ rfl)
  refine dU [(8,15,_)] rfl ⟨fun _ _ h=>h,bq⟩ (by kernel_rfl) oZ rfl rfl ?_;intro aS a w G1 hG HT H fin;exact kH H (Rf GR rfl fun _ H=>fin H iJ rfl)
 clear H;intro a w G BA H hv;obtain ⟨u10,Kl,rP⟩:=hv 3 10 (by decide) rfl;(try dsimp only at rP);obtain ⟨VA,n10,c10,rfl⟩:=rP.form;have H:=H.ig Kl;obtain ⟨u14,Km,qG⟩:=hv 7 14 (by decide) rfl;(try dsimp only at qG);obtain ⟨Px,n14,c14,rfl⟩:=qG.form;have H:=H.ig Km;have H:=H.aN (hv 9 16 rfl rfl) rfl;clear hv;refine aX Cu 1 (vs:=[_]) _ H wn rfl rfl rfl rfl rfl rfl rfl rfl ?_;clear H;intro w H;dsimp only [List.set,setRow] at H;refine kH H (Rf Jt rfl (Rf Rh rfl ?_));clear H;intro a H;refine aX Pb 1 (vs:=[_]) _ H wn rfl rfl rfl rfl rfl rfl rfl rfl ?_;clear H;intro w H;dsimp only [List.set,setRow] at H;refine aC ⟨rfl,?_⟩;refine dQ ?_;refine yP ?_;refine aR dw (cs:=[_,_,_,_,_]) H wn rfl rfl (H.hp.bO 1 rfl rfl) rfl ?_;clear H;intro a H;refine aX dw 0 (vs:=[_,_,_,_,_]) _ H wn rfl rfl rfl rfl rfl rfl rfl rfl ?_;clear H;intro w H;dsimp only [List.set,setRow] at H;refine aC ?_;refine dQ ?_;refine cu ?_;refine (leave1 H results108 (.cons (kT dw (cs:=[_,_,_,_,_]) H rfl rfl (H.hp.bO 0 rfl rfl)) .nil) ?_).1;exact H.rt ⟨_,_,_,rfl,pX.mono BA,rP,qG⟩
theorem wS {G:GH} {w:World} (h:Hold G w):fT G [] w:=⟨h,fun _ h=>(by cases h),fun _ h=>(by cases h),List.Pairwise.nil⟩
theorem Gp {P:Program} {f:FuncId} {args:Array aj} {w0:World} {G:GH} {e sz n:Nat} {rows:List (List Dat)} (hG:Hold G w0) (h:Calls P f args w0 (fI w0 G [] fun u G' L'=>∃ xs,bV e sz u n xs L'∧bU G' sz rows xs)) (hl:rows.length=n) :
  Calls P f args w0 (bC w0 G fun u G'=>au G' (.sl sz rows) u):=by
 intro cs;obtain ⟨e1,w',fr,⟨v,G',L',rfl,hch,xs,hrow,dV⟩,h2,h3,h4⟩:=h cs;have hp0:Hp w0 (fun k=>k < w0.heap.size) G G ([]++[]) w0:=⟨rfl,rfl,rfl,bP _,fun _ h=>h,fun _ _=>rfl,hG,fun _ _ h=>h,fun _ _ h=>.inl h,fun _ h=>(by cases h),fun _ h=>(by cases h),fun _ h=>(by cases h),List.Pairwise.nil⟩;have hp1:=hp0.change hch;rw [oD] at hp1;refine ⟨_,w',fr,?_,h2,h3,h4⟩
 rcases hrow.2 with ⟨rfl,h5,rfl⟩|⟨b,cap,cur,rfl,rfl,h5,h6,h7,h8⟩
 ·refine hp1.ret ?_;have:rows=[]:=List.eq_nil_of_length_eq_zero (by omega);subst this
  simp only [au]
  exact ⟨none,0,by simp,by simp,by simp [maxLen],fun h=>absurd rfl h⟩
 have hn:=hp1.sw (b,.cells cur e (0,0)) (by simp);exact (hp1.giveUp 0 rfl).ret (au.eX (GH.F9 G' b _) hl h5 h6 h8 (dV.mono fun k o h=>GH.F8 G' hn k o h))
def Bb (fv:aj) (w0:World) (G:GH) (d d':List Dat):Prop:=∀ (G1:GH) (w1:World) (cs:List aj),(∀ b o,G b=some o→G1 b=some o)→Hold G1 w1→aU G1 d cs →
 qo prog fv [.agg cs.toArray] w1 (bC w1 G1 fun u G'=>∃ cs',u=.agg cs'.toArray∧aU G' d' cs')
abbrev FR (fv:aj) (w0:World) (G:GH) (d:List Dat):Prop:=Bb fv w0 G d d
theorem XA (φ:ay→ay) (G:GH) (w0:World) (hO:fT G [] w0) (l:List ay) (v fv:aj) (hv:au G (.sl 11 (l.map ay.dat)) v) (hz:l.length≤4294967296) (hf:∀ x∈l,Bb fv w0 G x.dat (φ x).dat) :
  Calls prog 140 #[v,fv] w0 (fI w0 G [] fun u G' L'=>∃ xs,bV 68 11 u l.length xs L'∧bU G' 11 (l.map fun x=>(φ x).dat) xs):=by
 obtain ⟨A,c,rfl,hc1,hc2,hg⟩:=hv.slice
 have hml:4294967297≤maxLen:=by decide
 rw [bM] at *;refine jf (N:=22) (T:=[(0,_),(1,_)]) func140 rfl ntmps140 rfl rfl hO ?_;refine ak 13 ?_;intro a H;refine eH (ι:=Nat × aj × List aj × OL × GH) (Tc:=[(1,_),(8,_),(9,_)]) (Lc:=[]) (fun gh=>[(5,gh.2.1),(10,vi gh.1)]) (fun gh=>[]++gh.2.2.2.1) (fun gh=>gh.2.2.2.2) (fun gh=>gh.1≤l.length∧bV 68 11 gh.2.1 gh.1 gh.2.2.1 gh.2.2.2.1∧bU gh.2.2.2.2 11 ((l.map fun x=>(φ x).dat).take gh.1) gh.2.2.1∧(∀ b o,G b=some o→gh.2.2.2.2 b=some o)) (fun gh=>l.length - gh.1) ((0,.slice none 0 0,[],[],G)) sB ?_ ?_
 ·exact ⟨by omega,bV.nil,by simpa using bU.nil,fun _ _ h=>h⟩
 clear H;rintro ⟨k,v,xs,Lo,g⟩ a w hI H;dsimp only at hI H;obtain ⟨hk,hrw,dV,hgm⟩:=hI;dsimp only [lca,bG] at H;refine dO 4 H ?_ ?_ <;> clear H
 ·intro qg
  have hk2:k < l.length:=by omega
  obtain ⟨b,o,cs,rfl,hcl,hrow,hrep⟩:=hg k l[k].dat (by simp [hk2]);obtain ⟨pA,pn,pc,dA,dn,dc,yA,yn,yc,fA,fn,fc,rA,rn,rc,rfl,-⟩:=hrep.item;replace hrow:=fun j u hj=>aH hgm (hrow j u hj);refine ak 5 ?_;intro a H;refine aR fZ (cs:=[_,_,_,_,_,_,_,_,_,_,_]) H wn rfl rfl (fun j v hj=>H.hp.aI (hrow j v hj)) rfl ?_;clear H;intro a H;refine dz fZ H wn rfl ?_;clear H;intro b7 a w vG H;refine aX fZ 0 (vs:=[_,_,_,_,_,_,_,_,_,_,_]) _ H wn rfl rfl rfl rfl rfl rfl rfl rfl ?_;clear H;intro w H;dsimp only [List.set,setRow] at H;refine aD 4 H ?_;clear H;intro a H;refine aR fZ (cs:=[_,_,_,_,_,_,_,_,_,_,_]) H wn rfl rfl (H.hp.bO 0 rfl rfl) rfl ?_;clear H;intro a H;refine ji H wn rfl rfl (hf _ (lD hk2) _ _ _ hgm H.ro (hrep.mono hgm)) rfl ?_;clear H;rintro v17 yE a w ⟨yL,rfl,jr⟩ qR H;obtain ⟨cs,hcs⟩:∃ cs,cs=yL:=⟨_,rfl⟩;obtain ⟨pA,pn,pc,dA,dn,dc,yA,yn,yc,fA,fn,fc,rA,rn,rc,vI,-⟩:=jr.item;rw [vI] at H;refine gG nT fZ [_,_,_,_,_,_,_,_,_,_,_] [_,_,_,_,_,_,_,_,_,_,_] H wn rfl rfl rfl rfl rfl (by intro i q h;match i,h with|0,h=>exact h|n+1,h=>simp at h) rfl rfl ?_;clear H;intro b18 a w Np H;refine lJ (Li:=[_,_]) (Lo:=Lo) (news:=yL) nT fZ rfl rfl H wn rfl rfl hrw (by rw [vI];rfl) (by rw [vI];exact H.hp.bO 0 rfl rfl) jr.one (by omega) (by omega) rfl ?_;clear H;intro v19 Eb a w xM H;refine aD 5 H ?_;clear H;intro a H;refine aC ?_;refine cB ((k+1,v19,xs++yL,Eb,yE)) (by exact (H.dY (Pl:=[_,_]) (dJ:=[]) [] (by decide) rfl).sub ⟨rfl,rfl,rfl,rfl,rfl,bq⟩) ?_ ?_
  ·(try dsimp only);refine ⟨by omega,xM,?_,fun b o h=>qR b o (hgm b o h)⟩;rw [fP (by simpa using hk2)];exact (dV.mono qR).snoc (by simpa using jr) (by rw [vI];rfl)
  first|omega|(dsimp only;omega)
 intro qg
 refine ak 5 ?_;intro a H;refine lr H results140 rfl ?_
 obtain rfl:k=l.length:=by omega
 exact H.hp.dG ⟨_,hrw,by rw [fJ (by simp)] at dV;exact dV⟩
theorem afL (φ:ay→ay) (G:GH) (w0:World) (hG:Hold G w0) (l:List ay) (v fv:aj) (hv:au G (.sl 11 (l.map ay.dat)) v) (hz:l.length≤4294967296) (hf:∀ x∈l,Bb fv w0 G x.dat (φ x).dat) :
  Calls prog 140 #[v,fv] w0 (bC w0 G fun u G'=>au G' (.sl 11 (l.map fun x=>(φ x).dat)) u):=Gp hG (XA φ G w0 (wS hG) l v fv hv hz hf) (by simp)
theorem afH (G:GH) (w0:World) (hG:Hold G w0) (l:List ay) (v fv:aj) (hv:au G (.sl 11 (l.map ay.dat)) v) (hz:l.length≤4294967296) (hf:∀ x∈l,FR fv w0 G x.dat) :
  Calls prog 140 #[v,fv] w0 (bC w0 G fun u G'=>au G' (.sl 11 (l.map ay.dat)) u):=afL (fun x=>x) G w0 hG l v fv hv hz hf
theorem afJ (φ:aV→aV) (G:GH) (w0:World) (hO:fT G [] w0) (l:List aV) (v fv:aj) (hv:au G (.sl 6 (l.map aV.dat)) v) (hz:l.length≤4294967296) (hf:∀ x∈l,Bb fv w0 G x.dat (φ x).dat) :
  Calls prog 110 #[v,fv] w0 (fI w0 G [] fun u G' L'=>∃ xs,bV 74 6 u l.length xs L'∧bU G' 6 (l.map fun x=>(φ x).dat) xs):=by
 obtain ⟨A,c,rfl,hc1,hc2,hg⟩:=hv.slice
 have hml:4294967297≤maxLen:=by decide
 rw [bM] at *;refine jf (N:=22) (T:=[(0,_),(1,_)]) func110 rfl ntmps110 rfl rfl hO ?_;refine ak 13 ?_;intro a H;refine eH (ι:=Nat × aj × List aj × OL × GH) (Tc:=[(1,_),(8,_),(9,_)]) (Lc:=[]) (fun gh=>[(5,gh.2.1),(10,vi gh.1)]) (fun gh=>[]++gh.2.2.2.1) (fun gh=>gh.2.2.2.2) (fun gh=>gh.1≤l.length∧bV 74 6 gh.2.1 gh.1 gh.2.2.1 gh.2.2.2.1∧bU gh.2.2.2.2 6 ((l.map fun x=>(φ x).dat).take gh.1) gh.2.2.1∧(∀ b o,G b=some o→gh.2.2.2.2 b=some o)) (fun gh=>l.length - gh.1) ((0,.slice none 0 0,[],[],G)) sB ?_ ?_
 ·exact ⟨by omega,bV.nil,by simpa using bU.nil,fun _ _ h=>h⟩
 clear H;rintro ⟨k,v,xs,Lo,g⟩ a w hI H;dsimp only at hI H;obtain ⟨hk,hrw,dV,hgm⟩:=hI;dsimp only [lca,bG] at H;refine dO 4 H ?_ ?_ <;> clear H
 ·intro qg
  have hk2:k < l.length:=by omega
  obtain ⟨b,o,cs,rfl,hcl,hrow,hrep⟩:=hg k l[k].dat (by simp [hk2]);obtain ⟨pA,pn,pc,dA,dn,dc,yA,yn,yc,fA,fn,fc,rfl,-⟩:=hrep.row;replace hrow:=fun j u hj=>aH hgm (hrow j u hj);refine ak 5 ?_;intro a H;refine aR jI (cs:=[_,_,_,_,_,_]) H wn rfl rfl (fun j v hj=>H.hp.aI (hrow j v hj)) rfl ?_;clear H;intro a H;refine dz jI H wn rfl ?_;clear H;intro b7 a w vG H;refine aX jI 0 (vs:=[_,_,_,_,_,_]) _ H wn rfl rfl rfl rfl rfl rfl rfl rfl ?_;clear H;intro w H;dsimp only [List.set,setRow] at H;refine aD 4 H ?_;clear H;intro a H;refine aR jI (cs:=[_,_,_,_,_,_]) H wn rfl rfl (H.hp.bO 0 rfl rfl) rfl ?_;clear H;intro a H;refine ji H wn rfl rfl (hf _ (lD hk2) _ _ _ hgm H.ro (hrep.mono hgm)) rfl ?_;clear H;rintro v17 yE a w ⟨yL,rfl,jr⟩ qR H;obtain ⟨cs,hcs⟩:∃ cs,cs=yL:=⟨_,rfl⟩;obtain ⟨pA,pn,pc,dA,dn,dc,yA,yn,yc,fA,fn,fc,vI,-⟩:=jr.row;rw [vI] at H;refine gG FJ jI [_,_,_,_,_,_] [_,_,_,_,_,_] H wn rfl rfl rfl rfl rfl (by intro i q h;match i,h with|0,h=>exact h|n+1,h=>simp at h) rfl rfl ?_;clear H;intro b18 a w Np H;refine lJ (Li:=[_,_]) (Lo:=Lo) (news:=yL) FJ jI rfl rfl H wn rfl rfl hrw (by rw [vI];rfl) (by rw [vI];exact H.hp.bO 0 rfl rfl) jr.one (by omega) (by omega) rfl ?_;clear H;intro v19 Eb a w xM H;refine aD 5 H ?_;clear H;intro a H;refine aC ?_;refine cB ((k+1,v19,xs++yL,Eb,yE)) (by exact (H.dY (Pl:=[_,_]) (dJ:=[]) [] (by decide) rfl).sub ⟨rfl,rfl,rfl,rfl,rfl,bq⟩) ?_ ?_
  ·(try dsimp only);refine ⟨by omega,xM,?_,fun b o h=>qR b o (hgm b o h)⟩;rw [fP (by simpa using hk2)];exact (dV.mono qR).snoc (by simpa using jr) (by rw [vI];rfl)
  first|omega|(dsimp only;omega)
 intro qg
 refine ak 5 ?_;intro a H;refine lr H results110 rfl ?_
 obtain rfl:k=l.length:=by omega
 exact H.hp.dG ⟨_,hrw,by rw [fJ (by simp)] at dV;exact dV⟩
theorem XC (φ:aV→aV) (G:GH) (w0:World) (hG:Hold G w0) (l:List aV) (v fv:aj) (hv:au G (.sl 6 (l.map aV.dat)) v) (hz:l.length≤4294967296) (hf:∀ x∈l,Bb fv w0 G x.dat (φ x).dat) :
  Calls prog 110 #[v,fv] w0 (bC w0 G fun u G'=>au G' (.sl 6 (l.map fun x=>(φ x).dat)) u):=Gp hG (afJ φ G w0 (wS hG) l v fv hv hz hf) (by simp)
theorem afK (G:GH) (w0:World) (hG:Hold G w0) (l:List aV) (v fv:aj) (hv:au G (.sl 6 (l.map aV.dat)) v) (hz:l.length≤4294967296) (hf:∀ x∈l,FR fv w0 G x.dat) :
  Calls prog 110 #[v,fv] w0 (bC w0 G fun u G'=>au G' (.sl 6 (l.map aV.dat)) u):=XC (fun x=>x) G w0 hG l v fv hv hz hf
theorem afI (φ:bB→bB) (G:GH) (w0:World) (hO:fT G [] w0) (l:List bB) (v fv:aj) (hv:au G (.sl 7 (l.map bB.dat)) v) (hz:l.length≤4294967296) (hf:∀ x∈l,Bb fv w0 G x.dat (φ x).dat) :
  Calls prog 172 #[v,fv] w0 (fI w0 G [] fun u G' L'=>∃ xs,bV 76 7 u l.length xs L'∧bU G' 7 (l.map fun x=>(φ x).dat) xs):=by
 obtain ⟨A,c,rfl,hc1,hc2,hg⟩:=hv.slice
 have hml:4294967297≤maxLen:=by decide
 rw [bM] at *;refine jf (N:=22) (T:=[(0,_),(1,_)]) func172 rfl ntmps172 rfl rfl hO ?_;refine ak 13 ?_;intro a H;refine eH (ι:=Nat × aj × List aj × OL × GH) (Tc:=[(1,_),(8,_),(9,_)]) (Lc:=[]) (fun gh=>[(5,gh.2.1),(10,vi gh.1)]) (fun gh=>[]++gh.2.2.2.1) (fun gh=>gh.2.2.2.2) (fun gh=>gh.1≤l.length∧bV 76 7 gh.2.1 gh.1 gh.2.2.1 gh.2.2.2.1∧bU gh.2.2.2.2 7 ((l.map fun x=>(φ x).dat).take gh.1) gh.2.2.1∧(∀ b o,G b=some o→gh.2.2.2.2 b=some o)) (fun gh=>l.length - gh.1) ((0,.slice none 0 0,[],[],G)) sB ?_ ?_
 ·exact ⟨by omega,bV.nil,by simpa using bU.nil,fun _ _ h=>h⟩
 clear H;rintro ⟨k,v,xs,Lo,g⟩ a w hI H;dsimp only at hI H;obtain ⟨hk,hrw,dV,hgm⟩:=hI;dsimp only [lca,bG] at H;refine dO 4 H ?_ ?_ <;> clear H
 ·intro qg
  have hk2:k < l.length:=by omega
  obtain ⟨b,o,cs,rfl,hcl,hrow,hrep⟩:=hg k l[k].dat (by simp [hk2]);obtain ⟨pA,pn,pc,dA,dn,dc,yA,yn,yc,fA,fn,fc,rfl,-⟩:=hrep.cell;replace hrow:=fun j u hj=>aH hgm (hrow j u hj);refine ak 5 ?_;intro a H;refine aR jO (cs:=[_,_,_,_,_,_,_]) H wn rfl rfl (fun j v hj=>H.hp.aI (hrow j v hj)) rfl ?_;clear H;intro a H;refine dz jO H wn rfl ?_;clear H;intro b7 a w vG H;refine aX jO 0 (vs:=[_,_,_,_,_,_,_]) _ H wn rfl rfl rfl rfl rfl rfl rfl rfl ?_;clear H;intro w H;dsimp only [List.set,setRow] at H;refine aD 4 H ?_;clear H;intro a H;refine aR jO (cs:=[_,_,_,_,_,_,_]) H wn rfl rfl (H.hp.bO 0 rfl rfl) rfl ?_;clear H;intro a H;refine ji H wn rfl rfl (hf _ (lD hk2) _ _ _ hgm H.ro (hrep.mono hgm)) rfl ?_;clear H;rintro v17 yE a w ⟨yL,rfl,jr⟩ qR H;obtain ⟨cs,hcs⟩:∃ cs,cs=yL:=⟨_,rfl⟩;obtain ⟨pA,pn,pc,dA,dn,dc,yA,yn,yc,fA,fn,fc,vI,-⟩:=jr.cell;rw [vI] at H;refine gG Cw jO [_,_,_,_,_,_,_] [_,_,_,_,_,_,_] H wn rfl rfl rfl rfl rfl (by intro i q h;match i,h with|0,h=>exact h|n+1,h=>simp at h) rfl rfl ?_;clear H;intro b18 a w Np H;refine lJ (Li:=[_,_]) (Lo:=Lo) (news:=yL) Cw jO rfl rfl H wn rfl rfl hrw (by rw [vI];rfl) (by rw [vI];exact H.hp.bO 0 rfl rfl) jr.one (by omega) (by omega) rfl ?_;clear H;intro v19 Eb a w xM H;refine aD 5 H ?_;clear H;intro a H;refine aC ?_;refine cB ((k+1,v19,xs++yL,Eb,yE)) (by exact (H.dY (Pl:=[_,_]) (dJ:=[]) [] (by decide) rfl).sub ⟨rfl,rfl,rfl,rfl,rfl,bq⟩) ?_ ?_
  ·(try dsimp only);refine ⟨by omega,xM,?_,fun b o h=>qR b o (hgm b o h)⟩;rw [fP (by simpa using hk2)];exact (dV.mono qR).snoc (by simpa using jr) (by rw [vI];rfl)
  first|omega|(dsimp only;omega)
 intro qg
 refine ak 5 ?_;intro a H;refine lr H results172 rfl ?_
 obtain rfl:k=l.length:=by omega
 exact H.hp.dG ⟨_,hrw,by rw [fJ (by simp)] at dV;exact dV⟩
theorem XB (φ:bB→bB) (G:GH) (w0:World) (hG:Hold G w0) (l:List bB) (v fv:aj) (hv:au G (.sl 7 (l.map bB.dat)) v) (hz:l.length≤4294967296) (hf:∀ x∈l,Bb fv w0 G x.dat (φ x).dat) :
  Calls prog 172 #[v,fv] w0 (bC w0 G fun u G'=>au G' (.sl 7 (l.map fun x=>(φ x).dat)) u):=Gp hG (afI φ G w0 (wS hG) l v fv hv hz hf) (by simp)
theorem afG (G:GH) (w0:World) (hG:Hold G w0) (l:List bB) (v fv:aj) (hv:au G (.sl 7 (l.map bB.dat)) v) (hz:l.length≤4294967296) (hf:∀ x∈l,FR fv w0 G x.dat) :
  Calls prog 172 #[v,fv] w0 (bC w0 G fun u G'=>au G' (.sl 7 (l.map bB.dat)) u):=XB (fun x=>x) G w0 hG l v fv hv hz hf
def DY (n:Nat):Prop:=∀ (G:GH) (w0:World),Hold G w0→∀ (l:List ay) (v:aj),au G (.sl 11 (l.map ay.dat)) v→bZ l < n →
 Calls prog 80 #[v] w0 (bC w0 G fun u G'=>au G' (.sl 11 (l.map ay.dat)) u)
theorem aeS {n:Nat} (ih:DY n) (hn:n≤4294967296) (G:GH) (w0:World) (hG:Hold G w0) (x:bB) (cs:List aj) (hv:aU G x.dat cs) (hz:bY x.dat < n+1) :
  Calls prog 203 #[.agg cs.toArray] w0 (bC w0 G fun u G'=>∃ cs',u=.agg cs'.toArray∧aU G' x.dat cs'):=by
 have he:=Cy x;obtain ⟨pA,pn,pc,dA,dn,dc,yA,yn,yc,fA,fn,fc,rfl,hh,hf⟩:=hv.cell;refine eN [(0,_)] func203 rfl ntmps203 rfl rfl hG ?_;refine ak 1 ?_;intro a H;refine dP (cs:=[_,_,_,_,_,_,_]) H wn rfl rfl rfl ?_;clear H;intro b1 a w hb1 H;refine dz jO H wn rfl ?_;clear H;intro b2 a w hb2 H;refine aD 2 H ?_;clear H
 have dM:∀ (aQ:Nat) (v:aj) (G G':GH),(∀ k o,G k=some o→G' k=some o)→(fun (aQ:Nat) (v:aj) (G:GH)=>match aQ with|0=>v=(aG b1 0)|1=>v=vi x.id|2=>v=(aG b1 1)|3=>v=.agg #[.slice pA pn pc,vi x.head.marks.ins,vi x.head.marks.move,.slice dA dn dc,.slice yA yn yc]|4=>∃ p d l,v=.agg #[p,vi x.head.marks.ins,vi x.head.marks.move,d,l]∧fD G x.head p d l|5=>v=(aG b1 6)|6=>v=.slice fA fn fc|7=>au G (.sl 11 (x.flow.map ay.dat)) v|_=>True) aQ v G→(fun (aQ:Nat) (v:aj) (G:GH)=>match aQ with|0=>v=(aG b1 0)|1=>v=vi x.id|2=>v=(aG b1 1)|3=>v=.agg #[.slice pA pn pc,vi x.head.marks.ins,vi x.head.marks.move,.slice dA dn dc,.slice yA yn yc]|4=>∃ p d l,v=.agg #[p,vi x.head.marks.ins,vi x.head.marks.move,d,l]∧fD G x.head p d l|5=>v=(aG b1 6)|6=>v=.slice fA fn fc|7=>au G (.sl 11 (x.flow.map ay.dat)) v|_=>True) aQ v G':=by
  intro aQ v G G' hm h
  match aQ,h with
  | 0,h=>exact h
  | 1,h=>exact h
  | 2,h=>exact h
  | 3,h=>exact h
  | 4,h=>exact let ⟨p,d,l,h1,h2⟩:=h;⟨p,d,l,h1,h2.mono hm⟩
  | 5,h=>exact h
  | 6,h=>exact h
  | 7,h=>exact au.mono hm h
  | 8,h=>exact trivial
  | 9,h=>exact trivial
  | _+10,h=>exact trivial
 intro a H;refine yJ (hmx) [[],[0],[],[2],[2,3],[],[5],(ra 2 5),(ra 0 8),(ra 0 9)] [8,9] (by kernel_rfl) (by kernel_rfl) (fun (aQ:Nat) (v:aj) (G:GH)=>match aQ with|0=>v=(aG b1 0)|1=>v=vi x.id|2=>v=(aG b1 1)|3=>v=.agg #[.slice pA pn pc,vi x.head.marks.ins,vi x.head.marks.move,.slice dA dn dc,.slice yA yn yc]|4=>∃ p d l,v=.agg #[p,vi x.head.marks.ins,vi x.head.marks.move,d,l]∧fD G x.head p d l|5=>v=(aG b1 6)|6=>v=.slice fA fn fc|7=>au G (.sl 11 (x.flow.map ay.dat)) v|_=>True) dM H ?_ ?_
 ·clear H;refine aF ?_ ?_ ?_ ?_ (aF ?_ ?_ ?_ ?_ (bH (bQ rfl) (bH (bQ rfl) cO)))
  ·refine dU [] rfl trivial (by kernel_rfl) dM rfl rfl ?_;intro aS a w G1 hG HT H fin;exact kH H (Rf Yn rfl fun _ H=>fin H iJ rfl)
  ·refine dU [(0,3,_)] rfl ⟨fun _ _ h=>h,bq⟩ (by kernel_rfl) dM rfl rfl ?_;intro aS a w G1 hG HT H fin;exact kH H (Ro bR 1 rfl fun _ H=>fin H iJ rfl)
  ·refine dU [] rfl trivial (by kernel_rfl) dM rfl rfl ?_;intro aS a w G1 hG HT H fin;exact kH H (Rf Yo rfl fun _ H=>fin H iJ rfl)
  ·refine dU [(2,5,_)] rfl ⟨fun _ _ h=>h,bq⟩ (by kernel_rfl) dM rfl rfl ?_;intro aS a w G1 hG HT H fin;refine aR dw (cs:=[_,_,_,_,_]) H wn rfl rfl (H.hp.bO 1 rfl rfl) rfl ?_;clear H;intro a H;exact fin H iJ rfl
  ·refine dU [(3,6,_)] rfl ⟨fun _ _ h=>h,bq⟩ (by kernel_rfl) dM rfl rfl ?_;intro aS a w G1 hG HT H fin;refine s_call Ep H wn rfl (Em _ _ H.ro x.head _ _ _ _ _ _ _ _ _ (hh.mono hG) (by omega)) rfl ?_;clear H;rintro v7 G7 a w BO Hf H;exact fin H Hf (BO)
  ·refine dU [] rfl trivial (by kernel_rfl) dM rfl rfl ?_;intro aS a w G1 hG HT H fin;exact kH H (Rf Yp rfl fun _ H=>fin H iJ rfl)
  ·refine dU [(5,8,_)] rfl ⟨fun _ _ h=>h,bq⟩ (by kernel_rfl) dM rfl rfl ?_;intro aS a w G1 hG HT H fin;exact kH H (Ro pG 1 rfl fun _ H=>fin H iJ rfl)
  refine dU [(6,9,_)] rfl ⟨fun _ _ h=>h,bq⟩ (by kernel_rfl) dM rfl rfl ?_;intro aS a w G1 hG HT H fin;refine s_call Q0 H wn rfl (ih _ _ H.ro x.flow _ (hf.mono hG) (by omega)) rfl ?_;clear H;rintro v10 zO a w rP pW H;exact fin H pW (rP)
 clear H;intro a w G iN H hv;have H:=H.aN (hv 1 4 rfl rfl) rfl;obtain ⟨u7,Tx,BO⟩:=hv 4 7 (by decide) rfl;(try dsimp only at BO);obtain ⟨p7,d7,l7,rfl,yZ⟩:=BO;obtain ⟨a1,a2,a3,rfl⟩:=yZ.props.form;obtain ⟨a4,a5,a6,rfl⟩:=yZ.bL.form;obtain ⟨a7,a8,a9,rfl⟩:=yZ.layers.form;have H:=H.ig Tx;obtain ⟨u10,Kl,rP⟩:=hv 7 10 (by decide) rfl;(try dsimp only at rP);obtain ⟨VA,n10,c10,rfl⟩:=rP.form;have H:=H.ig Kl;clear hv;refine jh OZ [_,_,_,_,_,_,_] H wn rfl rfl rfl rfl ?_;clear H;intro a H;refine aX jO 0 (vs:=[_,_,_,_,_,_,_]) _ H wn rfl rfl rfl rfl rfl rfl rfl rfl ?_;clear H;intro w H;dsimp only [List.set,setRow] at H;refine aC ⟨rfl,?_⟩;refine dQ ?_;refine cu ?_;refine (leave1 H results203 (.cons (kT jO (cs:=[_,_,_,_,_,_,_]) H rfl rfl (H.hp.bO 0 rfl rfl)) .nil) ?_).1;exact H.rt ⟨_,rfl,aU.KD yZ rP⟩
theorem aeR {n:Nat} (ih:DY n) (hn:n≤4294967296) {G:GH} {w0:World} (x:bB) (hz:bY x.dat < n+1):FR (.func (.func 203) #[] #[]) w0 G x.dat:=by
 intro G1 w1 cs hm1 hG1 hr;have h:=aeS ih hn _ _ hG1 x cs hr hz;have h2:=iM (P:=prog) (caps:=[]) (args:=[.agg cs.toArray]) ahh h;exact h2
theorem afg {n:Nat} (ih:DY n) (hn:n≤4294967296) (G:GH) (w0:World) (hG:Hold G w0) (x:aV) (cs:List aj) (hv:aU G x.dat cs) (hz:bY x.dat < n+1) :
  Calls prog 142 #[.agg cs.toArray] w0 (bC w0 G fun u G'=>∃ cs',u=.agg cs'.toArray∧aU G' x.dat cs'):=by
 have he:=Cz x;have hl:=IK x.cells;obtain ⟨pA,pn,pc,dA,dn,dc,yA,yn,yc,fA,fn,fc,rfl,hh,hf⟩:=hv.row;refine eN [(0,_)] func142 rfl ntmps142 rfl rfl hG ?_;refine ak 1 ?_;intro a H;refine dP (cs:=[_,_,_,_,_,_]) H wn rfl rfl rfl ?_;clear H;intro b1 a w hb1 H;refine dz jI H wn rfl ?_;clear H;intro b2 a w hb2 H;refine aD 2 H ?_;clear H
 have dM:∀ (aQ:Nat) (v:aj) (G G':GH),(∀ k o,G k=some o→G' k=some o)→(fun (aQ:Nat) (v:aj) (G:GH)=>match aQ with|0=>v=(aG b1 0)|1=>v=.agg #[.slice pA pn pc,vi x.head.marks.ins,vi x.head.marks.move,.slice dA dn dc,.slice yA yn yc]|2=>∃ p d l,v=.agg #[p,vi x.head.marks.ins,vi x.head.marks.move,d,l]∧fD G x.head p d l|3=>v=(aG b1 5)|4=>v=.slice fA fn fc|5=>au G (.sl 7 (x.cells.map bB.dat)) v|_=>True) aQ v G→(fun (aQ:Nat) (v:aj) (G:GH)=>match aQ with|0=>v=(aG b1 0)|1=>v=.agg #[.slice pA pn pc,vi x.head.marks.ins,vi x.head.marks.move,.slice dA dn dc,.slice yA yn yc]|2=>∃ p d l,v=.agg #[p,vi x.head.marks.ins,vi x.head.marks.move,d,l]∧fD G x.head p d l|3=>v=(aG b1 5)|4=>v=.slice fA fn fc|5=>au G (.sl 7 (x.cells.map bB.dat)) v|_=>True) aQ v G':=by
  intro aQ v G G' hm h
  match aQ,h with
  | 0,h=>exact h
  | 1,h=>exact h
  | 2,h=>exact let ⟨p,d,l,h1,h2⟩:=h;⟨p,d,l,h1,h2.mono hm⟩
  | 3,h=>exact h
  | 4,h=>exact h
  | 5,h=>exact au.mono hm h
  | 6,h=>exact trivial
  | 7,h=>exact trivial
  | _+8,h=>exact trivial
 intro a H;refine yJ (hmx) [[],[0],[0,1],[],[3],(ra 0 5),(ra 0 6),(ra 0 7)] [6,7] (by kernel_rfl) (by kernel_rfl) (fun (aQ:Nat) (v:aj) (G:GH)=>match aQ with|0=>v=(aG b1 0)|1=>v=.agg #[.slice pA pn pc,vi x.head.marks.ins,vi x.head.marks.move,.slice dA dn dc,.slice yA yn yc]|2=>∃ p d l,v=.agg #[p,vi x.head.marks.ins,vi x.head.marks.move,d,l]∧fD G x.head p d l|3=>v=(aG b1 5)|4=>v=.slice fA fn fc|5=>au G (.sl 7 (x.cells.map bB.dat)) v|_=>True) dM H ?_ ?_
 ·clear H;refine aF ?_ ?_ ?_ ?_ (aF ?_ ?_ (bQ rfl) (bQ rfl) cO)
  ·refine dU [] rfl trivial (by kernel_rfl) dM rfl rfl ?_;intro aS a w G1 hG HT H fin;exact kH H (Rf Rw rfl fun _ H=>fin H iJ rfl)
  ·refine dU [(0,3,_)] rfl ⟨fun _ _ h=>h,bq⟩ (by kernel_rfl) dM rfl rfl ?_;intro aS a w G1 hG HT H fin;refine aR dw (cs:=[_,_,_,_,_]) H wn rfl rfl (H.hp.bO 1 rfl rfl) rfl ?_;clear H;intro a H;exact fin H iJ rfl
  ·refine dU [(1,4,_)] rfl ⟨fun _ _ h=>h,bq⟩ (by kernel_rfl) dM rfl rfl ?_;intro aS a w G1 hG HT H fin;refine s_call Ep H wn rfl (Em _ _ H.ro x.head _ _ _ _ _ _ _ _ _ (hh.mono hG) (by omega)) rfl ?_;clear H;rintro v5 G5 a w pX kS H;exact fin H kS (pX)
  ·refine dU [] rfl trivial (by kernel_rfl) dM rfl rfl ?_;intro aS a w G1 hG HT H fin;exact kH H (Rf Ju rfl fun _ H=>fin H iJ rfl)
  ·refine dU [(3,6,_)] rfl ⟨fun _ _ h=>h,bq⟩ (by kernel_rfl) dM rfl rfl ?_;intro aS a w G1 hG HT H fin;exact kH H (Ro IB 1 rfl fun _ H=>fin H iJ rfl)
  refine dU [(4,7,_)] rfl ⟨fun _ _ h=>h,bq⟩ (by kernel_rfl) dM rfl rfl ?_;intro aS a w G1 hG HT H fin;refine s_call XL H wn rfl (afG _ _ H.ro x.cells _ _ (hf.mono hG) (by omega) (fun y hy=>aeR ih hn y (by have:=acV hy;omega))) rfl ?_;clear H;rintro v8 G8 a w lV nL H;exact fin H nL (lV)
 clear H;intro a w G iN H hv;obtain ⟨u5,EU,pX⟩:=hv 2 5 (by decide) rfl;(try dsimp only at pX);obtain ⟨p5,d5,l5,rfl,qQ⟩:=pX;obtain ⟨a1,a2,a3,rfl⟩:=qQ.props.form;obtain ⟨a4,a5,a6,rfl⟩:=qQ.bL.form;obtain ⟨a7,a8,a9,rfl⟩:=qQ.layers.form;have H:=H.ig EU;obtain ⟨u8,zy,lV⟩:=hv 5 8 (by decide) rfl;(try dsimp only at lV);obtain ⟨A8,n8,c8,rfl⟩:=lV.form;have H:=H.ig zy;clear hv;refine jh OY [_,_,_,_,_,_] H wn rfl rfl rfl rfl ?_;clear H;intro a H;refine aX jI 0 (vs:=[_,_,_,_,_,_]) _ H wn rfl rfl rfl rfl rfl rfl rfl rfl ?_;clear H;intro w H;dsimp only [List.set,setRow] at H;refine aC ⟨rfl,?_⟩;refine dQ ?_;refine cu ?_;refine (leave1 H results142 (.cons (kT jI (cs:=[_,_,_,_,_,_]) H rfl rfl (H.hp.bO 0 rfl rfl)) .nil) ?_).1;exact H.rt ⟨_,rfl,aU.KE qQ lV⟩
theorem aff {n:Nat} (ih:DY n) (hn:n≤4294967296) {G:GH} {w0:World} (x:aV) (hz:bY x.dat < n+1):FR (.func (.func 142) #[] #[]) w0 G x.dat:=by
 intro G1 w1 cs hm1 hG1 hr;have h:=afg ih hn _ _ hG1 x cs hr hz;have h2:=iM (P:=prog) (caps:=[]) (args:=[.agg cs.toArray]) agt h;exact h2
theorem aeQ {n:Nat} (ih:DY n) (hn:n≤4294967296) (G:GH) (w0:World) (hG:Hold G w0) (x:ay) (cs:List aj) (hv:aU G x.dat cs) (hz:bY x.dat < n+1) :
  Calls prog 141 #[.agg cs.toArray] w0 (bC w0 G fun u G'=>∃ cs',u=.agg cs'.toArray∧aU G' x.dat cs'):=by
 have he:=yB x;have hl:=IQ x.rows;obtain ⟨pA,pn,pc,dA,dn,dc,yA,yn,yc,fA,fn,fc,rA,rn,rc,rfl,hh,hf,hr⟩:=hv.item;refine eN [(0,_)] func141 rfl ntmps141 rfl rfl hG ?_;refine ak 1 ?_;intro a H;refine dP (cs:=[_,_,_,_,_,_,_,_,_,_,_]) H wn rfl rfl rfl ?_;clear H;intro b1 a w hb1 H;refine dz fZ H wn rfl ?_;clear H;intro b2 a w hb2 H;refine aD 2 H ?_;clear H
 have dM:∀ (aQ:Nat) (v:aj) (G G':GH),(∀ k o,G k=some o→G' k=some o)→(fun (aQ:Nat) (v:aj) (G:GH)=>match aQ with|0=>v=(aG b1 4)|1=>v=.agg #[.slice pA pn pc,vi x.head.marks.ins,vi x.head.marks.move,.slice dA dn dc,.slice yA yn yc]|2=>∃ p d l,v=.agg #[p,vi x.head.marks.ins,vi x.head.marks.move,d,l]∧fD G x.head p d l|3=>v=(aG b1 9)|4=>v=.slice fA fn fc|5=>au G (.sl 11 (x.flow.map ay.dat)) v|6=>v=(aG b1 10)|7=>v=.slice rA rn rc|8=>au G (.sl 6 (x.rows.map aV.dat)) v|9=>v=(aG b1 4)|_=>True) aQ v G→(fun (aQ:Nat) (v:aj) (G:GH)=>match aQ with|0=>v=(aG b1 4)|1=>v=.agg #[.slice pA pn pc,vi x.head.marks.ins,vi x.head.marks.move,.slice dA dn dc,.slice yA yn yc]|2=>∃ p d l,v=.agg #[p,vi x.head.marks.ins,vi x.head.marks.move,d,l]∧fD G x.head p d l|3=>v=(aG b1 9)|4=>v=.slice fA fn fc|5=>au G (.sl 11 (x.flow.map ay.dat)) v|6=>v=(aG b1 10)|7=>v=.slice rA rn rc|8=>au G (.sl 6 (x.rows.map aV.dat)) v|9=>v=(aG b1 4)|_=>True) aQ v G':=by
  intro aQ v G G' hm h
  match aQ,h with
  | 0,h=>exact h
  | 1,h=>exact h
  | 2,h=>exact let ⟨p,d,l,h1,h2⟩:=h;⟨p,d,l,h1,h2.mono hm⟩
  | 3,h=>exact h
  | 4,h=>exact h
  | 5,h=>exact au.mono hm h
  | 6,h=>exact h
  | 7,h=>exact h
  | 8,h=>exact au.mono hm h
  | 9,h=>exact h
  | 10,h=>exact trivial
  | 11,h=>exact trivial
  | 12,h=>exact trivial
  | 13,h=>exact trivial
  | 14,h=>exact trivial
  | _+15,h=>exact trivial
 intro a H;refine yJ (hmx) [[],[0],[0,1],[],[3],(ra 0 5),[],[6],(ra 0 8),[0,1,2,3,4,6,7],(ra 0 10),(ra 0 11),(ra 0 12),(ra 0 13),(ra 0 14)] (ra 10 5) (by kernel_rfl) (by kernel_rfl) (fun (aQ:Nat) (v:aj) (G:GH)=>match aQ with|0=>v=(aG b1 4)|1=>v=.agg #[.slice pA pn pc,vi x.head.marks.ins,vi x.head.marks.move,.slice dA dn dc,.slice yA yn yc]|2=>∃ p d l,v=.agg #[p,vi x.head.marks.ins,vi x.head.marks.move,d,l]∧fD G x.head p d l|3=>v=(aG b1 9)|4=>v=.slice fA fn fc|5=>au G (.sl 11 (x.flow.map ay.dat)) v|6=>v=(aG b1 10)|7=>v=.slice rA rn rc|8=>au G (.sl 6 (x.rows.map aV.dat)) v|9=>v=(aG b1 4)|_=>True) dM H ?_ ?_
 ·clear H;refine aF ?_ ?_ ?_ ?_ (aF ?_ ?_ ?_ ?_ (aF ?_ ?_ (bQ rfl) (bQ rfl) (bH (bQ rfl) (bH (bQ rfl) (bH (bQ rfl) cO)))))
  ·refine dU [] rfl trivial (by kernel_rfl) dM rfl rfl ?_;intro aS a w G1 hG HT H fin;exact kH H (Rf GV rfl fun _ H=>fin H iJ rfl)
  ·refine dU [(0,3,_)] rfl ⟨fun _ _ h=>h,bq⟩ (by kernel_rfl) dM rfl rfl ?_;intro aS a w G1 hG HT H fin;refine aR dw (cs:=[_,_,_,_,_]) H wn rfl rfl (H.hp.bO 1 rfl rfl) rfl ?_;clear H;intro a H;exact fin H iJ rfl
  ·refine dU [(1,4,_)] rfl ⟨fun _ _ h=>h,bq⟩ (by kernel_rfl) dM rfl rfl ?_;intro aS a w G1 hG HT H fin;refine s_call Ep H wn rfl (Em _ _ H.ro x.head _ _ _ _ _ _ _ _ _ (hh.mono hG) (by omega)) rfl ?_;clear H;rintro v5 G5 a w pX kS H;exact fin H kS (pX)
  ·refine dU [] rfl trivial (by kernel_rfl) dM rfl rfl ?_;intro aS a w G1 hG HT H fin;exact kH H (Rf Yl rfl fun _ H=>fin H iJ rfl)
  ·refine dU [(3,6,_)] rfl ⟨fun _ _ h=>h,bq⟩ (by kernel_rfl) dM rfl rfl ?_;intro aS a w G1 hG HT H fin;exact kH H (Ro pG 1 rfl fun _ H=>fin H iJ rfl)
  ·refine dU [(4,7,_)] rfl ⟨fun _ _ h=>h,bq⟩ (by kernel_rfl) dM rfl rfl ?_;intro aS a w G1 hG HT H fin;refine s_call Q0 H wn rfl (ih _ _ H.ro x.flow _ (hf.mono hG) (by omega)) rfl ?_;clear H;rintro v8 G8 a w lV nL H;exact fin H nL (lV)
  ·refine dU [] rfl trivial (by kernel_rfl) dM rfl rfl ?_;intro aS a w G1 hG HT H fin;exact kH H (Rf Ym rfl fun _ H=>fin H iJ rfl)
  ·refine dU [(6,9,_)] rfl ⟨fun _ _ h=>h,bq⟩ (by kernel_rfl) dM rfl rfl ?_;intro aS a w G1 hG HT H fin;exact kH H (Ro KW 1 rfl fun _ H=>fin H iJ rfl)
  ·refine dU [(7,10,_)] rfl ⟨fun _ _ h=>h,bq⟩ (by kernel_rfl) dM rfl rfl ?_;intro aS a w G1 hG HT H fin;refine s_call XF H wn rfl (afK _ _ H.ro x.rows _ _ (hr.mono hG) (by omega) (fun y hy=>aff ih hn y (by have:=acZ hy;omega))) rfl ?_;clear H;rintro v11 qX a w vO kZ H;exact fin H kZ (vO)
  refine dU [] rfl trivial (by kernel_rfl) dM rfl rfl ?_;intro aS a w G1 hG HT H fin;exact kH H (Rf GV rfl fun _ H=>fin H iJ rfl)
 clear H;intro a w G iN H hv;obtain ⟨u5,EU,pX⟩:=hv 2 5 (by decide) rfl;(try dsimp only at pX);obtain ⟨p5,d5,l5,rfl,qQ⟩:=pX;obtain ⟨a1,a2,a3,rfl⟩:=qQ.props.form;obtain ⟨a4,a5,a6,rfl⟩:=qQ.bL.form;obtain ⟨a7,a8,a9,rfl⟩:=qQ.layers.form;have H:=H.ig EU;obtain ⟨u8,zy,lV⟩:=hv 5 8 (by decide) rfl;(try dsimp only at lV);obtain ⟨A8,n8,c8,rfl⟩:=lV.form;have H:=H.ig zy;obtain ⟨Vh,ET,vO⟩:=hv 8 11 (by decide) rfl;(try dsimp only at vO);obtain ⟨A11,n11,c11,rfl⟩:=vO.form;have H:=H.ig ET;have H:=H.aN (hv 9 12 rfl rfl) rfl;clear hv;refine aX dw 1 (vs:=[_,_,_,_,_]) _ H wn rfl rfl rfl rfl rfl rfl rfl rfl ?_;clear H;intro w H;dsimp only [List.set,setRow] at H;refine kH H (Rf Yl rfl ?_);clear H;intro a H;refine aX pG 1 (vs:=[_]) _ H wn rfl rfl rfl rfl rfl rfl rfl rfl ?_;clear H;intro w H;dsimp only [List.set,setRow] at H;refine kH H (Rf Ym rfl ?_);clear H;intro a H;refine aX KW 1 (vs:=[_]) _ H wn rfl rfl rfl rfl rfl rfl rfl rfl ?_;clear H;intro w H;dsimp only [List.set,setRow] at H;refine aC ⟨rfl,?_⟩;refine dQ ?_;refine yP ?_;refine aR fZ (cs:=[_,_,_,_,_,_,_,_,_,_,_]) H wn rfl rfl (H.hp.bO 1 rfl rfl) rfl ?_;clear H;intro a H;refine aX fZ 0 (vs:=[_,_,_,_,_,_,_,_,_,_,_]) _ H wn rfl rfl rfl rfl rfl rfl rfl rfl ?_;clear H;intro w H;dsimp only [List.set,setRow] at H;refine aC ?_;refine dQ ?_;refine cu ?_;refine (leave1 H results141 (.cons (kT fZ (cs:=[_,_,_,_,_,_,_,_,_,_,_]) H rfl rfl (H.hp.bO 0 rfl rfl)) .nil) ?_).1;exact H.rt ⟨_,rfl,aU.mkItem qQ lV vO⟩
theorem Xa {n:Nat} (ih:DY n) (hn:n≤4294967296) {G:GH} {w0:World} (x:ay) (hz:bY x.dat < n+1):FR (.func (.func 141) #[] #[]) w0 G x.dat:=by
 intro G1 w1 cs hm1 hG1 hr;have h:=aeQ ih hn _ _ hG1 x cs hr hz;have h2:=iM (P:=prog) (caps:=[]) (args:=[.agg cs.toArray]) ags h;exact h2
theorem Qs:∀ n:Nat,n≤4294967297→DY n
 | 0,_=>fun _ _ _ _ _ _ h=>absurd h (by omega)
 | n+1,hn=>by
  intro G w0 hG l v hv hz;have ih:=Qs n (by omega);have hl:=FM l;refine eN [(0,_)] func80 rfl ntmps80 rfl rfl hG ?_;refine ak 5 ?_;intro a H;refine s_call XI H wn rfl (afH _ _ H.ro l _ _ hv (by omega) (fun y hy=>Xa ih (by omega) y (by have:=Vv hy;omega))) rfl ?_;clear H;rintro v4 G4 a w Te BD H;refine fu 2 H ?_;exact Te
end
section
open Go.RowKit
section
variable {P:Program} {N:Nat} {D:List Deferred} {w0 w w':World} {F:Nat→Prop} {G0 G G':GH} {L L' Li Lo:OL} {T:List (Nat × aj)} {a a':Act} {Q:Exit→Act→World→Prop}
theorem St.cast (h:St N D w0 F G0 G L T a w) (e:L=L'):St N D w0 F G0 G L' T a w:=e ▸ h
theorem St.assoc {A B C:OL} (h:St N D w0 F G0 G ((A++B)++C) T a w):St N D w0 F G0 G (A++(B++C)) T a w:=h.cast (iZ _ _ _)
theorem St.un {A B C:OL} (h:St N D w0 F G0 G (A++(B++C)) T a w):St N D w0 F G0 G ((A++B)++C) T a w:=h.cast (iZ _ _ _).symm
theorem St.Ij {A B:OL} (h:St N D w0 F G0 G (A++B) T a w):St N D w0 F G0 G (A++(B++[])) T a w:=h.cast (by rw [gu])
theorem aee {ι κ:Type} {Lc:OL} {yO:Operand} {ps:List Nat} {assign body:Code} {gf:FuncId} {caps:List aj} {xs:List AP} {Gi:GH}
  (Lv:Nat→ι→OL) (Lt:Nat→ι→OL) (inv:Nat→ι→GH→Prop) (cx:κ→Code) (Lx Ec:κ→OL) (zC:κ→GH→Prop) (i0:ι)
  (H:St N D w0 F G0 G (Lc++Lv 0 i0++Lt 0 i0) T a w) (hg:ev T yO=some (.func (.func gf) #[] caps.toArray)) (en:∀ args w,(callFunc gf args).run P w=.ok (.enter gf args) w) (hit:Iter P Gi (.func (.func gf) #[] caps.toArray) xs) (hGi:∀ b o,Gi b=some o→G b=some o)
  (hps:ps.all (Nat.blt · N)=true) (hlen:∀ k args g,xg xs k args g→args.length=ps.length) (hinv:∀ k i (G G':GH),(∀ b o,G b=some o→G' b=some o)→inv k i G→inv k i G') (SS:∀ x (G G':GH),(∀ b o,G b=some o→G' b=some o)→zC x G→zC x G') (h0:inv 0 i0 G)
  (round:∀ (l:Nat) (Fv Bp:Obj) (bk:OL) (k:Nat) (args:List aj) (i:ι) (G1:GH) (w1:World) (F1:Nat→Prop) (B1:Code→Exit→Act→World→Prop) (a1:Act),xg xs k args G1→(∀ b o,G b=some o→G1 b=some o)→inv k i G1 →
   (∀ T' G2 L2 a2 w2 c,St N [] w1 F1 G1 G2 ((l,Fv) :: L2) T' a2 w2→(∀ w3,St N [] w1 F1 G1 G2 ((l,Bp) :: L2) T' a2 w3→WP (some l) P c (B1 c) a2 w3)→Exit.then (fun a2 w2=>∃ w3,(Instr.beginRound l).run P w2=.ok () w3∧c.wpIn (FW (some l)) 0 P (B1 c) a2 w3) (fun _ _ _=>False) .normal a2 w2) →
   (∀ i' T' G2 a2 w2 c,St N [] w1 F1 G1 G2 ((l,Bp) :: (Lc++Lv (k+1) i'++(bk++Lt (k+1) i'))) T' a2 w2→inv (k+1) i' G2→B1 c .normal a2 w2) →
   (∀ x T' G2 a2 w2 c,St N [] w1 F1 G1 G2 ((l,Bp) :: (Lc++Lx x++(bk++Ec x))) T' a2 w2→zC x G2→(cx x=.ret→B1 c .ret a2 w2)∧∀ n,cx x=.exit n→B1 c (.exit n) a2 w2) →
   St N [] w1 F1 G1 G1 ((l,Fv) :: (Lc++Lv k i++(bk++Lt k i))) (zZ ps args T) a1 w1 →
   WP (some l) P assign (Exit.then (fun a2 w2=>∃ w3,(Instr.beginRound l).run P w2=.ok () w3∧body.wpIn (FW (some l)) 0 P (B1 body) a2 w3) (fun _ _ _=>False)) a1 w1)
  (hdone:∀ Dk i G1 a1 w1,(∀ b o,G b=some o→G1 b=some o)→inv xs.length i G1→St N ({ target:=.collected Dk,args:=#[] } :: D) w0 F G0 G1 ((Dk,.deferred (some [])) :: (Lc++Lv xs.length i++Lt xs.length i)) T a1 w1→Q .normal a1 w1)
  (hstop:∀ Dk x G1 a1 w1,(∀ b o,G b=some o→G1 b=some o)→zC x G1→St N ({ target:=.collected Dk,args:=#[] } :: D) w0 F G0 G1 ((Dk,.deferred (some [])) :: (Lc++Lx x++Ec x)) T a1 w1→WP none P (cx x) Q a1 w1) :
  WP none P (.rangeFunc yO ps.toArray assign body) Q a w:=by
 refine aec (J:=fun k g L=>∃ i,L=Lc++Lv k i++Lt k i∧inv k i g) (Jx:=fun c g L=>∃ x,c=cx x∧L=Lc++Lx x++Ec x∧zC x g) H hg en hit hGi hps hlen (fun k G G' L hm ⟨i,e,h⟩=>⟨i,e,hinv k i G G' hm h⟩) (fun c G G' L hm ⟨x,e1,e2,h⟩=>⟨x,e1,e2,SS x G G' hm h⟩) ⟨i0,rfl,h0⟩ ?_ ?_ ?_
 ·rintro l q bk k args G1 L1 w1 a1 hk hm ⟨i,rfl,hi⟩ H1
  have pm:∀ A B:OL,(bk++(A++B)).Perm (A++(bk++B)):=fun A B=>by
   rw [← iZ,← iZ]
   exact List.Perm.append_right B ug
  refine round l (q.at .ready none) (q.at .busy none) bk k args i G1 w1 _ (fun _=>roundPost P l _) a1 hk hm hi ?_ ?_ ?_ (H1.perm (List.Perm.cons _ (pm _ _)))
  ·intro T' G2 L2 a2 w2 c H2 h
   exact WK H2 h
  ·intro i' T' G2 a2 w2 c H2 h2
   exact Ip none (H2.perm (List.Perm.cons _ (pm _ _).symm)) ⟨_,rfl,i',rfl,h2⟩
  ·intro x T' G2 a2 w2 c H2 h2
   have H3:=H2.perm (List.Perm.cons _ (pm _ _).symm)
   refine ⟨fun e=>?_,fun n e=>?_⟩
   ·exact Ip (some .ret) H3 ⟨_,_,rfl,x,e.symm,rfl,h2⟩
   ·exact Ip (some (.exit n)) H3 ⟨_,_,rfl,x,e.symm,rfl,h2⟩
 ·rintro Dk G1 L1 a1 w1 hm ⟨i,rfl,hi⟩ H1
  exact hdone Dk i G1 a1 w1 hm hi H1
 ·rintro Dk c G1 L1 a1 w1 hm ⟨x,rfl,rfl,hx⟩ H1
  exact hstop Dk x G1 a1 w1 hm hx H1
def Uk (ds:List Nat):List Deferred:=ds.map fun b=>{ target:=.collected b,args:=#[] }
def E9 (ds:List Nat):OL:=ds.map fun b=>(b,.deferred (some []))
theorem aeb {r:Option Nat} {ι:Type} {c:Code} {Tc:List (Nat × aj)} {Lc:List (Nat × Obj)} (Dv:ι→List Deferred) (Tv:ι→List (Nat × aj)) (Lv:ι→List (Nat × Obj)) (Gv:ι→GH) (Pr:ι→Prop) (m:ι→Nat) (i0:ι)
  (H:St N (Dv i0) w0 F G0 (Gv i0) (Lc++Lv i0) (Tv i0++Tc) a w) (hP:Pr i0)
  (round:∀ i a w,Pr i→St N (Dv i) w0 F G0 (Gv i) (Lc++Lv i) (Tv i++Tc) a w →
   WP r P c (Exit.then (fun a' w'=>∃ i',(St N (Dv i') w0 F G0 (Gv i') (Lc++Lv i') (Tv i'++Tc) a' w'∧Pr i')∧m i' < m i) Q) a w):WP r P (.loop c) Q a w :=
 WR (fun i a w=>St N (Dv i) w0 F G0 (Gv i) (Lc++Lv i) (Tv i++Tc) a w∧Pr i) m i0 ⟨H,hP⟩ fun i a w hI=>round i a w hI.2 hI.1
theorem anz {ι:Type} {Dv:ι→List Deferred} {Tc:List (Nat × aj)} {Lc:List (Nat × Obj)} {Tv:ι→List (Nat × aj)} {Lv:ι→List (Nat × Obj)} {Gv:ι→GH} {Pr:ι→Prop} {m:ι→Nat} {i:ι} (i':ι)
  (H:St N (Dv i') w0 F G0 (Gv i') (Lc++Lv i') (Tv i'++Tc) a w) (hP:Pr i') (hm:m i' < m i) :
  ∃ i',(St N (Dv i') w0 F G0 (Gv i') (Lc++Lv i') (Tv i'++Tc) a w∧Pr i')∧m i' < m i:=⟨i',⟨H,hP⟩,hm⟩
theorem T9 {fn:Func} {R:Ending→World→Prop} {Lh Lt:OL}:∀ (ds:List Nat) {a:Act} {w:World},St N (Uk ds) w0 F G0 G (Lh++(E9 ds++Lt)) T a w →
  (∀ a' w',St N [] w0 F G0 G (Lh++Lt) T a' w'→bodyPostM (FW none) 0 P fn R .ret a' w')→bodyPostM (FW none) 0 P fn R .ret a w∧bodyPostM (FW none) 0 P fn R .normal a w
 | [],a,w,H,k=>⟨k a w H,k a w H⟩
 | b :: ds,a,w,H,k=>by
  refine TY (b:=b) (D:=Uk ds) H Lh.length (by rw [rz (bP _),Nat.sub_self];rfl) fun a' w' H'=>?_
  refine (T9 ds (Lh:=Lh) (Lt:=Lt) (H'.cast ?_) k).1
  rw [List.eraseIdx_append_of_length_le (bP _),Nat.sub_self];rfl
end
end
section
open Go.RowKit
def n1 (x:ay):Nat:=if Lb x=0 then jl x else 0
theorem au.len {G:GH} {sz:Nat} {rows:List (List Dat)} {A:Option Addr} {n c:Nat} (h:au G (.sl sz rows) (.slice A n c)):n=rows.length:=h.cells.1
theorem au.at_ {G:GH} {sz:Nat} {rows:List (List Dat)} {A:Option Addr} {n c:Nat} (h:au G (.sl sz rows) (.slice A n c)):∀ k r,rows[k]?=some r→∃ b o cs,A=some ⟨b,o,none⟩∧cs.length=sz∧(∀ j u,cs[j]?=some u→aI G b (o+k*sz+j)=some u)∧aU G r cs:=by
 obtain ⟨A2,c2,e,_,_,hg⟩:=h.slice
 cases e;exact hg
theorem KJ {G:GH} {l:List aV} {A:Option Addr} {k:Nat} (hk:k < l.length) (hg:∀ k r,(l.map aV.dat)[k]?=some r→∃ b o cs,A=some ⟨b,o,none⟩∧cs.length=6∧(∀ j u,cs[j]?=some u→aI G b (o+k*6+j)=some u)∧aU G r cs) :
  ∃ b o pA pn pc dA dn dc yA yn yc cA cn cc,A=some ⟨b,o,none⟩∧(∀ j u,[.slice pA pn pc,vi l[k].head.marks.ins,vi l[k].head.marks.move,.slice dA dn dc,.slice yA yn yc,.slice cA cn cc][j]?=some u→aI G b (o+k*6+j)=some u) ∧
   fD G l[k].head (.slice pA pn pc) (.slice dA dn dc) (.slice yA yn yc)∧au G (.sl 7 (l[k].cells.map bB.dat)) (.slice cA cn cc):=by
 obtain ⟨b,o,cs,h1,h2,h3,h4⟩:=hg k l[k].dat (by simp [hk]);obtain ⟨pA,pn,pc,dA,dn,dc,yA,yn,yc,cA,cn,cc,rfl,h5,h6⟩:=h4.row;exact ⟨b,o,pA,pn,pc,dA,dn,dc,yA,yn,yc,cA,cn,cc,h1,h3,h5,h6⟩
theorem Jb {G:GH} {l:List bB} {A:Option Addr} {k:Nat} (hk:k < l.length) (hg:∀ k r,(l.map bB.dat)[k]?=some r→∃ b o cs,A=some ⟨b,o,none⟩∧cs.length=7∧(∀ j u,cs[j]?=some u→aI G b (o+k*7+j)=some u)∧aU G r cs) :
  ∃ b o pA pn pc dA dn dc yA yn yc fA fn fc,A=some ⟨b,o,none⟩∧(∀ j u,[vi l[k].id,.slice pA pn pc,vi l[k].head.marks.ins,vi l[k].head.marks.move,.slice dA dn dc,.slice yA yn yc,.slice fA fn fc][j]?=some u→aI G b (o+k*7+j)=some u) ∧
   fD G l[k].head (.slice pA pn pc) (.slice dA dn dc) (.slice yA yn yc)∧au G (.sl 11 (l[k].flow.map ay.dat)) (.slice fA fn fc):=by
 obtain ⟨b,o,cs,h1,h2,h3,h4⟩:=hg k l[k].dat (by simp [hk]);obtain ⟨pA,pn,pc,dA,dn,dc,yA,yn,yc,fA,fn,fc,rfl,h5,h6⟩:=h4.cell;exact ⟨b,o,pA,pn,pc,dA,dn,dc,yA,yn,yc,fA,fn,fc,h1,h3,h5,h6⟩
end
section
open Go.RowKit
structure iE where
 (f p d y r s1 s2 s3 s4:Option Addr × Nat × Nat)
 (ins move:Int)
abbrev aM (x:Option Addr × Nat × Nat):aj:=.slice x.1 x.2.1 x.2.2
abbrev iE.cells (D:iE):List aj:=[aM D.f,aM D.p,vi D.ins,vi D.move,aM D.d,aM D.y,aM D.r,aM D.s1,aM D.s2,aM D.s3,aM D.s4]
abbrev iE.val (D:iE):aj:=.agg D.cells.toArray
end
section
open Go.RowKit
instance acp:Ty prog 129 3 16 [.bool false,.bool false,.int .i64 0] true:=⟨by kernel_rfl,by kernel_rfl⟩
instance:dR prog 68 2 2:=⟨by kernel_rfl⟩
instance:dR prog 129 2 2:=⟨by kernel_rfl⟩
theorem KR:pI prog 129 [(0,1),(1,1),(2,1)] [.bool false,.bool false,.int .i64 0]:=⟨by kernel_rfl,by kernel_rfl⟩
instance:dR prog 129 1 1:=⟨by kernel_rfl⟩
instance arB:Ty prog 4 1 1 [.bool false] false:=⟨by kernel_rfl,by kernel_rfl⟩
instance MX:dR prog 38 0 0:=⟨by kernel_rfl⟩
structure oM where
 id:Int
 items:List ay
 body:Bool
 note:Bool
 tables:Int
mutual
def Lj (note:Bool) (t:Int):ay→List oM
 | .mk k _ i _ _ f r=>if k=6 then ⟨i,f,false,true,t⟩ :: Ba true t f else if k=7 then DV note t r else []
def Ba (note:Bool) (t:Int):List ay→List oM
 | []=>[]
 | x :: l=>Lj note t x++Ba note t l
def DV (note:Bool) (t:Int):List aV→List oM
 | []=>[]
 | r :: l=>Ll note t r++DV note t l
def Ll (note:Bool) (t:Int):aV→List oM
 | .mk _ cs=>DU note t cs
def DU (note:Bool) (t:Int):List bB→List oM
 | []=>[]
 | c :: l=>Lg note t c++DU note t l
def Lg (note:Bool) (t:Int):bB→List oM
 | .mk i _ f=>⟨i,f,false,note,t+1⟩ :: Ba note (t+1) f
end
def GY (l:List ay):List oM:=⟨0,l,true,false,0⟩ :: Ba false 0 l
end
section
open Go.RowKit
instance iq:Ty prog 38 11 232 [.slice none 0 0,.slice none 0 0,.int .i64 0,.int .i64 0,.slice none 0 0,.slice none 0 0,.slice none 0 0,.slice none 0 0,.slice none 0 0,.slice none 0 0,.slice none 0 0] true:=⟨by kernel_rfl,by kernel_rfl⟩
end
section
open Go.RowKit
theorem BU {α:Type} {p:α→Bool} {A:List α} {k:Nat} (hk:k < A.length) (h:(A.take k).findIdx? p=none) (hp:p A[k]=false):(A.take (k+1)).findIdx? p=none:=by
 rw [List.findIdx?_eq_none_iff] at h ⊢;rw [fP hk];intro x hx
 rcases nV.1 hx with hx|hx
 ·exact h x hx
 rw [sN.1 hx];exact hp
theorem rR {α:Type} {p:α→Bool} {A:List α} {k:Nat} (hk:k < A.length) (h:(A.take k).findIdx? p=none) (hp:p A[k]=true):A.findIdx? p=some k:=by
 have e:A.findIdx? p=(A.take k++A.drop k).findIdx? p:=by rw [List.take_append_drop]
 rw [e,List.findIdx?_append,h,pJ hk,List.findIdx?_cons,hp]
 simp;omega
end
section
open Go.RowKit
end
section
open Go.RowKit
theorem agM:∀ args w,(callFunc 171 args).run prog w=.ok (.enter 171 args) w:=enters func171 rfl (by kernel_rfl)
def qY (fv:aj) (G:GH) (d:List Dat) (b:Bool):Prop:=∀ (G1:GH) (w1:World) (cs:List aj),(∀ b o,G b=some o→G1 b=some o)→Hold G1 w1→aU G1 d cs →
 qo prog fv [.agg cs.toArray] w1 (bC w1 G1 fun u G'=>u=.bool b)
def mJ (o:Option Nat):Int:=match o with|some i=>i|none=>-1
theorem amS (G:GH) (w0:World) (hG:Hold G w0) (l:List aV) (p:aV→Bool) (v fv:aj) (hv:au G (.sl 6 (l.map aV.dat)) v) (hf:∀ x∈l,qY fv G x.dat (p x)) :
  Calls prog 171 #[v,fv] w0 (bC w0 G fun u G'=>u=vi (mJ (l.findIdx? p))):=by
 obtain ⟨A,c,rfl,hc1,hc2,hg⟩:=hv.slice;have hml:maxLen=9223372036854775807:=rfl;rw [bM] at *;refine eN [(0,_),(1,_)] func171 rfl ntmps171 rfl rfl hG ?_;refine ak 10 ?_;intro a H;refine eH (ι:=Nat × GH) (Tc:=[(0,_),(1,_),(7,_)]) (Lc:=[]) (fun gh=>[(8,vi gh.1)]) (fun gh=>[]) (fun gh=>gh.2) (fun gh=>gh.1≤l.length∧(l.take gh.1).findIdx? p=none∧(∀ b o,G b=some o→gh.2 b=some o)) (fun gh=>l.length - gh.1) ((0,G)) sB ?_ ?_
 ·exact ⟨by omega,rfl,fun _ _ h=>h⟩
 clear H;rintro ⟨k,g⟩ a w hI H;dsimp only at hI H;obtain ⟨hk,hno,hgm⟩:=hI;dsimp only [lca,bG] at H;refine dO 4 H ?_ ?_ <;> clear H
 ·intro p9
  have hk2:k < l.length:=by omega
  obtain ⟨b,o,cs,rfl,hcl,hrow,hrep⟩:=hg k l[k].dat (by simp [hk2]);obtain ⟨pA,pn,pc,dA,dn,dc,yA,yn,yc,fA,fn,fc,rfl,-⟩:=hrep.row;replace hrow:=fun j u hj=>aH hgm (hrow j u hj);refine ak 12 ?_;intro a H;refine aR jI (cs:=[_,_,_,_,_,_]) H wn rfl rfl (fun j v hj=>H.hp.aI (hrow j v hj)) rfl ?_;clear H;intro a H;refine ji H wn rfl rfl (hf _ (lD hk2) _ _ _ hgm H.ro (hrep.mono hgm)) rfl ?_;clear H;rintro v16 nk a w rfl gU H;refine iR 1 H ?_ ?_ <;> clear H
  ·intro h16
   try have p16:=dT h16
   refine aP 4 ?_
   first
    | exact (by rw [rR hk2 hno h16];rfl)
    | exact (by rw [show l.take k=l from fJ (by omega)] at hno;rw [hno];rfl)
  intro h16
  try have p16:=dF h16
  refine ak 4 ?_;intro a H;refine aC ?_;refine cB ((k+1,nk)) sB ?_ ?_
  ·(try dsimp only);exact ⟨by omega,BU hk2 hno h16,fun b o h=>gU b o (hgm b o h)⟩
  first|omega|(dsimp only;omega)
 intro p9
 refine aP 4 ?_
 first
  | exact (by rw [rR hk2 hno h16];rfl)
  | exact (by rw [show l.take k=l from fJ (by omega)] at hno;rw [hno];rfl)
end
section
open Go.RowKit
def lq (p:Nat→Bool):Nat→Nat→Nat→Nat
 | 0,i,_=>i
 | f+1,i,j=>if i < j then (if p ((i+j) / 2) then lq p f i ((i+j) / 2) else lq p f ((i+j) / 2+1) j) else i
theorem TD {p:Nat→Bool} {f i j:Nat} (hf:j - i≤f) (h:i < j):lq p f i j=if p ((i+j) / 2) then lq p (f - 1) i ((i+j) / 2) else lq p (f - 1) ((i+j) / 2+1) j:=by
 match f,hf with
 | 0,hf=>omega
 | f+1,_=>rw [lq,av h];rfl
theorem Tz {p:Nat→Bool} {f i j:Nat} (h:¬ i < j):lq p f i j=i:=by
 match f with
 | 0=>rfl
 | f+1=>rw [lq,ah h]
theorem NW {p:Nat→Bool}:∀ (f i j:Nat),i≤j→lq p f i j≤j
 | 0,i,j,h=>h
 | f+1,i,j,h=>by
  rw [lq]
  split
  ·split
   ·exact Nat.le_trans (NW f i _ (by omega)) (by omega)
   ·exact NW f _ j (by omega)
  ·exact h
theorem TF {z:Int} (h1:0≤z) (h2:z < 18446744073709551616):IntKind.u64.wrap z=z:=by
 simp only [IntKind.wrap,IntKind.bits,IntKind.signed,wz,qZ,if_false]
 omega
theorem TA (n:Nat):((n:Nat):Int).fdiv (2 ^ 1)=((n / 2:Nat):Int):=by
 rw [Int.fdiv_eq_ediv_of_nonneg _ (by decide)];omega
def Ac (a b:Int):Int:=if a < b then -1 else if b < a then 1 else 0
theorem MK {a b:Int}:Ac a b < 0↔a < b:=by
 unfold Ac
 split
 ·simp [*]
 ·split <;> simp_all
theorem MJ {a b:Int}:Ac a b=0↔a=b:=by
 unfold Ac
 split
 ·omega
 ·split <;> omega
def gW (ks:List Int) (t:Int):Nat:=lq (fun h=>decide (¬ ks.getD h 0 < t)) ks.length 0 ks.length
def nM (ks:List Int) (t:Int):Bool:=decide (ks[gW ks t]?=some t)
theorem Eh (ks:List Int) (t:Int):gW ks t≤ks.length:=NW _ _ _ (gN _)
theorem JL {ks:List Int} {t:Int} (h:nM ks t=true):gW ks t < ks.length:=by
 have:=mE h
 exact (jy.1 this).1
theorem JK {ks:List Int} {t:Int} {n:Nat} (e:gW ks t=n) (h:n < ks.length):nM ks t=decide (Ac ks[n] t=0):=by
 unfold nM
 rw [e,eO h]
 simp [MJ]
theorem JM {ks:List Int} {t:Int} {n:Nat} (e:gW ks t=n) (h:¬ n < ks.length):nM ks t=false:=by
 unfold nM
 rw [e,List.getElem?_eq_none (by omega)]
 simp
theorem getD_map {α:Type} {f:α→Int} {l:List α} {n:Nat} (h:n < l.length):(l.map f).getD n 0=f l[n]:=by
 simp [List.getD,h]
end
section
open Go.RowKit
theorem acy:prog.underlying 322=some (.slice 296):=by kernel_rfl
instance:jZ prog 322 (.slice 296):=⟨acy⟩
instance wW:Ty prog 296 6 56 [.int .i64 0,.int .i64 0,.int .i64 0,.int .i64 0,.int .i64 0,.string ⟨#[]⟩] true:=⟨by kernel_rfl,by kernel_rfl⟩
theorem abV:pI prog 296 [(0,1),(1,1),(2,1),(3,1),(4,1),(5,1)] [.int .i64 0,.int .i64 0,.int .i64 0,.int .i64 0,.int .i64 0,.string ⟨#[]⟩]:=⟨by kernel_rfl,by kernel_rfl⟩
theorem QJ:∀ args w,(callFunc 174 args).run prog w=.ok (.enter 174 args) w:=enters func174 rfl (by kernel_rfl)
structure jK where
 num:Int
 Ah:Int
 low:Int
 high:Int
 std:Int
 name:ByteArray
def jK.dat (x:jK):List Dat:=[li x.num,li x.Ah,li x.low,li x.high,li x.std,.lf (.string x.name)]
def jK.cells (x:jK):List aj:=[vi x.num,vi x.Ah,vi x.low,vi x.high,vi x.std,.string x.name]
def aT.cells (x:aT):List aj:=[vi x.key,vi x.value]
theorem anj (G:GH) (x:jK):aU G x.dat x.cells:=by
 simp only [jK.dat,jK.cells,aU]
 exact ⟨_,_,rfl,by simp [au,Value.oneCell'],_,_,rfl,by simp [au,Value.oneCell'],_,_,rfl,by simp [au,Value.oneCell'],_,_,rfl,by simp [au,Value.oneCell'],_,_,rfl,by simp [au,Value.oneCell'],_,_,rfl,by simp [au,Value.oneCell'],rfl⟩
theorem ani {G:GH} {x:jK} {cs:List aj} (h:aU G x.dat cs):cs=x.cells:=by
 simp only [jK.dat,aU,au] at h
 obtain ⟨v1,_,rfl,⟨rfl,-⟩,v2,_,rfl,⟨rfl,-⟩,v3,_,rfl,⟨rfl,-⟩,v4,_,rfl,⟨rfl,-⟩,v5,_,rfl,⟨rfl,-⟩,v6,_,rfl,⟨rfl,-⟩,rfl⟩:=h
 rfl
theorem aoP (G:GH) (x:aT):aU G x.dat x.cells:=by
 simp only [aT.dat,aT.cells,aU]
 exact ⟨_,_,rfl,by simp [au,Value.oneCell'],_,_,rfl,by simp [au,Value.oneCell'],rfl⟩
theorem Ox {G:GH} {x:aT} {cs:List aj} (h:aU G x.dat cs):cs=x.cells:=by
 simp only [aT.dat,aU,au] at h
 obtain ⟨v1,_,rfl,⟨rfl,-⟩,v2,_,rfl,⟨rfl,-⟩,rfl⟩:=h
 rfl
theorem aao (G:GH):∀ (B A:List jK),bU G 6 (A.map jK.dat) (A.map jK.cells).flatten→bU G 6 ((A++B).map jK.dat) ((A++B).map jK.cells).flatten
 | [],A,h=>by rw [gu];exact h
 | x :: B,A,h=>by
  have h2:=h.snoc (anj G x) rfl;have h3:=aao G B (A++[x]) (by simpa using h2)
  simpa using h3
theorem ank (G:GH) (A:List jK):bU G 6 (A.map jK.dat) (A.map jK.cells).flatten:=aao G A [] bU.nil
theorem TS {G:GH} {l:List jK} {A:Option Addr} {n c k:Nat} (hv:au G (.sl 6 (l.map jK.dat)) (.slice A n c)) (hk:k < l.length):∃ b o,A=some ⟨b,o,none⟩∧(∀ j u,[vi l[k].num,vi l[k].Ah,vi l[k].low,vi l[k].high,vi l[k].std,.string l[k].name][j]?=some u→aI G b (o+k*6+j)=some u):=by
 obtain ⟨A',c',he,_,_,hg⟩:=hv.slice
 injection he with e1 e2 e3
 subst e1;obtain ⟨b,o,cs,h1,h2,h3,h4⟩:=hg k l[k].dat (by simp [hk]);obtain rfl:=ani h4;exact ⟨b,o,h1,h3⟩
theorem abf (G:GH):∀ (B A:List aT),bU G 2 (A.map aT.dat) (A.map aT.cells).flatten→bU G 2 ((A++B).map aT.dat) ((A++B).map aT.cells).flatten
 | [],A,h=>by rw [gu];exact h
 | x :: B,A,h=>by
  have h2:=h.snoc (aoP G x) rfl;have h3:=abf G B (A++[x]) (by simpa using h2)
  simpa using h3
theorem Oy (G:GH) (A:List aT):bU G 2 (A.map aT.dat) (A.map aT.cells).flatten:=abf G A [] bU.nil
theorem Fq {G:GH} {l:List aT} {A:Option Addr} {n c k:Nat} (hv:au G (.sl 2 (l.map aT.dat)) (.slice A n c)) (hk:k < l.length):∃ b o,A=some ⟨b,o,none⟩∧(∀ j u,[vi l[k].key,vi l[k].value][j]?=some u→aI G b (o+k*2+j)=some u):=by
 obtain ⟨A',c',he,_,_,hg⟩:=hv.slice
 injection he with e1 e2 e3
 subst e1;obtain ⟨b,o,cs,h1,h2,h3,h4⟩:=hg k l[k].dat (by simp [hk]);obtain rfl:=Ox h4;exact ⟨b,o,h1,h3⟩
def E5:List jK:=[⟨1,1,0,1073741824,0,⟨#[99,104,97,114,97,99,116,101,114,45,115,116,121,108,101]⟩⟩,⟨2,1,0,1,0,⟨#[98,111,108,100]⟩⟩,⟨3,1,0,1,0,⟨#[105,116,97,108,105,99]⟩⟩,⟨4,1,0,3,0,⟨#[117,110,100,101,114,108,105,110,101]⟩⟩,⟨5,1,2,1638,22,⟨#[115,105,122,101]⟩⟩,⟨6,1,0,16777215,0,⟨#[99,111,108,111,114]⟩⟩,⟨7,1,0,63,0,⟨#[102,111,110,116]⟩⟩,⟨8,1,0,255,0,⟨#[108,97,110,103,117,97,103,101]⟩⟩,⟨9,1,-400,400,0,⟨#[114,97,105,115,101]⟩⟩,⟨10,1,0,1,0,⟨#[104,105,100,100,101,110]⟩⟩,⟨20,2,0,1073741824,0,⟨#[112,97,114,97,103,114,97,112,104,45,115,116,121,108,101]⟩⟩,⟨21,2,0,3,0,⟨#[97,108,105,103,110]⟩⟩,⟨22,2,-31680,31680,0,⟨#[108,101,102,116]⟩⟩,⟨23,2,-31680,31680,0,⟨#[114,105,103,104,116]⟩⟩,⟨24,2,-31680,31680,0,⟨#[102,105,114,115,116]⟩⟩,⟨25,2,0,31680,0,⟨#[98,101,102,111,114,101]⟩⟩,⟨26,2,0,31680,0,⟨#[97,102,116,101,114]⟩⟩,⟨27,2,0,31680,0,⟨#[108,101,97,100,105,110,103]⟩⟩,⟨28,2,0,1,0,⟨#[107,101,101,112,45,110,101,120,116]⟩⟩,⟨29,2,0,1,0,⟨#[107,101,101,112,45,108,105,110,101,115]⟩⟩,⟨30,2,0,1,1,⟨#[119,105,100,111,119]⟩⟩,⟨31,2,0,1,0,⟨#[112,97,103,101,45,98,101,102,111,114,101]⟩⟩,⟨32,2,0,9,0,⟨#[111,117,116,108,105,110,101]⟩⟩,⟨33,2,0,1073741824,0,⟨#[108,105,115,116]⟩⟩,⟨34,2,1,9,1,⟨#[108,101,118,101,108]⟩⟩,⟨35,2,0,32767,0,⟨#[114,101,115,116,97,114,116]⟩⟩,⟨36,2,1,31680,720,⟨#[116,97,98,45,115,116,111,112]⟩⟩,⟨37,2,0,1,0,⟨#[104,121,112,104,101,110,97,116,101]⟩⟩,⟨40,3,720,31680,12240,⟨#[112,97,103,101,45,119,105,100,116,104]⟩⟩,⟨41,3,720,31680,15840,⟨#[112,97,103,101,45,104,101,105,103,104,116]⟩⟩,⟨42,3,0,31680,1440,⟨#[116,111,112]⟩⟩,⟨43,3,0,31680,1440,⟨#[98,111,116,116,111,109]⟩⟩,⟨44,3,0,31680,1440,⟨#[105,110,110,101,114]⟩⟩,⟨45,3,0,31680,1440,⟨#[111,117,116,101,114]⟩⟩,⟨46,3,0,32767,0,⟨#[102,105,114,115,116,45,112,97,103,101]⟩⟩,⟨47,3,1,6,1,⟨#[112,97,103,101,45,102,111,114,109,97,116]⟩⟩,⟨50,4,0,1,0,⟨#[104,101,97,100,101,114]⟩⟩,⟨51,4,0,1,0,⟨#[99,97,110,116,45,115,112,108,105,116]⟩⟩,⟨52,4,0,31680,0,⟨#[114,111,119,45,104,101,105,103,104,116]⟩⟩,⟨60,5,1,32,1,⟨#[99,111,108,117,109,110,45,115,112,97,110]⟩⟩,⟨61,5,0,2,0,⟨#[118,101,114,116,105,99,97,108,45,109,101,114,103,101]⟩⟩,⟨62,5,0,31680,0,⟨#[99,101,108,108,45,119,105,100,116,104]⟩⟩,⟨63,5,0,16777215,16777215,⟨#[115,104,97,100,101]⟩⟩,⟨70,6,0,31680,0,⟨#[116,97,98,108,101,45,119,105,100,116,104]⟩⟩,⟨71,6,0,2,0,⟨#[116,97,98,108,101,45,97,108,105,103,110]⟩⟩]
set_option maxRecDepth 20000 in
theorem anl (G:GH) (w0:World) (hG:Hold G w0):Calls prog 250 #[] w0 (bC w0 G fun u G'=>au G' (.sl 6 (E5.map jK.dat)) u):=by
 refine eN [] func250 rfl ntmps250 rfl rfl hG ?_;refine ak 4 ?_;intro a H;(iterate 45 refine jh abV [_,_,_,_,_,_] H wn rfl rfl rfl rfl ?_;clear H;intro a H);refine apT acy wW (E5.map jK.cells) H wn rfl rfl rfl rfl rfl rfl rfl ?_;clear H;intro b46 a w atc H;refine aD 2 H ?_;clear H;intro a H;refine lr H results250 rfl ?_;obtain ⟨Gz,hmz,hbz,H⟩:=H.eu;exact H.rt (au.eX (n:=45) (cap:=45) hbz rfl (bP _) (show 45≤maxLen by decide) (fJ (bP _)) (ank _ _))
theorem TP (G:GH) (w0:World) (hG:Hold G w0) (x:Int):Calls prog 174 #[vi x] w0 (bC w0 G fun u G'=>u=.bool false∧G=G'):=by
 refine eN [(0,_)] func174 rfl ntmps174 rfl rfl hG ?_;refine aP 9 ?_;exact ⟨by simp,rfl⟩
theorem Qv {x y z:Int} (h:(x < y∧z=-1)∨(y < x∧z=1)∨(x=y∧z=0)):z=Ac x y:=by
 unfold Ac;split
 ·omega
 split <;> omega
theorem Xg (G:GH) (w0:World) (hG:Hold G w0) (x y:Int):Calls prog 253 #[vi x,vi y] w0 (bC w0 G fun u G'=>u=vi (Ac x y)):=by
 refine eN [(0,_),(1,_)] func253 rfl ntmps253 rfl rfl hG ?_;refine ak 5 ?_;intro a H;refine s_call QJ H wn rfl (TP _ _ H.ro x) rfl ?_;clear H;rintro v8 G8 a w ⟨rfl,-⟩ kL H;refine aD 4 H ?_;clear H;intro a H;refine s_call QJ H wn rfl (TP _ _ H.ro y) rfl ?_;clear H;rintro v10 zO a w ⟨rfl,-⟩ BH H;refine iR 6 H ?_ ?_ <;> clear H
 ·intro h11
  intro a H
  cases h11
 intro h11
 try have qg:=dF h11
 refine goC 5 ?_ ?_
 ·intro mU
  intro a H
  cases mU
 intro mU
 try have oJ:=dF mU
 refine goB 7 ?_ ?_
 ·intro p16
  refine aP 3 ?_;exact (aB vi (Qv (by omega)))
 intro p16
 refine goB 7 ?_ ?_
 ·intro rX
  refine aP 3 ?_;exact (aB vi (Qv (by omega)))
 intro rX
 refine aP 4 ?_;exact (aB vi (Qv (by omega)))
end
section
open Go.RowKit
def kN (l:List aT):List aj:=(l.map aT.cells).flatten
theorem QA:∀ l:List aT,(kN l).length=l.length*2
 | []=>rfl
 | p :: l=>by
  have:=QA l
  simp only [kN,eZ,List.flatten_cons,iA] at this ⊢
  rw [this,show p.cells.length=2 from rfl,kr];omega
theorem Jh (l m:List aT):kN (l++m)=kN l++kN m:=by simp [kN]
theorem aoQ {G:GH} {l:List aT} {xs:List aj} (h:bU G 2 (l.map aT.dat) xs):xs=kN l:=by
 obtain ⟨css,rfl,h2,h3⟩:=h;rw [bM] at h2
 have e:css=l.map aT.cells:=by
  apply List.ext_getElem?
  intro j;rw [qM]
  by_cases hj:j < l.length
  ·have h4:=(h3 j l[j].dat css[j] (by simp [hj]) (eO (by omega))).1;rw [eO hj,eO (by omega),Ox h4];rfl
  rw [List.getElem?_eq_none (by omega),List.getElem?_eq_none (by omega)];rfl
 rw [e];rfl
theorem afe {G:GH} {w0:World} (hO:fT G [] w0) (l:List aT) (v:aj) (hv:au G (.sl 2 (l.map aT.dat)) v) (hz:l.length≤4294967296) :
  Calls prog 168 #[v] w0 (fI w0 G [] fun u G' L'=>bV 187 2 u l.length (kN l) L'):=by
 obtain ⟨A,c,rfl,_,_,-⟩:=hv.slice;obtain ⟨hn,hc1,hc2,hnil,hx⟩:=hv.cells;rw [bM] at *;refine jf (N:=8) (T:=[(0,_)]) func168 rfl ntmps168 rfl rfl hO ?_;refine ak 6 ?_;intro a H;refine AL iL H wn rfl rfl ?_;clear H;refine goC 1 ?_ ?_
 ·intro h4
  refine ak 3 ?_;intro a H;refine lr H results168 rfl ?_
  have e:l=[]:=by simpa using hnil (by simpa using h4)
  subst e;exact H.hp.dG bV.nil
 intro h4
 try have p4:=dF h4
 refine ak 1 ?_
 have hA:¬ A=none:=by intro e;rw [e] at h4;cases h4
 refine ak 1 ?_;intro a H;refine AB iL gM H wn rfl ?_;clear H;intro b5 a w hb5 H;refine aD 1 H ?_;clear H
 intro a H;by_cases hr0:l=[]
 ·subst hr0;refine AA iL gM H wn rfl rfl (bP _) rfl ?_;clear H;refine ak 2 ?_;intro a H;refine lr H results168 rfl ?_;exact H.hp.dG bV.empty
 obtain ⟨b,o,xs,rfl,hxl,hxc,hx1,dV⟩:=hx (by simpa using hr0);obtain rfl:=aoQ dV;refine lJ (Li:=[]) (Lo:=[_]) (news:=kN l) iL gM rfl rfl H wn rfl rfl bV.empty hxl (fun j u hj=>H.hp.aI (hxc j u hj)) hx1 (by omega) (by omega) rfl ?_;clear H;intro v7 Lo a w hrow H;rw [fU,oD] at hrow;refine aD 2 H ?_;clear H;intro a H;refine lr H results168 rfl ?_;exact H.hp.dG hrow
theorem abb {G:GH} {w0:World} (hO:fT G [] w0) (l:List aT) (v:aj) (hv:au G (.sl 2 (l.map aT.dat)) v) (hz:l.length≤4294967296) :
  Calls prog 159 #[v] w0 (fI w0 G [] fun u G' L'=>bV 187 2 u l.length (kN l) L'):=by
 obtain ⟨A,c,rfl,_,_,-⟩:=hv.slice;rw [bM] at *;refine jf (N:=5) (T:=[(0,_)]) func159 rfl ntmps159 rfl rfl hO ?_;refine ak 5 ?_;intro a H;refine gy MS (Li:=[]) (L:=[]) H wn rfl (afe (Hp.owns (Li:=[]) H.hp) l _ hv hz) rfl ?_;clear H;rintro v4 G4 L4 a w hrw JV H;dsimp only [List.nil_append] at H;obtain ⟨A4,c4,rfl,-,-⟩:=hrw.shape;refine aD 2 H ?_;clear H;intro a H;refine lr H results159 rfl ?_;exact H.hp.dG hrw
end
section
open Go.RowKit
instance:dR prog 296 0 0:=⟨by kernel_rfl⟩
theorem XV:∀ args w,(callFunc 253 args).run prog w=.ok (.enter 253 args) w:=enters func253 rfl (by kernel_rfl)
theorem FH:prog.underlying 199=some (.int .u64):=by kernel_rfl
instance:jZ prog 199 (.int .u64):=⟨FH⟩
instance CX:dR prog 187 0 0:=⟨by kernel_rfl⟩
theorem ahI:∀ args w,(callFunc 252 args).run prog w=.ok (.enter 252 args) w:=enters func252 rfl (by kernel_rfl)
theorem ahL:∀ args w,(callFunc 261 args).run prog w=.ok (.enter 261 args) w:=enters func261 rfl (by kernel_rfl)
theorem WT (G:GH) (w0:World) (hG:Hold G w0) (x:jK) (t:Int):qo prog (.func (.func 252) #[] #[]) [.agg x.cells.toArray,vi t] w0 (bC w0 G fun u G'=>u=vi (Ac x.num t)):=by
 refine iM (caps:=[]) ahI ?_;refine eN [(0,_),(1,_)] func252 rfl ntmps252 rfl rfl hG ?_;refine ak 1 ?_;intro a H;refine dP (cs:=[_,_,_,_,_,_]) H wn rfl rfl rfl ?_;clear H;intro b2 a w hb2 H;refine aD 6 H ?_;clear H;intro a H;refine s_call XV H wn rfl (Xg _ _ H.ro x.num t) rfl ?_;clear H;rintro v8 G8 a w rfl kL H;refine fu 2 H ?_;exact rfl
theorem adQ (G:GH) (w0:World) (hG:Hold G w0) (l:List jK) (t:Int) (v:aj) (hv:au G (.sl 6 (l.map jK.dat)) v) (hl:l.length≤4294967296) :
  Calls prog 251 #[v,vi t,.func (.func 252) #[] #[]] w0 (bC w0 G fun u G'=>u=.tuple #[vi (gW (l.map jK.num) t),.bool (nM (l.map jK.num) t)]):=by
 obtain ⟨A,c,rfl,hc1,hc2,-⟩:=hv.slice;rw [bM] at *;obtain ⟨p,hp⟩:∃ p:Nat→Bool,p=fun h=>decide (¬ (l.map jK.num).getD h 0 < t):=⟨_,rfl⟩
 have hbs:gW (l.map jK.num) t=lq p l.length 0 l.length:=by rw [hp,gW,bM]
 refine eN [(0,_),(1,_),(2,_)] func251 rfl ntmps251 rfl rfl hG ?_;refine ak 16 ?_;intro a H;refine eH (ι:=Nat × Nat × Nat × GH) (Tc:=[(0,_),(1,_),(2,_),(8,_)]) (Lc:=[]) (fun gh=>[(9,vi gh.1),(10,vi gh.2.1)]) (fun gh=>[]) (fun gh=>gh.2.2.2) (fun gh=>gh.1≤gh.2.1∧gh.2.1≤l.length∧gh.2.1 - gh.1≤gh.2.2.1∧lq p gh.2.2.1 gh.1 gh.2.1=gW (l.map jK.num) t∧(∀ b o,G b=some o→gh.2.2.2 b=some o)) (fun gh=>gh.2.1 - gh.1) ((0,l.length,l.length,G)) sB ?_ ?_
 ·exact ⟨gN _,bP _,Nat.sub_le _ _,hbs.symm,fun _ _ h=>h⟩
 clear H;rintro ⟨i,j,f,g⟩ a w hI H;dsimp only at hI H;obtain ⟨hij,hj,hf1,heq,hgm⟩:=hI;have Au:=hv.mono hgm;dsimp only [lca,bG] at H;refine dO 6 H ?_ ?_ <;> clear H
 ·intro jH
  have hlt:i < j:=by omega
  rw [TD hf1 hlt] at heq;obtain ⟨m,hm⟩:∃ m,m=(i+j) / 2:=⟨_,rfl⟩;rw [← hm] at heq
  have hml:m < l.length:=by omega
  obtain ⟨b,o,rfl,hrow⟩:=TS Au hml
  have hpm:p m=decide (¬ l[m].num < t):=by rw [hp];dsimp only;rw [getD_map hml]
  rw [hpm] at heq;refine ak 6 ?_;intro a H;rw [show ((i:Int)+(j:Int))=((i+j:Nat):Int) by push_cast;rfl] at H;refine AJ ((i+j:Nat):Int) FH kE H wn rfl (TF (by omega) (by omega)) rfl ?_;clear H;intro a H;refine OU _ H wn rfl rfl rfl (by decide) rfl ?_;clear H;intro a H;rw [TA,← hm] at H;refine AJ (m:Int) kE FH H wn rfl (EW (by omega) (by omega)) rfl ?_;clear H;refine ak 7 ?_;intro a H;refine aR wW (cs:=[_,_,_,_,_,_]) H wn rfl rfl (fun j v hj=>H.hp.aI (hrow j v hj)) rfl ?_;clear H;refine ak 1 ?_;intro a H;refine ji H wn rfl rfl (WT _ _ H.ro l[m] t) rfl ?_;clear H;rintro v30 zQ a w rfl Ao H;refine gF 2 H ?_ ?_ <;> clear H
  ·intro p31
   rw [ah (by simpa using MK.1 p31)] at heq;refine ak 4 ?_;intro a H;refine aC ?_;refine cB ((m+1,j,f - 1,zQ)) sB ?_ ?_
   ·(try dsimp only);exact ⟨by omega,hj,by omega,heq,fun b o h=>Ao b o (hgm b o h)⟩
   first|omega|(dsimp only;omega)
  intro p31
  rw [av (by simpa using fun h=>p31 (MK.2 h))] at heq;refine ak 3 ?_;intro a H;refine aC ?_;refine cB ((i,m,f - 1,zQ)) sB ?_ ?_
  ·(try dsimp only);exact ⟨by omega,by omega,by omega,heq,fun b o h=>Ao b o (hgm b o h)⟩
  first|omega|(dsimp only;omega)
 intro jH
 refine ak 1 ?_;rw [Tz (by omega)] at heq;refine jM 6 39 ?_ ?_
 ·intro yS
  try have p39:=dT yS
  have hil:i < l.length:=by omega
  obtain ⟨b,o,rfl,hrow⟩:=TS Au hil;refine ak 4 ?_;intro a H;refine aR wW (cs:=[_,_,_,_,_,_]) H (wg H rfl rfl yS) rfl rfl (fun j v hj=>H.hp.aI (hrow j v hj)) rfl ?_;clear H;refine ak 1 ?_;intro a H;refine ji H (wg H rfl rfl yS) rfl rfl (WT _ _ H.ro l[i] t) rfl ?_;clear H;rintro v46 VR a w rfl Zm H;refine aD 5 H ?_;clear H;intro a H;refine cu ?_;refine (eU H results251 (.cons (aZ H rfl) (.cons (aZ H rfl) .nil)) ?_).1;exact H.rt (by rw [JK heq.symm (by rw [bM];omega),← heq];simp)
 intro yS
 try have p39:=dF yS
 refine ak 12 ?_;intro a H;refine cu ?_;refine (eU H results251 (.cons (aZ H rfl) (.cons (aZ H rfl) .nil)) ?_).1;exact H.rt (by rw [JM heq.symm (by rw [bM];omega),← heq])
theorem WU (G:GH) (w0:World) (hG:Hold G w0) (x:aT) (t:Int):qo prog (.func (.func 261) #[] #[]) [.agg x.cells.toArray,vi t] w0 (bC w0 G fun u G'=>u=vi (Ac x.key t)):=by
 refine iM (caps:=[]) ahL ?_;refine eN [(0,_),(1,_)] func261 rfl ntmps261 rfl rfl hG ?_;refine ak 1 ?_;intro a H;refine dP (cs:=[_,_]) H wn rfl rfl rfl ?_;clear H;intro b2 a w hb2 H;refine aD 6 H ?_;clear H;intro a H;refine s_call XV H wn rfl (Xg _ _ H.ro x.key t) rfl ?_;clear H;rintro v8 G8 a w rfl kL H;refine fu 2 H ?_;exact rfl
theorem adR (G:GH) (w0:World) (hG:Hold G w0) (l:List aT) (t:Int) (v:aj) (hv:au G (.sl 2 (l.map aT.dat)) v) (hl:l.length≤4294967296) :
  Calls prog 260 #[v,vi t,.func (.func 261) #[] #[]] w0 (bC w0 G fun u G'=>u=.tuple #[vi (gW (l.map aT.key) t),.bool (nM (l.map aT.key) t)]):=by
 obtain ⟨A,c,rfl,hc1,hc2,-⟩:=hv.slice;rw [bM] at *;obtain ⟨p,hp⟩:∃ p:Nat→Bool,p=fun h=>decide (¬ (l.map aT.key).getD h 0 < t):=⟨_,rfl⟩
 have hbs:gW (l.map aT.key) t=lq p l.length 0 l.length:=by rw [hp,gW,bM]
 refine eN [(0,_),(1,_),(2,_)] func260 rfl ntmps260 rfl rfl hG ?_;refine ak 16 ?_;intro a H;refine eH (ι:=Nat × Nat × Nat × GH) (Tc:=[(0,_),(1,_),(2,_),(8,_)]) (Lc:=[]) (fun gh=>[(9,vi gh.1),(10,vi gh.2.1)]) (fun gh=>[]) (fun gh=>gh.2.2.2) (fun gh=>gh.1≤gh.2.1∧gh.2.1≤l.length∧gh.2.1 - gh.1≤gh.2.2.1∧lq p gh.2.2.1 gh.1 gh.2.1=gW (l.map aT.key) t∧(∀ b o,G b=some o→gh.2.2.2 b=some o)) (fun gh=>gh.2.1 - gh.1) ((0,l.length,l.length,G)) sB ?_ ?_
 ·exact ⟨gN _,bP _,Nat.sub_le _ _,hbs.symm,fun _ _ h=>h⟩
 clear H;rintro ⟨i,j,f,g⟩ a w hI H;dsimp only at hI H;obtain ⟨hij,hj,hf1,heq,hgm⟩:=hI;have Au:=hv.mono hgm;dsimp only [lca,bG] at H;refine dO 6 H ?_ ?_ <;> clear H
 ·intro jH
  have hlt:i < j:=by omega
  rw [TD hf1 hlt] at heq;obtain ⟨m,hm⟩:∃ m,m=(i+j) / 2:=⟨_,rfl⟩;rw [← hm] at heq
  have hml:m < l.length:=by omega
  obtain ⟨b,o,rfl,hrow⟩:=Fq Au hml
  have hpm:p m=decide (¬ l[m].key < t):=by rw [hp];dsimp only;rw [getD_map hml]
  rw [hpm] at heq;refine ak 6 ?_;intro a H;rw [show ((i:Int)+(j:Int))=((i+j:Nat):Int) by push_cast;rfl] at H;refine AJ ((i+j:Nat):Int) FH kE H wn rfl (TF (by omega) (by omega)) rfl ?_;clear H;intro a H;refine OU _ H wn rfl rfl rfl (by decide) rfl ?_;clear H;intro a H;rw [TA,← hm] at H;refine AJ (m:Int) kE FH H wn rfl (EW (by omega) (by omega)) rfl ?_;clear H;refine ak 7 ?_;intro a H;refine aR gM (cs:=[_,_]) H wn rfl rfl (fun j v hj=>H.hp.aI (hrow j v hj)) rfl ?_;clear H;refine ak 1 ?_;intro a H;refine ji H wn rfl rfl (WU _ _ H.ro l[m] t) rfl ?_;clear H;rintro v30 zQ a w rfl Ao H;refine gF 2 H ?_ ?_ <;> clear H
  ·intro p31
   rw [ah (by simpa using MK.1 p31)] at heq;refine ak 4 ?_;intro a H;refine aC ?_;refine cB ((m+1,j,f - 1,zQ)) sB ?_ ?_
   ·(try dsimp only);exact ⟨by omega,hj,by omega,heq,fun b o h=>Ao b o (hgm b o h)⟩
   first|omega|(dsimp only;omega)
  intro p31
  rw [av (by simpa using fun h=>p31 (MK.2 h))] at heq;refine ak 3 ?_;intro a H;refine aC ?_;refine cB ((i,m,f - 1,zQ)) sB ?_ ?_
  ·(try dsimp only);exact ⟨by omega,by omega,by omega,heq,fun b o h=>Ao b o (hgm b o h)⟩
  first|omega|(dsimp only;omega)
 intro jH
 refine ak 1 ?_;rw [Tz (by omega)] at heq;refine jM 6 39 ?_ ?_
 ·intro yS
  try have p39:=dT yS
  have hil:i < l.length:=by omega
  obtain ⟨b,o,rfl,hrow⟩:=Fq Au hil;refine ak 4 ?_;intro a H;refine aR gM (cs:=[_,_]) H (wg H rfl rfl yS) rfl rfl (fun j v hj=>H.hp.aI (hrow j v hj)) rfl ?_;clear H;refine ak 1 ?_;intro a H;refine ji H (wg H rfl rfl yS) rfl rfl (WU _ _ H.ro l[i] t) rfl ?_;clear H;rintro v46 VR a w rfl Zm H;refine aD 5 H ?_;clear H;intro a H;refine cu ?_;refine (eU H results260 (.cons (aZ H rfl) (.cons (aZ H rfl) .nil)) ?_).1;exact H.rt (by rw [JK heq.symm (by rw [bM];omega),← heq];simp)
 intro yS
 try have p39:=dF yS
 refine ak 12 ?_;intro a H;refine cu ?_;refine (eU H results260 (.cons (aZ H rfl) (.cons (aZ H rfl) .nil)) ?_).1;exact H.rt (by rw [JM heq.symm (by rw [bM];omega),← heq])
end
section
open Go.RowKit
theorem ahG:∀ args w,(callFunc 250 args).run prog w=.ok (.enter 250 args) w:=enters func250 rfl (by kernel_rfl)
theorem ahH:∀ args w,(callFunc 251 args).run prog w=.ok (.enter 251 args) w:=enters func251 rfl (by kernel_rfl)
theorem uU:prog.underlying 41=some (.slice 3):=by kernel_rfl
instance:jZ prog 41 (.slice 3):=⟨uU⟩
theorem ahJ:∀ args w,(callFunc 254 args).run prog w=.ok (.enter 254 args) w:=enters func254 rfl (by kernel_rfl)
theorem XR:∀ args w,(callFunc 226 args).run prog w=.ok (.enter 226 args) w:=enters func226 rfl (by kernel_rfl)
theorem ahw:∀ args w,(callFunc 228 args).run prog w=.ok (.enter 228 args) w:=enters func228 rfl (by kernel_rfl)
instance ajv:dR prog 296 1 1:=⟨by kernel_rfl⟩
theorem ahv:∀ args w,(callFunc 227 args).run prog w=.ok (.enter 227 args) w:=enters func227 rfl (by kernel_rfl)
instance:dR prog 296 2 2:=⟨by kernel_rfl⟩
instance:dR prog 296 3 3:=⟨by kernel_rfl⟩
def kz:jK:=⟨0,0,0,0,0,⟨#[]⟩⟩
def EZ:List Int:=E5.map jK.num
def mP (k:Int):jK × Bool:=if nM EZ k=true then (E5.getD (gW EZ k) kz,true) else (kz,false)
theorem find_spec (G:GH) (w0:World) (hG:Hold G w0) (k:Int):Calls prog 226 #[vi k] w0 (bC w0 G fun u G'=>u=.tuple #[.agg (mP k).1.cells.toArray,.bool (mP k).2]):=by
 refine eN [(0,_)] func226 rfl ntmps226 rfl rfl hG ?_;refine ak 1 ?_;intro a H;refine dz wW H wn rfl ?_;clear H;intro b2 a w hb2 H;refine aD 3 H ?_;clear H;intro a H;refine s_call ahG H wn rfl (anl _ _ H.ro) rfl ?_;clear H;rintro v7 G7 a w hv7 wL H;obtain ⟨A,c,rfl,hc1,hc2,-⟩:=hv7.slice;rw [bM] at *;refine aD 5 H ?_;clear H;intro a H;refine s_call ahH H wn rfl (adQ _ _ H.ro E5 k _ hv7 (by decide)) rfl ?_;clear H;rintro v11 qX a w rfl BI H;have hv7:=hv7.mono BI;have hkn:E5.map jK.num=EZ:=rfl;rw [hkn] at H;obtain ⟨n,hn⟩:∃ n,n=gW EZ k:=⟨_,rfl⟩;obtain ⟨q,hq⟩:∃ q,q=nM EZ k:=⟨_,rfl⟩;rw [← hn,← hq] at H;refine aD 1 H ?_;clear H;intro a H;(iterate 2 refine jY H wn rfl rfl rfl ?_;clear H;intro a H);refine iR 8 H ?_ ?_ <;> clear H
 ·intro uz
  refine ak 1 ?_;intro a H;refine jh abV [_,_,_,_,_,_] H wn rfl rfl rfl rfl ?_;clear H;intro a H;refine aX wW 0 (vs:=[_,_,_,_,_,_]) _ H wn rfl rfl rfl rfl rfl rfl rfl rfl ?_;clear H;intro w H;dsimp only [List.set,setRow] at H;refine aD 2 H ?_;clear H;intro a H;refine cu ?_;refine (eU H results226 (.cons (kT wW (cs:=[_,_,_,_,_,_]) H rfl rfl (H.hp.bO 0 rfl rfl)) (.cons (aZ H rfl) .nil)) ?_).1;exact H.rt (by rw [mP,ah (by rw [← hq];simpa using uz)];rfl)
 intro uz
 have hlt:n < E5.length:=by have:=JL (ks:=EZ) (t:=k) (by rw [← hq];simpa using uz);rw [← hn] at this;simpa [EZ] using this
 obtain ⟨b,o,rfl,hrow⟩:=TS hv7 hlt;refine ak 5 ?_;intro a H;refine aR wW (cs:=[_,_,_,_,_,_]) H wn rfl rfl (fun j v hj=>H.hp.aI (hrow j v hj)) rfl ?_;clear H;intro a H;refine aX wW 0 (vs:=[_,_,_,_,_,_]) _ H wn rfl rfl rfl rfl rfl rfl rfl rfl ?_;clear H;intro w H;dsimp only [List.set,setRow] at H;refine aD 2 H ?_;clear H;intro a H;refine cu ?_;refine (eU H results226 (.cons (kT wW (cs:=[_,_,_,_,_,_]) H rfl rfl (H.hp.bO 0 rfl rfl)) (.cons (aZ H rfl) .nil)) ?_).1;exact H.rt (by rw [mP,av (by rw [← hq];simpa using uz),← hn,List.getD_eq_getElem?_getD,eO hlt];rfl)
def eB (e:Int):List Int:=if e=1∨e=4∨e=5∨e=6 then [1] else if e=2 then [1,2] else if e=3 then [3] else if e=7 then [6] else if e=9 then [4] else if e=10 then [5] else []
theorem fG (G:GH) (A:List Int):bU G 1 (A.map fun k=>[li k]) (A.map vi):=by
 refine ⟨A.map fun k=>[vi k],?_,by simp,fun j r cs hr hc=>?_⟩
 ·induction A with
  | nil=>rfl
  | cons a A ih=>simpa using ih
 rw [qM] at hr hc
 cases h:A[j]? with
 | none=>rw [h] at hr;cases hr
 | some x =>
  rw [h] at hr hc
  cases hr;cases hc
  exact ⟨by simp only [aU];exact ⟨_,_,rfl,by simp [au,Value.oneCell'],rfl⟩,rfl⟩
theorem ajW (G:GH) (w0:World) (hG:Hold G w0) (e:Int):Calls prog 228 #[vi e] w0 (bC w0 G fun u G'=>au G' (.sl 1 ((eB e).map fun k=>[li k])) u):=by
  refine eN [(0,_)] func228 rfl ntmps228 rfl rfl hG ?_;refine goC 13 ?_ ?_
  · intro h4
    try have p4:=dT h4
    refine ak 3 ?_;intro a H;refine gG uU bR [_] [_] H wn rfl rfl rfl rfl rfl (by intro i q h;match i,h with|0,h=>exact h|n+1,h=>simp at h) rfl rfl ?_;clear H;intro b9 a w tC H;refine aD 2 H ?_;clear H;intro a H;refine lr H results228 rfl ?_
    first
      | exact H.rt (by rw [eB,ah (by omega),ah (by omega),ah (by omega),ah (by omega),ah (by omega),ah (by omega)];exact au.iH rfl (by decide))
      | (obtain ⟨Gz,hmz,hbz,H⟩:=H.eu
         first
           | exact H.rt (by rw [eB,av (by omega)];exact au.eX (n:=1) (cap:=1) hbz rfl (bP _) (show 1≤maxLen by decide) rfl (fG _ [1]))
           | exact H.rt (by rw [eB,ah (by omega),av (by omega)];exact au.eX (n:=2) (cap:=2) hbz rfl (bP _) (show 2≤maxLen by decide) rfl (fG _ [1,2]))
           | exact H.rt (by rw [eB,ah (by omega),ah (by omega),av (by omega)];exact au.eX (n:=1) (cap:=1) hbz rfl (bP _) (show 1≤maxLen by decide) rfl (fG _ [3]))
           | exact H.rt (by rw [eB,ah (by omega),ah (by omega),ah (by omega),av (by omega)];exact au.eX (n:=1) (cap:=1) hbz rfl (bP _) (show 1≤maxLen by decide) rfl (fG _ [6]))
           | exact H.rt (by rw [eB,ah (by omega),ah (by omega),ah (by omega),ah (by omega),av (by omega)];exact au.eX (n:=1) (cap:=1) hbz rfl (bP _) (show 1≤maxLen by decide) rfl (fG _ [4]))
           | exact H.rt (by rw [eB,ah (by omega),ah (by omega),ah (by omega),ah (by omega),ah (by omega),av (by omega)];exact au.eX (n:=1) (cap:=1) hbz rfl (bP _) (show 1≤maxLen by decide) rfl (fG _ [5])))
  intro h4
  try have p4:=dF h4
  refine goC 4 ?_ ?_
  · intro h4
    try have p4:=dT h4
    refine ak 3 ?_;intro a H;refine gG uU bR [_] [_] H wn rfl rfl rfl rfl rfl (by intro i q h;match i,h with|0,h=>exact h|n+1,h=>simp at h) rfl rfl ?_;clear H;intro b9 a w tC H;refine aD 2 H ?_;clear H;intro a H;refine lr H results228 rfl ?_
    first
      | exact H.rt (by rw [eB,ah (by omega),ah (by omega),ah (by omega),ah (by omega),ah (by omega),ah (by omega)];exact au.iH rfl (by decide))
      | (obtain ⟨Gz,hmz,hbz,H⟩:=H.eu
         first
           | exact H.rt (by rw [eB,av (by omega)];exact au.eX (n:=1) (cap:=1) hbz rfl (bP _) (show 1≤maxLen by decide) rfl (fG _ [1]))
           | exact H.rt (by rw [eB,ah (by omega),av (by omega)];exact au.eX (n:=2) (cap:=2) hbz rfl (bP _) (show 2≤maxLen by decide) rfl (fG _ [1,2]))
           | exact H.rt (by rw [eB,ah (by omega),ah (by omega),av (by omega)];exact au.eX (n:=1) (cap:=1) hbz rfl (bP _) (show 1≤maxLen by decide) rfl (fG _ [3]))
           | exact H.rt (by rw [eB,ah (by omega),ah (by omega),ah (by omega),av (by omega)];exact au.eX (n:=1) (cap:=1) hbz rfl (bP _) (show 1≤maxLen by decide) rfl (fG _ [6]))
           | exact H.rt (by rw [eB,ah (by omega),ah (by omega),ah (by omega),ah (by omega),av (by omega)];exact au.eX (n:=1) (cap:=1) hbz rfl (bP _) (show 1≤maxLen by decide) rfl (fG _ [4]))
           | exact H.rt (by rw [eB,ah (by omega),ah (by omega),ah (by omega),ah (by omega),ah (by omega),av (by omega)];exact au.eX (n:=1) (cap:=1) hbz rfl (bP _) (show 1≤maxLen by decide) rfl (fG _ [5])))
  intro h4
  try have p4:=dF h4
  refine goC 4 ?_ ?_
  · intro h4
    try have p4:=dT h4
    refine ak 3 ?_;intro a H;refine gG uU bR [_] [_] H wn rfl rfl rfl rfl rfl (by intro i q h;match i,h with|0,h=>exact h|n+1,h=>simp at h) rfl rfl ?_;clear H;intro b9 a w tC H;refine aD 2 H ?_;clear H;intro a H;refine lr H results228 rfl ?_
    first
      | exact H.rt (by rw [eB,ah (by omega),ah (by omega),ah (by omega),ah (by omega),ah (by omega),ah (by omega)];exact au.iH rfl (by decide))
      | (obtain ⟨Gz,hmz,hbz,H⟩:=H.eu
         first
           | exact H.rt (by rw [eB,av (by omega)];exact au.eX (n:=1) (cap:=1) hbz rfl (bP _) (show 1≤maxLen by decide) rfl (fG _ [1]))
           | exact H.rt (by rw [eB,ah (by omega),av (by omega)];exact au.eX (n:=2) (cap:=2) hbz rfl (bP _) (show 2≤maxLen by decide) rfl (fG _ [1,2]))
           | exact H.rt (by rw [eB,ah (by omega),ah (by omega),av (by omega)];exact au.eX (n:=1) (cap:=1) hbz rfl (bP _) (show 1≤maxLen by decide) rfl (fG _ [3]))
           | exact H.rt (by rw [eB,ah (by omega),ah (by omega),ah (by omega),av (by omega)];exact au.eX (n:=1) (cap:=1) hbz rfl (bP _) (show 1≤maxLen by decide) rfl (fG _ [6]))
           | exact H.rt (by rw [eB,ah (by omega),ah (by omega),ah (by omega),ah (by omega),av (by omega)];exact au.eX (n:=1) (cap:=1) hbz rfl (bP _) (show 1≤maxLen by decide) rfl (fG _ [4]))
           | exact H.rt (by rw [eB,ah (by omega),ah (by omega),ah (by omega),ah (by omega),ah (by omega),av (by omega)];exact au.eX (n:=1) (cap:=1) hbz rfl (bP _) (show 1≤maxLen by decide) rfl (fG _ [5])))
  intro h4
  try have p4:=dF h4
  refine goB 4 ?_ ?_
  · intro p4
    refine ak 1 ?_;intro a H;refine gG uU bR [_] [_] H wn rfl rfl rfl rfl rfl (by intro i q h;match i,h with|0,h=>exact h|n+1,h=>simp at h) rfl rfl ?_;clear H;intro b9 a w tC H;refine aD 2 H ?_;clear H;intro a H;refine lr H results228 rfl ?_
    first
      | exact H.rt (by rw [eB,ah (by omega),ah (by omega),ah (by omega),ah (by omega),ah (by omega),ah (by omega)];exact au.iH rfl (by decide))
      | (obtain ⟨Gz,hmz,hbz,H⟩:=H.eu
         first
           | exact H.rt (by rw [eB,av (by omega)];exact au.eX (n:=1) (cap:=1) hbz rfl (bP _) (show 1≤maxLen by decide) rfl (fG _ [1]))
           | exact H.rt (by rw [eB,ah (by omega),av (by omega)];exact au.eX (n:=2) (cap:=2) hbz rfl (bP _) (show 2≤maxLen by decide) rfl (fG _ [1,2]))
           | exact H.rt (by rw [eB,ah (by omega),ah (by omega),av (by omega)];exact au.eX (n:=1) (cap:=1) hbz rfl (bP _) (show 1≤maxLen by decide) rfl (fG _ [3]))
           | exact H.rt (by rw [eB,ah (by omega),ah (by omega),ah (by omega),av (by omega)];exact au.eX (n:=1) (cap:=1) hbz rfl (bP _) (show 1≤maxLen by decide) rfl (fG _ [6]))
           | exact H.rt (by rw [eB,ah (by omega),ah (by omega),ah (by omega),ah (by omega),av (by omega)];exact au.eX (n:=1) (cap:=1) hbz rfl (bP _) (show 1≤maxLen by decide) rfl (fG _ [4]))
           | exact H.rt (by rw [eB,ah (by omega),ah (by omega),ah (by omega),ah (by omega),ah (by omega),av (by omega)];exact au.eX (n:=1) (cap:=1) hbz rfl (bP _) (show 1≤maxLen by decide) rfl (fG _ [5])))
  intro p4
  refine goB 4 ?_ ?_
  · intro gX
    refine ak 1 ?_;intro a H;refine gG uU bR [_,_] [_,_] H wn rfl rfl rfl rfl rfl (by intro i q h;match i,h with|0,h=>exact h|1,h=>exact h|n+2,h=>simp at h) rfl rfl ?_;clear H;intro b12 a w EA H;refine aD 2 H ?_;clear H;intro a H;refine lr H results228 rfl ?_
    first
      | exact H.rt (by rw [eB,ah (by omega),ah (by omega),ah (by omega),ah (by omega),ah (by omega),ah (by omega)];exact au.iH rfl (by decide))
      | (obtain ⟨Gz,hmz,hbz,H⟩:=H.eu
         first
           | exact H.rt (by rw [eB,av (by omega)];exact au.eX (n:=1) (cap:=1) hbz rfl (bP _) (show 1≤maxLen by decide) rfl (fG _ [1]))
           | exact H.rt (by rw [eB,ah (by omega),av (by omega)];exact au.eX (n:=2) (cap:=2) hbz rfl (bP _) (show 2≤maxLen by decide) rfl (fG _ [1,2]))
           | exact H.rt (by rw [eB,ah (by omega),ah (by omega),av (by omega)];exact au.eX (n:=1) (cap:=1) hbz rfl (bP _) (show 1≤maxLen by decide) rfl (fG _ [3]))
           | exact H.rt (by rw [eB,ah (by omega),ah (by omega),ah (by omega),av (by omega)];exact au.eX (n:=1) (cap:=1) hbz rfl (bP _) (show 1≤maxLen by decide) rfl (fG _ [6]))
           | exact H.rt (by rw [eB,ah (by omega),ah (by omega),ah (by omega),ah (by omega),av (by omega)];exact au.eX (n:=1) (cap:=1) hbz rfl (bP _) (show 1≤maxLen by decide) rfl (fG _ [4]))
           | exact H.rt (by rw [eB,ah (by omega),ah (by omega),ah (by omega),ah (by omega),ah (by omega),av (by omega)];exact au.eX (n:=1) (cap:=1) hbz rfl (bP _) (show 1≤maxLen by decide) rfl (fG _ [5])))
  intro gX
  refine goB 4 ?_ ?_
  · intro oJ
    refine ak 1 ?_;intro a H;refine gG uU bR [_] [_] H wn rfl rfl rfl rfl rfl (by intro i q h;match i,h with|0,h=>exact h|n+1,h=>simp at h) rfl rfl ?_;clear H;intro b15 a w akF H;refine aD 2 H ?_;clear H;intro a H;refine lr H results228 rfl ?_
    first
      | exact H.rt (by rw [eB,ah (by omega),ah (by omega),ah (by omega),ah (by omega),ah (by omega),ah (by omega)];exact au.iH rfl (by decide))
      | (obtain ⟨Gz,hmz,hbz,H⟩:=H.eu
         first
           | exact H.rt (by rw [eB,av (by omega)];exact au.eX (n:=1) (cap:=1) hbz rfl (bP _) (show 1≤maxLen by decide) rfl (fG _ [1]))
           | exact H.rt (by rw [eB,ah (by omega),av (by omega)];exact au.eX (n:=2) (cap:=2) hbz rfl (bP _) (show 2≤maxLen by decide) rfl (fG _ [1,2]))
           | exact H.rt (by rw [eB,ah (by omega),ah (by omega),av (by omega)];exact au.eX (n:=1) (cap:=1) hbz rfl (bP _) (show 1≤maxLen by decide) rfl (fG _ [3]))
           | exact H.rt (by rw [eB,ah (by omega),ah (by omega),ah (by omega),av (by omega)];exact au.eX (n:=1) (cap:=1) hbz rfl (bP _) (show 1≤maxLen by decide) rfl (fG _ [6]))
           | exact H.rt (by rw [eB,ah (by omega),ah (by omega),ah (by omega),ah (by omega),av (by omega)];exact au.eX (n:=1) (cap:=1) hbz rfl (bP _) (show 1≤maxLen by decide) rfl (fG _ [4]))
           | exact H.rt (by rw [eB,ah (by omega),ah (by omega),ah (by omega),ah (by omega),ah (by omega),av (by omega)];exact au.eX (n:=1) (cap:=1) hbz rfl (bP _) (show 1≤maxLen by decide) rfl (fG _ [5])))
  intro oJ
  refine goB 4 ?_ ?_
  · intro p16
    refine ak 1 ?_;intro a H;refine gG uU bR [_] [_] H wn rfl rfl rfl rfl rfl (by intro i q h;match i,h with|0,h=>exact h|n+1,h=>simp at h) rfl rfl ?_;clear H;intro b18 a w Np H;refine aD 2 H ?_;clear H;intro a H;refine lr H results228 rfl ?_
    first
      | exact H.rt (by rw [eB,ah (by omega),ah (by omega),ah (by omega),ah (by omega),ah (by omega),ah (by omega)];exact au.iH rfl (by decide))
      | (obtain ⟨Gz,hmz,hbz,H⟩:=H.eu
         first
           | exact H.rt (by rw [eB,av (by omega)];exact au.eX (n:=1) (cap:=1) hbz rfl (bP _) (show 1≤maxLen by decide) rfl (fG _ [1]))
           | exact H.rt (by rw [eB,ah (by omega),av (by omega)];exact au.eX (n:=2) (cap:=2) hbz rfl (bP _) (show 2≤maxLen by decide) rfl (fG _ [1,2]))
           | exact H.rt (by rw [eB,ah (by omega),ah (by omega),av (by omega)];exact au.eX (n:=1) (cap:=1) hbz rfl (bP _) (show 1≤maxLen by decide) rfl (fG _ [3]))
           | exact H.rt (by rw [eB,ah (by omega),ah (by omega),ah (by omega),av (by omega)];exact au.eX (n:=1) (cap:=1) hbz rfl (bP _) (show 1≤maxLen by decide) rfl (fG _ [6]))
           | exact H.rt (by rw [eB,ah (by omega),ah (by omega),ah (by omega),ah (by omega),av (by omega)];exact au.eX (n:=1) (cap:=1) hbz rfl (bP _) (show 1≤maxLen by decide) rfl (fG _ [4]))
           | exact H.rt (by rw [eB,ah (by omega),ah (by omega),ah (by omega),ah (by omega),ah (by omega),av (by omega)];exact au.eX (n:=1) (cap:=1) hbz rfl (bP _) (show 1≤maxLen by decide) rfl (fG _ [5])))
  intro p16
  refine goB 4 ?_ ?_
  · intro rX
    refine ak 1 ?_;intro a H;refine gG uU bR [_] [_] H wn rfl rfl rfl rfl rfl (by intro i q h;match i,h with|0,h=>exact h|n+1,h=>simp at h) rfl rfl ?_;clear H;intro b21 a w asV H;refine aD 2 H ?_;clear H;intro a H;refine lr H results228 rfl ?_
    first
      | exact H.rt (by rw [eB,ah (by omega),ah (by omega),ah (by omega),ah (by omega),ah (by omega),ah (by omega)];exact au.iH rfl (by decide))
      | (obtain ⟨Gz,hmz,hbz,H⟩:=H.eu
         first
           | exact H.rt (by rw [eB,av (by omega)];exact au.eX (n:=1) (cap:=1) hbz rfl (bP _) (show 1≤maxLen by decide) rfl (fG _ [1]))
           | exact H.rt (by rw [eB,ah (by omega),av (by omega)];exact au.eX (n:=2) (cap:=2) hbz rfl (bP _) (show 2≤maxLen by decide) rfl (fG _ [1,2]))
           | exact H.rt (by rw [eB,ah (by omega),ah (by omega),av (by omega)];exact au.eX (n:=1) (cap:=1) hbz rfl (bP _) (show 1≤maxLen by decide) rfl (fG _ [3]))
           | exact H.rt (by rw [eB,ah (by omega),ah (by omega),ah (by omega),av (by omega)];exact au.eX (n:=1) (cap:=1) hbz rfl (bP _) (show 1≤maxLen by decide) rfl (fG _ [6]))
           | exact H.rt (by rw [eB,ah (by omega),ah (by omega),ah (by omega),ah (by omega),av (by omega)];exact au.eX (n:=1) (cap:=1) hbz rfl (bP _) (show 1≤maxLen by decide) rfl (fG _ [4]))
           | exact H.rt (by rw [eB,ah (by omega),ah (by omega),ah (by omega),ah (by omega),ah (by omega),av (by omega)];exact au.eX (n:=1) (cap:=1) hbz rfl (bP _) (show 1≤maxLen by decide) rfl (fG _ [5])))
  intro rX
  refine goB 4 ?_ ?_
  · intro iW
    refine ak 1 ?_;intro a H;refine gG uU bR [_] [_] H wn rfl rfl rfl rfl rfl (by intro i q h;match i,h with|0,h=>exact h|n+1,h=>simp at h) rfl rfl ?_;clear H;intro b24 a w asX H;refine aD 2 H ?_;clear H;intro a H;refine lr H results228 rfl ?_
    first
      | exact H.rt (by rw [eB,ah (by omega),ah (by omega),ah (by omega),ah (by omega),ah (by omega),ah (by omega)];exact au.iH rfl (by decide))
      | (obtain ⟨Gz,hmz,hbz,H⟩:=H.eu
         first
           | exact H.rt (by rw [eB,av (by omega)];exact au.eX (n:=1) (cap:=1) hbz rfl (bP _) (show 1≤maxLen by decide) rfl (fG _ [1]))
           | exact H.rt (by rw [eB,ah (by omega),av (by omega)];exact au.eX (n:=2) (cap:=2) hbz rfl (bP _) (show 2≤maxLen by decide) rfl (fG _ [1,2]))
           | exact H.rt (by rw [eB,ah (by omega),ah (by omega),av (by omega)];exact au.eX (n:=1) (cap:=1) hbz rfl (bP _) (show 1≤maxLen by decide) rfl (fG _ [3]))
           | exact H.rt (by rw [eB,ah (by omega),ah (by omega),ah (by omega),av (by omega)];exact au.eX (n:=1) (cap:=1) hbz rfl (bP _) (show 1≤maxLen by decide) rfl (fG _ [6]))
           | exact H.rt (by rw [eB,ah (by omega),ah (by omega),ah (by omega),ah (by omega),av (by omega)];exact au.eX (n:=1) (cap:=1) hbz rfl (bP _) (show 1≤maxLen by decide) rfl (fG _ [4]))
           | exact H.rt (by rw [eB,ah (by omega),ah (by omega),ah (by omega),ah (by omega),ah (by omega),av (by omega)];exact au.eX (n:=1) (cap:=1) hbz rfl (bP _) (show 1≤maxLen by decide) rfl (fG _ [5])))
  intro iW
  refine ak 4 ?_;intro a H;refine lr H results228 rfl ?_
  first
    | exact H.rt (by rw [eB,ah (by omega),ah (by omega),ah (by omega),ah (by omega),ah (by omega),ah (by omega)];exact au.iH rfl (by decide))
    | (obtain ⟨Gz,hmz,hbz,H⟩:=H.eu
       first
         | exact H.rt (by rw [eB,av (by omega)];exact au.eX (n:=1) (cap:=1) hbz rfl (bP _) (show 1≤maxLen by decide) rfl (fG _ [1]))
         | exact H.rt (by rw [eB,ah (by omega),av (by omega)];exact au.eX (n:=2) (cap:=2) hbz rfl (bP _) (show 2≤maxLen by decide) rfl (fG _ [1,2]))
         | exact H.rt (by rw [eB,ah (by omega),ah (by omega),av (by omega)];exact au.eX (n:=1) (cap:=1) hbz rfl (bP _) (show 1≤maxLen by decide) rfl (fG _ [3]))
         | exact H.rt (by rw [eB,ah (by omega),ah (by omega),ah (by omega),av (by omega)];exact au.eX (n:=1) (cap:=1) hbz rfl (bP _) (show 1≤maxLen by decide) rfl (fG _ [6]))
         | exact H.rt (by rw [eB,ah (by omega),ah (by omega),ah (by omega),ah (by omega),av (by omega)];exact au.eX (n:=1) (cap:=1) hbz rfl (bP _) (show 1≤maxLen by decide) rfl (fG _ [4]))
         | exact H.rt (by rw [eB,ah (by omega),ah (by omega),ah (by omega),ah (by omega),ah (by omega),av (by omega)];exact au.eX (n:=1) (cap:=1) hbz rfl (bP _) (show 1≤maxLen by decide) rfl (fG _ [5])))
theorem amZ {G:GH} {l:List Int} {A:Option Addr} {n c k:Nat} (hv:au G (.sl 1 (l.map fun k=>[li k])) (.slice A n c)) (hk:k < l.length):∃ b o,A=some ⟨b,o,none⟩∧aI G b (o+k*1)=some (vi l[k]):=by
 obtain ⟨A',c',he,_,_,hg⟩:=hv.slice
 injection he with e1 e2 e3
 subst e1;obtain ⟨b,o,cs,h1,h2,h3,h4⟩:=hg k [li l[k]] (by simp [hk])
 simp only [aU,au] at h4
 obtain ⟨v1,_,rfl,⟨rfl,-⟩,rfl⟩:=h4;exact ⟨b,o,h1,h3 0 _ rfl⟩
theorem amU (G:GH) (w0:World) (hG:Hold G w0) (l:List Int) (t:Int) (v:aj) (hv:au G (.sl 1 (l.map fun k=>[li k])) v) :
  Calls prog 254 #[v,vi t] w0 (bC w0 G fun u G'=>u=vi (mJ (l.findIdx? fun x=>decide (t=x)))):=by
 obtain ⟨A,c,rfl,hc1,hc2,-⟩:=hv.slice;have hml:maxLen=9223372036854775807:=rfl;rw [bM] at *;refine eN [(0,_),(1,_)] func254 rfl ntmps254 rfl rfl hG ?_;refine ak 10 ?_;intro a H;refine eH (ι:=Nat) (Tc:=[(0,_),(1,_),(7,_)]) (Lc:=[]) (fun gh=>[(8,vi gh)]) (fun gh=>[]) (fun gh=>G) (fun gh=>gh≤l.length∧(l.take gh).findIdx? (fun x=>decide (t=x))=none) (fun gh=>l.length - gh) (0) sB ?_ ?_
 ·exact ⟨gN _,rfl⟩
 clear H;intro k a w hI H;obtain ⟨hk,hno⟩:=hI;dsimp only [lca,bG] at H;refine dO 4 H ?_ ?_ <;> clear H
 ·intro p9
  have hk2:k < l.length:=by omega
  obtain ⟨b,o,rfl,hrow⟩:=amZ hv hk2;refine goB 15 ?_ ?_
  ·intro p16
   refine aP 4 ?_;rw [rR hk2 hno (by simpa using p16)];rfl
  intro p16
  refine ak 4 ?_;intro a H;refine aC ?_;refine cB ((k+1)) sB ?_ ?_
  ·exact ⟨by omega,BU hk2 hno (by simpa using p16)⟩
  first|omega|(dsimp only;omega)
 intro p9
 refine aP 4 ?_;rw [show l.take k=l from fJ (by omega)] at hno;rw [hno];rfl
theorem afq (G:GH) (w0:World) (hG:Hold G w0) (l:List Int) (t:Int) (v:aj) (hv:au G (.sl 1 (l.map fun k=>[li k])) v) :
  Calls prog 227 #[v,vi t] w0 (bC w0 G fun u G'=>u=.bool (decide (t∈l))):=by
 obtain ⟨A,c,rfl,hc1,hc2,-⟩:=hv.slice;rw [bM] at *;refine eN [(0,_),(1,_)] func227 rfl ntmps227 rfl rfl hG ?_;refine ak 6 ?_;intro a H;refine s_call ahJ H wn rfl (amU _ _ H.ro l t _ hv) rfl ?_;clear H;rintro v7 G7 a w rfl wL H;refine fu 3 H ?_;exact (by
  congr 1
  cases h:l.findIdx? (fun x=>decide (t=x)) with
  | none =>
   rw [List.findIdx?_eq_none_iff] at h;have:t∉l:=fun hm=>absurd (h t hm) (by simp)
   simp [mJ,this]
  | some i =>
   obtain ⟨hi,he,-⟩:=List.findIdx?_eq_some_iff_getElem.1 h
   have:t∈l:=by rw [mE he];exact lD _
   simp [mJ,this])
def rG (e k:Int):Bool:=(mP k).2 && decide ((mP k).1.Ah∈eB e)
theorem Yr (G:GH) (w0:World) (hG:Hold G w0) (e k:Int):Calls prog 194 #[vi e,vi k] w0 (bC w0 G fun u G'=>u=.bool (rG e k)):=by
 refine eN [(0,_),(1,_)] func194 rfl ntmps194 rfl rfl hG ?_;refine ak 5 ?_;intro a H;refine s_call XR H wn rfl (find_spec _ _ H.ro k) rfl ?_;clear H;rintro v9 G9 a w rfl zk H;dsimp only [jK.cells] at H;refine aD 1 H ?_;clear H;intro a H;(iterate 2 refine jY H wn rfl rfl rfl ?_;clear H;intro a H);refine dz wW H wn rfl ?_;clear H;intro b5 a w hb5 H;refine aX wW 0 (vs:=[_,_,_,_,_,_]) _ H wn rfl rfl rfl rfl rfl rfl rfl rfl ?_;clear H;intro w H;dsimp only [List.set,setRow] at H;refine aD 3 H ?_;clear H
 intro a H;by_cases c0:(mP k).2=true
 ·skip
  have oZ:∀ (aQ:Nat) (v:aj) (G G':GH),(∀ k o,G k=some o→G' k=some o)→(fun (aQ:Nat) (v:aj) (G:GH)=>match aQ with|0=>v=.bool (mP k).2|1=>v=.bool (decide ((mP k).2=true))|2=>v=vi e|3=>(mP k).2=true→au G (.sl 1 ((eB e).map fun k=>[li k])) v|4=>v=(aG b5 1)|5=>v=vi (mP k).1.Ah|6=>v=.bool (decide ((mP k).1.Ah∈eB e))|7=>v=.bool (rG e k)|_=>True) aQ v G→(fun (aQ:Nat) (v:aj) (G:GH)=>match aQ with|0=>v=.bool (mP k).2|1=>v=.bool (decide ((mP k).2=true))|2=>v=vi e|3=>(mP k).2=true→au G (.sl 1 ((eB e).map fun k=>[li k])) v|4=>v=(aG b5 1)|5=>v=vi (mP k).1.Ah|6=>v=.bool (decide ((mP k).1.Ah∈eB e))|7=>v=.bool (rG e k)|_=>True) aQ v G':=by
   intro aQ v G G' hm h
   match aQ,h with
   | 0,h=>exact h
   | 1,h=>exact h
   | 2,h=>exact h
   | 3,h=>exact fun hf=>(h hf).mono hm
   | 4,h=>exact h
   | 5,h=>exact h
   | 6,h=>exact h
   | 7,h=>exact h
   | 8,h=>exact trivial
   | _+9,h=>exact trivial
  refine yJ (hmx) [[],[0],[0,1],[0,1,2],[0,1],[0,1,4],(ra 0 6),(ra 0 7),(ra 0 8)] [8] (by kernel_rfl) (by kernel_rfl) (fun (aQ:Nat) (v:aj) (G:GH)=>match aQ with|0=>v=.bool (mP k).2|1=>v=.bool (decide ((mP k).2=true))|2=>v=vi e|3=>(mP k).2=true→au G (.sl 1 ((eB e).map fun k=>[li k])) v|4=>v=(aG b5 1)|5=>v=vi (mP k).1.Ah|6=>v=.bool (decide ((mP k).1.Ah∈eB e))|7=>v=.bool (rG e k)|_=>True) oZ H ?_ ?_
  ·clear H;refine aF ?_ ?_ ?_ ?_ (aF ?_ ?_ ?_ ?_ (bH (bQ rfl) cO))
   ·refine dU [] rfl trivial (by kernel_rfl) oZ rfl rfl ?_;intro aS a w G1 hG HT H fin;exact kH H (Rm rfl fun _ H=>fin H iJ rfl)
   ·refine dU [(0,12,_)] rfl ⟨fun _ _ h=>h,bq⟩ (by kernel_rfl) oZ rfl rfl ?_;intro aS a w G1 hG HT H fin;refine aD 1 H ?_;clear H;intro a H;exact fin H iJ (by simp)
   ·refine dU [(1,13,_)] rfl ⟨fun _ _ h=>h,bq⟩ (by kernel_rfl) oZ rfl rfl ?_;intro aS a w G1 hG HT H fin;exact kH H (YM (aK c0) rfl fun _ H=>fin H iJ rfl)
   ·refine dU [(2,14,_),(1,13,_)] rfl ⟨fun _ _ h=>h,fun _ _ h=>h,bq⟩ (by kernel_rfl) oZ rfl rfl ?_;intro aS a w G1 hG HT H fin;refine s_call ahw H (wg H rfl rfl (aK c0)) rfl (ajW _ _ H.ro e) rfl ?_;clear H;rintro v15 Bg a w Dm Bz H;exact fin H Bz (by first|exact fun _=>Dm|rfl)
   ·refine dU [(1,13,_)] rfl ⟨fun _ _ h=>h,bq⟩ (by kernel_rfl) oZ rfl rfl ?_;intro aS a w G1 hG HT H fin;exact kH H (YF ajv (aK c0) rfl fun _ H=>fin H iJ rfl)
   ·refine dU [(4,16,_),(1,13,_)] rfl ⟨fun _ _ h=>h,fun _ _ h=>h,bq⟩ (by kernel_rfl) oZ rfl rfl ?_;intro aS a w G1 hG HT H fin;exact kH H (YO bR 0 (aK c0) rfl fun _ H=>fin H iJ rfl)
   ·intro aS a w G1 _ aL hc hG HT hv;have H:=HT;clear aL;obtain ⟨u15,amy,Dm⟩:=hv 3 15 (hc 3 (by decide)) rfl;(try dsimp only at Dm);have H:=H.ig amy;have H:=H.aN (hv 5 17 (hc 5 (by decide)) rfl) rfl;have H:=H.aN (hv 1 13 (hc 1 (by decide)) rfl) rfl;have Hb:=H.full;have H:=Hb;clear hc;refine s_call ahv H (wg H rfl rfl (aK c0)) rfl (afq _ _ H.ro _ _ _ (Dm c0)) rfl ?_;clear H;rintro v18 VJ a w rfl akc H;refine aC ⟨rfl,?_⟩;exact dL (by kernel_rfl) oZ rfl rfl HT Hb hG hv akc (rfl) H
   refine dU [(1,13,_),(6,18,_)] rfl ⟨fun _ _ h=>h,fun _ _ h=>h,bq⟩ (by kernel_rfl) oZ rfl rfl ?_;intro aS a w G1 hG HT H fin;refine aD 1 H ?_;clear H;intro a H;exact fin H iJ (by unfold rG;simp_all)
  clear H;intro a w G BA H hv;have H:=H.aN (hv 7 19 rfl rfl) rfl;clear hv;refine t1 2 H ?_;clear H;refine aP 0 ?_;exact rfl
 refine dI hmx [[],[0],[0,1],[0,1,2],[0,1],[0,1,4],(ra 0 6),(ra 0 7),(ra 0 8)] [8] (by kernel_rfl) [_,.bool (decide ((mP k).2=true)),undef,undef,undef,undef,undef,.bool (rG e k)] H (aF (Z0 rfl (Rm rfl)) ?_ (aY 1 (bD c0) rfl rfl) ?_ (aF (aY 1 (bD c0) rfl rfl) (aY 1 (bD c0) rfl rfl) (aY 1 (bD c0) rfl rfl) ?_ (bH (bQ rfl) cO))) ?_
 ·refine dZ 0 12 rfl rfl fun _ a w G1 hG HT H fin=>?_;refine aD 1 H ?_;clear H;intro a H;exact fin H iJ (by show _=_;simp)
 ·intro aS a w G1 _ aL hc hG HT hv;have H:=HT;clear aL;have H:=H.aN (hv 2 14 (hc 2 (by decide)) rfl) rfl;have H:=H.aN (hv 1 13 (hc 1 (by decide)) rfl) rfl;have Hb:=H.full;have H:=Hb;clear hc;refine aD 1 H ?_;clear H;intro a H;refine aC ⟨rfl,?_⟩;exact dL (by kernel_rfl) (fun _ _ _ _ _ h=>h) rfl rfl HT Hb hG hv (fun _ _ h=>h) (by first|exact fun _=>Dm|rfl) H
 ·refine dD 1 13 6 18 rfl rfl fun _ a w G1 hG HT H fin=>?_;refine aD 1 H ?_;clear H;intro a H;exact fin H iJ (by show _=_;unfold rG;simp_all)
 clear H;intro a w G BA H hv;have H:=H.aN (hv 7 19 rfl rfl) rfl;clear hv;refine t1 2 H ?_;clear H;refine aP 0 ?_;exact rfl
def rC (k v:Int):Int:=if (mP k).2=false then 4 else if v < (mP k).1.low∨(mP k).1.high < v then 5 else 0
theorem Qn (G:GH) (w0:World) (hG:Hold G w0) (k x:Int):Calls prog 195 #[vi k,vi x] w0 (bC w0 G fun u G'=>u=vi (rC k x)):=by
 refine eN [(0,_),(1,_)] func195 rfl ntmps195 rfl rfl hG ?_;refine ak 5 ?_;intro a H;refine s_call XR H wn rfl (find_spec _ _ H.ro k) rfl ?_;clear H;rintro v9 G9 a w rfl zk H;dsimp only [jK.cells] at H;refine aD 1 H ?_;clear H;intro a H;(iterate 2 refine jY H wn rfl rfl rfl ?_;clear H;intro a H);refine dz wW H wn rfl ?_;clear H;intro b5 a w hb5 H;refine aX wW 0 (vs:=[_,_,_,_,_,_]) _ H wn rfl rfl rfl rfl rfl rfl rfl rfl ?_;clear H;intro w H;dsimp only [List.set,setRow] at H;refine gF 9 H ?_ ?_ <;> clear H
 ·intro pE
  refine aP 3 ?_;unfold rC;simp_all
 intro pE
 refine lU 6 20 ?_ ?_
 ·intro Fp
  refine aP 11 ?_;unfold rC;simp_all
 intro Fp
 refine goB 7 ?_ ?_
 ·intro qh
  refine aP 3 ?_;unfold rC;simp_all
 intro qh
 refine aP 4 ?_;unfold rC;simp_all
end
section
open Go.RowKit
theorem XO:∀ args w,(callFunc 194 args).run prog w=.ok (.enter 194 args) w:=enters func194 rfl (by kernel_rfl)
instance:dR prog 187 1 1:=⟨by kernel_rfl⟩
theorem QN:∀ args w,(callFunc 195 args).run prog w=.ok (.enter 195 args) w:=enters func195 rfl (by kernel_rfl)
theorem ahK:∀ args w,(callFunc 260 args).run prog w=.ok (.enter 260 args) w:=enters func260 rfl (by kernel_rfl)
theorem QS:∀ args w,(callFunc 240 args).run prog w=.ok (.enter 240 args) w:=enters func240 rfl (by kernel_rfl)
def Du (q:Option Int) (k:Int):Bool:=match q with|some j=>decide (k < j)|none=>false
def xH (e:Int):Option Int→List aT→Int
 | _,[]=>0
 | q,p :: r=>if rG e p.key=false then 4 else if q=some p.key then 7 else if Du q p.key=true then 6 else if rC p.key p.value=0 then xH e (some p.key) r else rC p.key p.value
def zG (l:List aT) (k:Nat):Option Int:=if k=0 then none else l[k - 1]?.map aT.key
def gL (e:Int) (l:List aT):Int:=if e < 1∨10 < e then 3 else xH e none l
theorem aeL {e:Int} {l:List aT} {k:Nat} (h:k < l.length):xH e (zG l k) (l.drop k)=if rG e l[k].key=false then 4 else if zG l k=some l[k].key then 7 else if Du (zG l k) l[k].key=true then 6 else if rC l[k].key l[k].value=0 then xH e (zG l (k+1)) (l.drop (k+1)) else rC l[k].key l[k].value:=by
 rw [pJ h,xH]
 have:zG l (k+1)=some l[k].key:=by rw [zG,ah (by omega),Nat.add_sub_cancel,eO h];rfl
 rw [this]
theorem Ov {l:List aT} {k:Nat} (h:k=0):zG l k=none:=av h
theorem abe (G:GH) (w0:World) (hG:Hold G w0) (e:Int) (l:List aT) (v:aj) (hv:au G (.sl 2 (l.map aT.dat)) v) :
  Calls prog 129 #[vi e,v] w0 (bC w0 G fun u G'=>u=vi (gL e l)):=by
 obtain ⟨A,c,rfl,hc1,hc2,-⟩:=hv.slice;have hml:maxLen=9223372036854775807:=rfl;rw [bM] at *;refine eN [(0,_),(1,_)] func129 rfl ntmps129 rfl rfl hG ?_;refine lU 8 10 ?_ ?_
 ·intro gX
  refine aP 8 ?_
  first
   | exact (aB vi (by rw [ah (by simpa using p61)] at heq;rw [gL,ah (by omega)];exact heq))
   | exact (aB vi (by rw [av (by simpa using h21)] at heq;rw [gL,ah (by omega)];exact heq))
   | exact (aB vi (by rw [gL,ah (by omega)];exact heq))
   | exact (aB vi (by rw [gL,ah (by omega),← heq,show l.drop k=[] from ku (by omega)];rfl))
   | exact (aB vi (by rw [gL,av (by omega)]))
 intro gX
 refine goB 4 ?_ ?_
 ·intro oJ
  refine aP 3 ?_
  first
   | exact (aB vi (by rw [ah (by simpa using p61)] at heq;rw [gL,ah (by omega)];exact heq))
   | exact (aB vi (by rw [av (by simpa using h21)] at heq;rw [gL,ah (by omega)];exact heq))
   | exact (aB vi (by rw [gL,ah (by omega)];exact heq))
   | exact (aB vi (by rw [gL,ah (by omega),← heq,show l.drop k=[] from ku (by omega)];rfl))
   | exact (aB vi (by rw [gL,av (by omega)]))
 intro oJ
 refine ak 8 ?_;intro a H;refine eH (ι:=Nat × GH) (Tc:=[(0,_),(1,_),(14,_),(15,_)]) (Lc:=[]) (fun gh=>[(16,vi gh.1)]) (fun gh=>[]) (fun gh=>gh.2) (fun gh=>gh.1≤l.length∧xH e (zG l gh.1) (l.drop gh.1)=xH e none l∧(∀ b o,G b=some o→gh.2 b=some o)) (fun gh=>l.length - gh.1) ((0,G)) sB ?_ ?_
 ·exact ⟨gN _,rfl,fun _ _ h=>h⟩
 clear H;rintro ⟨k,g⟩ a w hI H;dsimp only at hI H;obtain ⟨hk,heq,hgm⟩:=hI;dsimp only [lca,bG] at H;refine dO 4 H ?_ ?_ <;> clear H
 ·intro jH
  have hk2:k < l.length:=by omega
  have Au:=hv.mono hgm;obtain ⟨b,o,rfl,hrow⟩:=Fq Au hk2
  obtain ⟨pk,hpk⟩:∃ pk,0 < k→aI g b (o+(k - 1)*2+0)=some (vi pk)∧zG l k=some pk:=by
   by_cases h0:0 < k
   ·obtain ⟨b',o',he,hr'⟩:=Fq Au (show k - 1 < l.length by omega)
    injection he with he
    injection he with e1 e2 e3
    subst e1;subst e2;exact ⟨_,fun _=>⟨hr' 0 _ rfl,by rw [zG,ah (by omega),eO (by omega)];rfl⟩⟩
   exact ⟨0,fun h=>absurd h h0⟩
  rw [aeL hk2] at heq;have ato:=heq;refine ak 6 ?_;intro a H;refine aR gM (cs:=[_,_]) H wn rfl rfl (fun j v hj=>H.hp.aI (hrow j v hj)) rfl ?_;clear H;intro a H;refine dz gM H wn rfl ?_;clear H;intro b6 a w hb6 H;refine aD 1 H ?_;clear H;intro a H;refine aX gM 0 (vs:=[_,_]) _ H wn rfl rfl rfl rfl rfl rfl rfl rfl ?_;clear H;intro w H;dsimp only [List.set,setRow] at H;refine aC ?_;refine dQ ?_;refine qz (ι:=GH) (Tc:=[(0,_),(1,_),(6,_),(14,_),(15,_),(16,_)]) (Lc:=[(_,_)]) (fun gh=>[]) (fun gh=>[]) (fun gh=>gh) (fun gh=>(if rC l[k].key l[k].value=0 then xH e (zG l (k+1)) (l.drop (k+1)) else rC l[k].key l[k].value)=xH e none l∧(∀ b o,g b=some o→gh b=some o)) sB ?_ ?_
  ·refine fM 5 H ?_;clear H;intro a H;refine s_call XO H wn rfl (Yr _ _ H.ro e l[k].key) rfl ?_;clear H;rintro v25 LU a w rfl zi H;replace hrow:=fun j u hj=>aH zi (hrow j u hj);refine iR 3 H ?_ ?_ <;> clear H
   ·intro h21
    try have Ce:=dT h21
    refine aP 3 ?_
    first
     | exact (aB vi (by rw [ah (by simpa using p61)] at heq;rw [gL,ah (by omega)];exact heq))
     | exact (aB vi (by rw [av (by simpa using h21)] at heq;rw [gL,ah (by omega)];exact heq))
     | exact (aB vi (by rw [gL,ah (by omega)];exact heq))
     | exact (aB vi (by rw [gL,ah (by omega),← heq,show l.drop k=[] from ku (by omega)];rfl))
     | exact (aB vi (by rw [gL,av (by omega)]))
   intro h21
   try have Ce:=dF h21
   rw [ah (by simpa using h21)] at heq;refine ak 1 ?_
   intro a H;by_cases c0:0 < (k:Int)
   ·skip
    by_cases c1:l[k].key=pk
    ·refine dI hmx [[],[0],[0,1],[0,1,2],(ra 0 4),[0,1,2],[0,1,2],[0,1,2,6],[0,1,2,5,6,7],[0,1,2,5,6,7,8],[0,1,2,5,6,7,8,9],(ra 0 11),(ra 0 12),(ra 0 13)] [13] (by kernel_rfl) [_,_,_,_,vi l[k].key,_,_,vi ((k - 1:Nat):Int),_,_,_,_,_] H (aF (Z0 rfl (Rm rfl)) (Z1 0 28 rfl (Rc rfl)) (Z1 1 29 rfl (Rm rfl)) (Z1 2 30 rfl (YF CX (aK c0) rfl)) (aF (Z2 3 31 2 30 rfl (YO bR 0 (aK c0) rfl)) (Z1 2 30 rfl (YM (aK c0) rfl)) (Z1 2 30 rfl (YM (aK c0) rfl)) ?_ (aF (Z3 5 33 7 35 2 30 rfl (YI iL gM (aK c0) rfl rfl)) (Z2 8 36 2 30 rfl (YF CX (aK c0) rfl)) (X2 9 37 2 30 rfl fun hG=>YR bR (aK c0) rfl (aH hG (aH zi (hpk (by omega)).1))) (Z3 4 32 10 38 2 30 rfl (YC (aK c0) rfl)) (bH (Z2 2 30 11 39 rfl (Pt (aK c0) rfl)) (bH (bQ rfl) cO))))) ?_
     ·refine dD 6 34 2 30 rfl rfl fun _ a w G1 hG HT H fin=>?_;refine lK _ H (wg H rfl rfl (aK c0)) rfl rfl rfl (by omega) (by omega) rfl ?_;clear H;intro a H;exact fin H iJ (by show _=_;first|rfl|exact aB vi (by omega))
     clear H;intro a w G nL H hv;have H:=H.aN (hv 12 40 rfl rfl) rfl;clear hv;refine t1 3 H ?_;clear H;rw [av (by rw [(hpk (by omega)).2,c1])] at heq;refine aP 3 ?_
     first
      | exact (aB vi (by rw [ah (by simpa using p61)] at heq;rw [gL,ah (by omega)];exact heq))
      | exact (aB vi (by rw [av (by simpa using h21)] at heq;rw [gL,ah (by omega)];exact heq))
      | exact (aB vi (by rw [gL,ah (by omega)];exact heq))
      | exact (aB vi (by rw [gL,ah (by omega),← heq,show l.drop k=[] from ku (by omega)];rfl))
      | exact (aB vi (by rw [gL,av (by omega)]))
    refine dI hmx [[],[0],[0,1],[0,1,2],(ra 0 4),[0,1,2],[0,1,2],[0,1,2,6],[0,1,2,5,6,7],[0,1,2,5,6,7,8],[0,1,2,5,6,7,8,9],(ra 0 11),(ra 0 12),(ra 0 13)] [13] (by kernel_rfl) [_,_,_,_,vi l[k].key,_,_,vi ((k - 1:Nat):Int),_,_,_,_,_] H (aF (Z0 rfl (Rm rfl)) (Z1 0 28 rfl (Rc rfl)) (Z1 1 29 rfl (Rm rfl)) (Z1 2 30 rfl (YF CX (aK c0) rfl)) (aF (Z2 3 31 2 30 rfl (YO bR 0 (aK c0) rfl)) (Z1 2 30 rfl (YM (aK c0) rfl)) (Z1 2 30 rfl (YM (aK c0) rfl)) ?_ (aF (Z3 5 33 7 35 2 30 rfl (YI iL gM (aK c0) rfl rfl)) (Z2 8 36 2 30 rfl (YF CX (aK c0) rfl)) (X2 9 37 2 30 rfl fun hG=>YR bR (aK c0) rfl (aH hG (aH zi (hpk (by omega)).1))) (Z3 4 32 10 38 2 30 rfl (YC (aK c0) rfl)) (bH (Z2 2 30 11 39 rfl (Pt (aK c0) rfl)) (bH (bQ rfl) cO))))) ?_
    ·refine dD 6 34 2 30 rfl rfl fun _ a w G1 hG HT H fin=>?_;refine lK _ H (wg H rfl rfl (aK c0)) rfl rfl rfl (by omega) (by omega) rfl ?_;clear H;intro a H;exact fin H iJ (by show _=_;first|rfl|exact aB vi (by omega))
    clear H;intro a w G nL H hv;have H:=H.aN (hv 12 40 rfl rfl) rfl;clear hv;refine t1 4 H ?_;clear H
    have q1:¬ (0 < (k:Int)∧l[k].key=pk):=by first|exact fun h=>c1 h.2|exact fun h=>c0 h.1
    intro a H;rw [ah (fun h=>q1 (by
     by_cases h0:0 < k
     ·rw [(hpk h0).2] at h
      injection h with h
      exact ⟨by omega,h.symm⟩
     rw [Ov (by omega)] at h
     cases h))] at heq
    by_cases c3:l[k].key < pk
    ·refine dI hmx [[],[0],[0,1],[0,1,2],(ra 0 4),[0,1,2],[0,1,2],[0,1,2,6],[0,1,2,5,6,7],[0,1,2,5,6,7,8],[0,1,2,5,6,7,8,9],(ra 0 11),(ra 0 12),(ra 0 13)] [13] (by kernel_rfl) [_,_,_,_,vi l[k].key,_,_,vi ((k - 1:Nat):Int),_,_,vi pk,_,_] H (aF (Z0 rfl (Rm rfl)) (Z1 0 42 rfl (Rc rfl)) (Z1 1 43 rfl (Rm rfl)) (Z1 2 44 rfl (YF CX (aK c0) rfl)) (aF (Z2 3 45 2 44 rfl (YO bR 0 (aK c0) rfl)) (Z1 2 44 rfl (YM (aK c0) rfl)) (Z1 2 44 rfl (YM (aK c0) rfl)) ?_ (aF (Z3 5 47 7 49 2 44 rfl (YI iL gM (aK c0) rfl rfl)) (Z2 8 50 2 44 rfl (YF CX (aK c0) rfl)) ?_ (Z3 4 46 10 52 2 44 rfl (YC (aK c0) rfl)) (bH (Z2 2 44 11 53 rfl (Pt (aK c0) rfl)) (bH (bQ rfl) cO))))) ?_
     ·refine dD 6 48 2 44 rfl rfl fun _ a w G1 hG HT H fin=>?_;refine lK _ H (wg H rfl rfl (aK c0)) rfl rfl rfl (by omega) (by omega) rfl ?_;clear H;intro a H;exact fin H iJ (by show _=_;first|rfl|exact aB vi (by omega))
     ·refine dD 9 51 2 44 rfl rfl fun _ a w G1 hG HT H fin=>?_;refine iC bR H (wg H rfl rfl (aK c0)) rfl (H.hp.aI (aH hG (aH nL (aH zi (hpk (by omega)).1)))) rfl ?_;clear H;intro a H;exact fin H iJ rfl
     clear H;intro a w G pW H hv;have H:=H.aN (hv 12 54 rfl rfl) rfl;clear hv;refine t1 3 H ?_;clear H;rw [av (by rw [(hpk (by omega)).2];exact aK c3)] at heq;refine aP 3 ?_
     first
      | exact (aB vi (by rw [ah (by simpa using p61)] at heq;rw [gL,ah (by omega)];exact heq))
      | exact (aB vi (by rw [av (by simpa using h21)] at heq;rw [gL,ah (by omega)];exact heq))
      | exact (aB vi (by rw [gL,ah (by omega)];exact heq))
      | exact (aB vi (by rw [gL,ah (by omega),← heq,show l.drop k=[] from ku (by omega)];rfl))
      | exact (aB vi (by rw [gL,av (by omega)]))
    refine dI hmx [[],[0],[0,1],[0,1,2],(ra 0 4),[0,1,2],[0,1,2],[0,1,2,6],[0,1,2,5,6,7],[0,1,2,5,6,7,8],[0,1,2,5,6,7,8,9],(ra 0 11),(ra 0 12),(ra 0 13)] [13] (by kernel_rfl) [_,_,_,_,vi l[k].key,_,_,vi ((k - 1:Nat):Int),_,_,vi pk,_,_] H (aF (Z0 rfl (Rm rfl)) (Z1 0 42 rfl (Rc rfl)) (Z1 1 43 rfl (Rm rfl)) (Z1 2 44 rfl (YF CX (aK c0) rfl)) (aF (Z2 3 45 2 44 rfl (YO bR 0 (aK c0) rfl)) (Z1 2 44 rfl (YM (aK c0) rfl)) (Z1 2 44 rfl (YM (aK c0) rfl)) ?_ (aF (Z3 5 47 7 49 2 44 rfl (YI iL gM (aK c0) rfl rfl)) (Z2 8 50 2 44 rfl (YF CX (aK c0) rfl)) ?_ (Z3 4 46 10 52 2 44 rfl (YC (aK c0) rfl)) (bH (Z2 2 44 11 53 rfl (Pt (aK c0) rfl)) (bH (bQ rfl) cO))))) ?_
    ·refine dD 6 48 2 44 rfl rfl fun _ a w G1 hG HT H fin=>?_;refine lK _ H (wg H rfl rfl (aK c0)) rfl rfl rfl (by omega) (by omega) rfl ?_;clear H;intro a H;exact fin H iJ (by show _=_;first|rfl|exact aB vi (by omega))
    ·refine dD 9 51 2 44 rfl rfl fun _ a w G1 hG HT H fin=>?_;refine iC bR H (wg H rfl rfl (aK c0)) rfl (H.hp.aI (aH hG (aH nL (aH zi (hpk (by omega)).1)))) rfl ?_;clear H;intro a H;exact fin H iJ rfl
    clear H;intro a w G pW H hv;have H:=H.aN (hv 12 54 rfl rfl) rfl;clear hv;refine t1 3 H ?_;clear H;intro a H;refine jL ?_;refine ⟨_,sB,?_⟩
    have q2:¬ (0 < (k:Int)∧l[k].key < pk):=by first|exact fun h=>c3 h.2|exact fun h=>c0 h.1
    rw [ah (fun h=>q2 (by
     by_cases h0:0 < k
     ·rw [(hpk h0).2] at h;exact ⟨by omega,mE h⟩
     rw [Ov (by omega)] at h
     cases h))] at heq
    exact ⟨heq,fun b o h=>pW b o (nL b o (zi b o h))⟩
   refine dI hmx [[],[0],[0,1],[0,1,2],(ra 0 4),[0,1,2],[0,1,2],[0,1,2,6],[0,1,2,5,6,7],[0,1,2,5,6,7,8],[0,1,2,5,6,7,8,9],(ra 0 11),(ra 0 12),(ra 0 13)] [13] (by kernel_rfl) [_,_,_,undef,undef,undef,undef,undef,undef,undef,undef,undef,_] H (aF (Z0 rfl (Rm rfl)) (Z1 0 28 rfl (Rc rfl)) (Z1 1 29 rfl (Rm rfl)) (aY 2 (bD c0) rfl rfl) (aF (aY 2 (bD c0) rfl rfl) (aY 2 (bD c0) rfl rfl) (aY 2 (bD c0) rfl rfl) (aY 2 (bD c0) rfl rfl) (aF (aY 2 (bD c0) rfl rfl) (aY 2 (bD c0) rfl rfl) (aY 2 (bD c0) rfl rfl) (aY 2 (bD c0) rfl rfl) (bH (Z2 2 30 11 39 rfl (Pf (bD c0) rfl)) (bH (bQ rfl) cO))))) ?_
   clear H;intro a w G nL H hv;have H:=H.aN (hv 12 40 rfl rfl) rfl;clear hv;refine t1 4 H ?_;clear H
   have q1:¬ (0 < (k:Int)∧l[k].key=pk):=by first|exact fun h=>c1 h.2|exact fun h=>c0 h.1
   intro a H;rw [ah (fun h=>q1 (by
    by_cases h0:0 < k
    ·rw [(hpk h0).2] at h
     injection h with h
     exact ⟨by omega,h.symm⟩
    rw [Ov (by omega)] at h
    cases h))] at heq
   refine dI hmx [[],[0],[0,1],[0,1,2],(ra 0 4),[0,1,2],[0,1,2],[0,1,2,6],[0,1,2,5,6,7],[0,1,2,5,6,7,8],[0,1,2,5,6,7,8,9],(ra 0 11),(ra 0 12),(ra 0 13)] [13] (by kernel_rfl) [_,_,_,undef,undef,undef,undef,undef,undef,undef,undef,undef,_] H (aF (Z0 rfl (Rm rfl)) (Z1 0 42 rfl (Rc rfl)) (Z1 1 43 rfl (Rm rfl)) (aY 2 (bD c0) rfl rfl) (aF (aY 2 (bD c0) rfl rfl) (aY 2 (bD c0) rfl rfl) (aY 2 (bD c0) rfl rfl) (aY 2 (bD c0) rfl rfl) (aF (aY 2 (bD c0) rfl rfl) (aY 2 (bD c0) rfl rfl) (aY 2 (bD c0) rfl rfl) (aY 2 (bD c0) rfl rfl) (bH (Z2 2 44 11 53 rfl (Pf (bD c0) rfl)) (bH (bQ rfl) cO))))) ?_
   clear H;intro a w G pW H hv;have H:=H.aN (hv 12 54 rfl rfl) rfl;clear hv;refine t1 3 H ?_;clear H;intro a H;refine jL ?_;refine ⟨_,sB,?_⟩
   have q2:¬ (0 < (k:Int)∧l[k].key < pk):=by first|exact fun h=>c3 h.2|exact fun h=>c0 h.1
   rw [ah (fun h=>q2 (by
    by_cases h0:0 < k
    ·rw [(hpk h0).2] at h;exact ⟨by omega,mE h⟩
    rw [Ov (by omega)] at h
    cases h))] at heq
   exact ⟨heq,fun b o h=>pW b o (nL b o (zi b o h))⟩
  clear H;intro g2 a w hI H;obtain ⟨heq,iT⟩:=hI;replace hrow:=fun j u hj=>aH iT (hrow j u hj);dsimp only [lca,bG] at H;refine fM 5 H ?_;clear H;intro a H;refine s_call QN H wn rfl (Qn _ _ H.ro l[k].key l[k].value) rfl ?_;clear H;rintro v59 G59 a w rfl alK H;refine gF 6 H ?_ ?_ <;> clear H
  ·intro p61
   refine aP 4 ?_
   first
    | exact (aB vi (by rw [ah (by simpa using p61)] at heq;rw [gL,ah (by omega)];exact heq))
    | exact (aB vi (by rw [av (by simpa using h21)] at heq;rw [gL,ah (by omega)];exact heq))
    | exact (aB vi (by rw [gL,ah (by omega)];exact heq))
    | exact (aB vi (by rw [gL,ah (by omega),← heq,show l.drop k=[] from ku (by omega)];rfl))
    | exact (aB vi (by rw [gL,av (by omega)]))
  intro p61
  refine ak 4 ?_;intro a H;refine aC ?_;refine cB ((k+1,G59)) (by exact (H.dY (Pl:=[_]) (dJ:=[]) [] (by decide) rfl).sub ⟨rfl,rfl,rfl,rfl,rfl,bq⟩) ?_ ?_
  ·(try dsimp only);exact ⟨by omega,by rw [av (by simpa using p61)] at heq;exact heq,fun b o h=>alK b o (iT b o (hgm b o h))⟩
  first|omega|(dsimp only;omega)
 intro jH
 refine aP 4 ?_
 first
  | exact (aB vi (by rw [ah (by simpa using p61)] at heq;rw [gL,ah (by omega)];exact heq))
  | exact (aB vi (by rw [av (by simpa using h21)] at heq;rw [gL,ah (by omega)];exact heq))
  | exact (aB vi (by rw [gL,ah (by omega)];exact heq))
  | exact (aB vi (by rw [gL,ah (by omega),← heq,show l.drop k=[] from ku (by omega)];rfl))
  | exact (aB vi (by rw [gL,av (by omega)]))
def yN (l:List aT) (k:Int):Int × Bool:=if nM (l.map aT.key) k=true then ((l.getD (gW (l.map aT.key) k) ⟨0,0⟩).value,true) else (0,false)
theorem U1 (G:GH) (w0:World) (hG:Hold G w0) (l:List aT) (t:Int) (v:aj) (hv:au G (.sl 2 (l.map aT.dat)) v) (hl:l.length≤4294967296) :
  Calls prog 240 #[v,vi t] w0 (bC w0 G fun u G'=>u=.tuple #[vi (gW (l.map aT.key) t),.bool (nM (l.map aT.key) t)]):=by
 obtain ⟨A,c,rfl,hc1,hc2,-⟩:=hv.slice;rw [bM] at *;refine eN [(0,_),(1,_)] func240 rfl ntmps240 rfl rfl hG ?_;refine ak 7 ?_;intro a H;refine s_call ahK H wn rfl (adR _ _ H.ro l t _ hv hl) rfl ?_;clear H;rintro v8 G8 a w rfl kL H;(iterate 2 refine jY H wn rfl rfl rfl ?_;clear H;intro a H);refine aD 3 H ?_;clear H;intro a H;refine cu ?_;refine (eU H results240 (.cons (aZ H rfl) (.cons (aZ H rfl) .nil)) ?_).1;exact H.rt rfl
theorem ajS (G:GH) (w0:World) (hG:Hold G w0) (l:List aT) (t:Int) (v:aj) (hv:au G (.sl 2 (l.map aT.dat)) v) (hl:l.length≤4294967296) :
  Calls prog 213 #[v,vi t] w0 (bC w0 G fun u G'=>u=.tuple #[vi (yN l t).1,.bool (yN l t).2]):=by
 obtain ⟨A,c,rfl,hc1,hc2,-⟩:=hv.slice;rw [bM] at *;refine eN [(0,_),(1,_)] func213 rfl ntmps213 rfl rfl hG ?_;refine ak 7 ?_;intro a H;refine s_call QS H wn rfl (U1 _ _ H.ro l t _ hv hl) rfl ?_;clear H;rintro v11 qX a w rfl BI H;obtain ⟨n,hn⟩:∃ n,n=gW (l.map aT.key) t:=⟨_,rfl⟩;obtain ⟨q,hq⟩:∃ q,q=nM (l.map aT.key) t:=⟨_,rfl⟩;rw [← hn,← hq] at H;refine aD 1 H ?_;clear H;intro a H;(iterate 2 refine jY H wn rfl rfl rfl ?_;clear H;intro a H);refine iR 8 H ?_ ?_ <;> clear H
 ·intro uz
  refine ak 4 ?_;intro a H;refine cu ?_;refine (eU H results213 (.cons (aZ H rfl) (.cons (aZ H rfl) .nil)) ?_).1;exact H.rt (by rw [yN,ah (by rw [← hq];simpa using uz)])
 intro uz
 have hlt:n < l.length:=by have:=JL (ks:=l.map aT.key) (t:=t) (by rw [← hq];simpa using uz);rw [← hn] at this;simpa using this
 obtain ⟨b,o,rfl,hrow⟩:=Fq (hv.mono BI) hlt;have r1:aI qX b (o+n*2+1)=some (vi l[n].value):=hrow 1 _ rfl;refine ak 10 ?_;intro a H;refine cu ?_;refine (eU H results213 (.cons (aZ H rfl) (.cons (aZ H rfl) .nil)) ?_).1;exact H.rt (by rw [yN,av (by rw [← hq];simpa using uz),← hn,List.getD_eq_getElem?_getD,eO hlt];rfl)
end
section
open Go.RowKit
theorem QI:∀ args w,(callFunc 159 args).run prog w=.ok (.enter 159 args) w:=enters func159 rfl (by kernel_rfl)
theorem ahy:∀ args w,(callFunc 241 args).run prog w=.ok (.enter 241 args) w:=enters func241 rfl (by kernel_rfl)
theorem arl:pI prog 187 [(0,1),(1,1)] [.int .i64 0,.int .i64 0]:=⟨by kernel_rfl,by kernel_rfl⟩
theorem ahz:∀ args w,(callFunc 242 args).run prog w=.ok (.enter 242 args) w:=enters func242 rfl (by kernel_rfl)
theorem aqz {cur x ys A:List aj} {p q:Nat} (hA:cur.take p=A) (hp:p≤cur.length) (hx:x.length=q) (hl:p+q+ys.length≤cur.length):(seg (seg cur p x) (p+q) ys).take (p+q+ys.length)=A++x++ys∧(seg (seg cur p x) (p+q) ys).length=cur.length:=by
 have h1:(seg cur p x).length=cur.length:=DK (by omega);refine ⟨?_,by rw [DK (by rw [h1];omega),h1]⟩
 have h2:(seg cur p x).take (p+q)=A++x:=by
  rw [seg,hA,List.take_append_of_le_length (by rw [← hA];simp;omega),fJ (by rw [← hA];simp;omega)]
 rw [seg,h2,List.take_append_of_le_length (by rw [← hA];simp;omega),fJ (by rw [← hA];simp;omega)]
theorem aqA {cur x ys A:List aj} {p q:Nat} (hA:cur.take p=A) (hp:p≤cur.length) (hx:x.length=q) (hl:p+q+ys.length≤cur.length):(seg (seg cur (p+q) ys) p x).take (p+q+ys.length)=A++x++ys∧(seg (seg cur (p+q) ys) p x).length=cur.length:=by
 have h1:(seg cur (p+q) ys).length=cur.length:=DK (by omega);refine ⟨?_,by rw [DK (by rw [h1];omega),h1]⟩
 have h2:(seg cur (p+q) ys).take p=A:=by
  rw [seg,iZ,List.take_append_of_le_length (by simp;omega),List.take_take,Nat.min_eq_left (by omega),hA]
 have h3:(seg cur (p+q) ys).drop (p+q)=ys++cur.drop (p+q+ys.length):=by
  rw [seg,iZ,List.drop_append_of_le_length (by simp;omega),ku (by simp;omega),oD]
 rw [seg,hx,h2,h3,← iZ,List.take_append_of_le_length (by rw [← hA];simp;omega),fJ (by rw [← hA];simp;omega)]
theorem aqy {cur ys A:List aj} {p:Nat} (hA:cur.take p=A) (hl:p+ys.length≤cur.length):(seg cur p ys).take (p+ys.length)=A++ys:=by
 rw [seg,hA,List.take_append_of_le_length (by rw [← hA];simp;omega),fJ (by rw [← hA];simp;omega)]
theorem OW {b o lo n c sz o' n' c':Nat} (h:¬ c=lo) (ho:o+lo*sz=o') (hn:n - lo=n') (hc:c - lo=c'):Value.slice (if c=lo then some ⟨b,o,none⟩ else (some ⟨b,o,none⟩:Option Addr).map (·.add (lo*sz))) (n - lo) (c - lo)=.slice (some ⟨b,o',none⟩) n' c':=by
 subst ho hn hc;rw [ah h,uf,add_lit]
theorem amY (G:GH) (w0:World) (Lo:OL) (hO:fT G Lo w0) (v:aj) (n i:Nat) (xs:List aj) (hrw:bV 187 2 v n xs Lo) (hx1:xs.all Value.oneCell'=true) (hi:i≤n) (hn:n≤4294967296) (bv:Nat) (x0 x1:aj) (hb:G bv=some (.cells #[x0,x1] 187 (0,0))) (h0:x0.oneCell'=true) (h1:x1.oneCell'=true) :
  Calls prog 241 #[v,vi i,.slice (some ⟨bv,0,none⟩) 1 1] w0 (fI w0 G Lo fun u G' L'=>bV 187 2 u (n+1) (xs.take (i*2)++[x0,x1]++xs.drop (i*2)) L'):=by
 have hml:maxLen=9223372036854775807:=rfl;obtain ⟨A,c,rfl,hc1,hc2⟩:=hrw.shape;have hxl:=hrw.1
 have hx2:[x0,x1].all Value.oneCell'=true:=by simp [h0,h1]
 have hgx:∀ {w:World} {G':GH},Hold G' w→(∀ b o,G b=some o→G' b=some o)→∀ j u,[x0,x1][j]?=some u→w.cell? ⟨bv,0+j,none⟩=some u:=fun {w} {G'} hG hm j u hj=>by
  simp [World.cell?,hG _ _ (hm _ _ hb),← hj]
 refine jf (N:=95) (T:=[(0,_),(1,_),(2,_)]) func241 rfl ntmps241 rfl rfl hO ?_;refine ak 6 ?_;intro a H;refine xX iL gM i H wn rfl rfl rfl hi rfl ?_;clear H;refine goB 11 ?_ ?_
 ·intro p16
  intro a H;exact absurd p16 (by decide)
 intro p16
 refine goB 12 ?_ ?_
 ·intro iW
  refine ak 3 ?_;intro a H;refine lJ (Li:=[]) (Lo:=Lo) (news:=[x0,x1]) iL gM rfl rfl H wn rfl rfl hrw rfl (hgx H.ro fun _ _ h=>h) hx2 (by omega) (by omega) rfl ?_;clear H;intro v25 asH a w amg H;dsimp only [List.nil_append] at H;refine aD 2 H ?_;clear H;intro a H;refine lr H results241 rfl ?_
  exact H.hp.dG (by
   have e:i=n:=by omega
   have e1:xs.take (i*2)=xs:=fJ (by omega);have e2:xs.drop (i*2)=[]:=ku (by omega)
   rw [e1,e2,gu];exact amg)
 intro iW
 have hlt:i < n:=by omega
 obtain ⟨b,cap,cur,he,rfl,-,-,hcs,hct⟩:=hrw.2.resolve_left (fun h=>by omega)
 intro a H;injection he with e1 e2 e3
 subst e1 e3;obtain ⟨cur,rfl⟩:∃ l:List aj,cur=l.toArray:=⟨cur.toList,by simp⟩
 simp only [List.size_toArray,List.toList_toArray] at hcs hct
 have Nu:cur.take (i*2)=xs.take (i*2):=by rw [← hct,List.take_take,Nat.min_eq_left (by omega)]
 have hcd:∀ j u,(xs.drop (i*2))[j]?=some u→cur[i*2+j]?=some u:=fun j u hj=>by
  rw [List.getElem?_drop,← hct,ru] at hj
  split at hj
  ·exact hj
  cases hj
 have alf:∀ j u,(xs.take (i*2))[j]?=some u→cur[j]?=some u:=fun j u hj=>by
  rw [← Nu,ru] at hj
  split at hj
  ·exact hj
  cases hj
 have hyl:(xs.drop (i*2)).length=(n - i)*2:=by rw [List.length_drop,hxl];omega
 have hy1:(xs.drop (i*2)).all Value.oneCell'=true:=jQ.2 fun u hu=>jQ.1 hx1 u (List.mem_of_mem_drop hu)
 have hbne:bv≠b:=fun e=>by have:=hO.sep (b,_) (List.mem_singleton_self _);rw [← e,hb] at this;cases this
 refine fM 7 H ?_;clear H;intro a H;refine apV iL H wn rfl rfl ?_;clear H;refine goB 2 ?_ ?_
 ·intro p31
  refine ak 3 ?_;intro a H;refine DJ iL gM i H wn rfl rfl rfl (by omega) rfl ?_;clear H;refine ak 5 ?_;intro a H;refine apR (m:=n+1 - i) iL kE gM rfl rfl (xs.take (i*2)) H wn rfl rfl (by omega) (by rw [List.length_take,hxl];omega) (fun j u hj=>H.hp.qH 0 rfl (by rw [fU];simpa using alf j u hj)) (by omega) (by omega) (by omega) (by omega) rfl ?_;clear H;intro b2 cap2 CW a w hq1 hq2 hq3 hq4 H;rw [show i+(n+1 - i)=n+1 by omega] at hq1 H;refine aD 5 H ?_;clear H;intro a H;refine xX iL gM i H wn rfl rfl rfl (by omega) rfl ?_;clear H;intro a H;rw [ah (by omega),uf,add_lit,fU] at H;refine aD 1 H ?_;clear H;intro a H;refine OM iL gM 0 1 [x0,x1] H wn rfl rfl rfl (by omega) rfl (hgx H.ro fun _ _ h=>h) (by simp;omega) hx2 rfl ?_;clear H;intro a w H;dsimp only [List.set] at H;obtain ⟨ams,amt⟩:=aqz (x:=[x0,x1]) (ys:=xs.drop (i*2)) (q:=2) hq4 (by omega) rfl (by rw [hyl];omega);refine aD 2 H ?_;clear H;intro a H;refine dI hmx [[],[],[],[1,2],(ra 0 4),[],[],[5,6],(ra 0 8)] [8] (by kernel_rfl) [_,_,_,_,.slice (some ⟨b2,i*2+2,none⟩) (n - i) (cap2 - (i+1)),_,_,.slice (some ⟨b,i*2,none⟩) (n - i) (c - i)] H (aF (Z0 rfl (Rm rfl)) (Z0 rfl (Rm rfl)) (Z0 rfl (Rm rfl)) (Z2 1 47 2 48 rfl (Rd rfl)) (aF ?_ (Z0 rfl (Rm rfl)) (Z0 rfl (Rm rfl)) ?_ (bH (bQ rfl) cO))) ?_
  ·refine dD 0 46 3 49 rfl rfl fun _ a w G1 hG HT H fin=>?_;refine xX iL gM (i+1) H wn rfl rfl (by omega) (by omega) rfl ?_;clear H;intro a H;exact fin H iJ (OW (by omega) (by omega) (by omega) rfl)
  ·refine dD 5 51 6 52 rfl rfl fun _ a w G1 hG HT H fin=>?_;refine xX iL gM i H wn rfl rfl rfl (by omega) rfl ?_;clear H;intro a H;exact fin H iJ (OW (by omega) (by omega) (by omega) rfl)
  clear H;intro a w G kZ H hv;have H:=H.aN (hv 4 50 rfl rfl) rfl;have H:=H.aN (hv 7 53 rfl rfl) rfl;clear hv;refine OM iL gM 0 (n - i) (xs.drop (i*2)) H wn rfl rfl rfl (by omega) hyl (fun j u hj=>H.hp.qH 1 rfl (by simpa using hcd j u hj)) (by rw [DK (by simp;omega),hyl];omega) hy1 rfl ?_;clear H;intro a w H;dsimp only [List.set] at H;refine aC ⟨rfl,?_⟩;refine dQ ?_;refine fM 4 H ?_;clear H;intro a H;refine lr H results241 rfl ?_;exact H.hp.kC (L':=[_]) (List.Sublist.cons_cons _ (List.nil_sublist _)) ⟨by simp [List.length_take,hxl,hyl];omega,.inr ⟨b2,cap2,_,rfl,rfl,hq1,hq2,by rw [List.size_toArray,amt,hq3],by rw [List.toList_toArray];rw [← ams];congr 1;rw [hyl];omega⟩⟩
 intro p31
 refine ak 6 ?_;intro a H;refine DJ iL gM (n+1) H wn rfl rfl (by omega) (by omega) rfl ?_;clear H;refine ak 9 ?_;intro a H;refine xX iL gM (i+1) H wn rfl rfl (by omega) (by omega) rfl ?_;clear H;intro a H;rw [ah (by omega),uf,add_lit,fU] at H;refine aqe (t:=23) (tr:=4) func262 (by kernel_rfl) (by kernel_rfl) (by kernel_rfl) (by kernel_rfl) iL gM H wn rfl rfl (H.ro _ _ hb) (H.hp.own (b,_) (List.mem_singleton_self _)) hbne (by rw [List.size_toArray,hcs];omega) rfl ?_;clear H;refine goC 2 ?_ ?_
 ·intro h68
  try have p68:=dT h68
  refine ak 1 ?_;intro a H;refine dI hmx [[],[],[],[1,2],(ra 0 4),[],[],[5,6],(ra 0 8)] [8] (by kernel_rfl) [_,_,_,_,.slice (some ⟨b,i*2+2,none⟩) (n - i) (c - (i+1)),_,_,.slice (some ⟨b,i*2,none⟩) (n+1 - i) (c - i)] H (aF (Z0 rfl (Rm rfl)) (Z0 rfl (Rm rfl)) (Z0 rfl (Rm rfl)) (Z2 1 70 2 71 rfl (Rd rfl)) (aF ?_ (Z0 rfl (Rm rfl)) (Z0 rfl (Rm rfl)) ?_ (bH (bQ rfl) cO))) ?_
  ·refine dD 0 69 3 72 rfl rfl fun _ a w G1 hG HT H fin=>?_;refine xX iL gM (i+1) H wn rfl rfl (by omega) (by omega) rfl ?_;clear H;intro a H;exact fin H iJ (OW (by omega) (by omega) (by omega) rfl)
  ·refine dD 5 74 6 75 rfl rfl fun _ a w G1 hG HT H fin=>?_;refine xX iL gM i H wn rfl rfl rfl (by omega) rfl ?_;clear H;intro a H;exact fin H iJ (OW (by omega) (by omega) (by omega) rfl)
  clear H;intro a w G Bz H hv;have H:=H.aN (hv 4 73 rfl rfl) rfl;have H:=H.aN (hv 7 76 rfl rfl) rfl;clear hv;refine OM iL gM 0 (n - i) (xs.drop (i*2)) H wn rfl rfl rfl (by omega) hyl (fun j u hj=>H.hp.qH 0 rfl (by simpa using hcd j u hj)) (by rw [hyl];omega) hy1 rfl ?_;clear H;intro a w H;dsimp only [List.set] at H;obtain ⟨amu,amv⟩:=aqA (x:=[x0,x1]) (ys:=xs.drop (i*2)) (q:=2) Nu (by omega) rfl (by rw [hyl];omega);refine aC ⟨rfl,?_⟩;refine dQ ?_;refine fM 3 H ?_;clear H;intro a H;refine xX iL gM i H wn rfl rfl rfl (by omega) rfl ?_;clear H;intro a H;rw [ah (by omega),uf,add_lit,fU] at H;refine aD 1 H ?_;clear H;intro a H;refine OM iL gM 0 1 [x0,x1] H wn rfl rfl rfl (by omega) rfl (hgx H.ro Bz) (by rw [DK (by rw [hyl];omega)];simp;omega) hx2 rfl ?_;clear H;intro a w H;dsimp only [List.set] at H;refine aD 5 H ?_;clear H;intro a H;refine lr H results241 rfl ?_;exact H.hp.dG ⟨by simp [List.length_take,hxl,hyl];omega,.inr ⟨b,c,_,rfl,rfl,by omega,hc2,by rw [List.size_toArray,amv,hcs],by rw [List.toList_toArray];rw [← amu];congr 1;rw [hyl];omega⟩⟩
 intro h68
 intro a H;exact absurd (show true=false from h68) (by decide)
theorem afA (G:GH) (w0:World) (Lo:OL) (hO:fT G Lo w0) (v:aj) (n i:Nat) (xs:List aj) (hrw:bV 187 2 v n xs Lo) (hx1:xs.all Value.oneCell'=true) (hi:i < n) (hn:n≤4294967296) :
  Calls prog 242 #[v,vi i,vi ((i:Int)+1)] w0 (fI w0 G Lo fun u G' L'=>bV 187 2 u (n - 1) (xs.take (i*2)++xs.drop ((i+1)*2)) L'):=by
 have hml:maxLen=9223372036854775807:=rfl;have hxl:=hrw.1;obtain ⟨b,c,cur,rfl,rfl,hc1,hc2,hcs,hct⟩:=hrw.2.resolve_left (fun h=>by omega);obtain ⟨cur,rfl⟩:∃ l:List aj,cur=l.toArray:=⟨cur.toList,by simp⟩
 simp only [List.size_toArray,List.toList_toArray] at hcs hct
 have Nu:cur.take (i*2)=xs.take (i*2):=by rw [← hct,List.take_take,Nat.min_eq_left (by omega)]
 have hcd:∀ j u,(xs.drop ((i+1)*2))[j]?=some u→cur[(i+1)*2+j]?=some u:=fun j u hj=>by
  rw [List.getElem?_drop,← hct,ru] at hj
  split at hj
  ·exact hj
  cases hj
 have hyl:(xs.drop ((i+1)*2)).length=(n - (i+1))*2:=by rw [List.length_drop,hxl];omega
 have hy1:(xs.drop ((i+1)*2)).all Value.oneCell'=true:=jQ.2 fun u hu=>jQ.1 hx1 u (List.mem_of_mem_drop hu)
 obtain ⟨o2,ho2,ho3⟩:∃ o2,(if c=i+1 then some ⟨b,0,none⟩ else (some ⟨b,0,none⟩:Option Addr).map (·.add ((i+1)*2)))=some ⟨b,o2,none⟩∧(i+1 < n→o2=(i+1)*2):=by
  by_cases h:c=i+1
  ·rw [av h];exact ⟨0,rfl,fun h=>by omega⟩
  rw [ah h,uf,add_lit,fU];exact ⟨_,rfl,fun _=>rfl⟩
 have hsd:=aqy (ys:=xs.drop ((i+1)*2)) Nu (by rw [hyl];omega);rw [hyl,show i*2+(n - (i+1))*2=(n - 1)*2 by omega] at hsd;refine jf (N:=33) (T:=[(0,_),(1,_),(2,_)]) func242 rfl ntmps242 rfl rfl hO ?_;intro a H;refine kP H (SQ fun _ K1=>SC (iD K1 rfl (SQ fun _ K2=>SC (Rm rfl (Rm rfl (Rm rfl (Rm rfl (Rl iL rfl ?_))))))));clear H K1;intro a H;refine aqi iL gM i (i+1) n H wn rfl rfl rfl rfl rfl (by omega) rfl (by omega) (by omega) hc1 rfl ?_;clear H;intro v13 a H;refine kH H (Kn K2 (SQ fun _ K3=>SQ fun _ K4=>SC (Rm rfl (Rm rfl (Rc rfl (Kn K4 (Cd rfl ?_ ?_))))))) <;> clear H K2 K4
 ·intro h16 a H
  try have p16:=dT h16
  exfalso;omega
 intro h16 a H
 try have p16:=dF h16
 refine kP H (Kc K3 (SQ fun _ K5=>SC (Rm rfl (Rl iL rfl (iD K5 rfl (SQ fun _ K6=>?_))))));clear H K3 K5;intro a H;refine dI hmx [[],[],[0,1],[],[],[3,4],(ra 0 6),(ra 0 7)] [6,7] (by kernel_rfl) [_,_,.slice (some ⟨b,0,none⟩) i c,_,_,.slice (some ⟨b,o2,none⟩) (n - (i+1)) (c - (i+1))] H (aF (Z0 rfl (Rm rfl)) (Z0 rfl (Rm rfl)) ?_ (Z0 rfl (Rm rfl)) (aF (Z0 rfl (Rm rfl)) ?_ (bQ rfl) (bQ rfl) cO)) ?_
 ·refine dD 0 20 1 21 rfl rfl fun _ a w G1 hG HT H fin=>?_;refine DJ iL gM i H wn rfl rfl rfl (by omega) rfl ?_;clear H;intro a H;exact fin H iJ rfl
 ·refine dD 3 23 4 24 rfl rfl fun _ a w G1 hG HT H fin=>?_;refine xX iL gM (i+1) H wn rfl rfl (by omega) (by omega) rfl ?_;clear H;intro a H;exact fin H iJ (aB (fun A=>Value.slice A (n - (i+1)) (c - (i+1))) ho2)
 clear H;intro a w G kS H hv;have H:=H.aN (hv 2 22 rfl rfl) rfl;have H:=H.aN (hv 5 25 rfl rfl) rfl;clear hv
 refine apQ iL gM 0 (xs.drop ((i+1)*2)) H wn rfl rfl rfl hyl (fun j u hj=>H.hp.qH 0 rfl (by
  have hj2:=(jy.1 hj).1;rw [hyl] at hj2
  rw [ho3 (by omega)];simpa using hcd j u hj)) hy1 (by omega) (by rw [hyl];omega) rfl ?_;clear H;intro a w H
 dsimp only [List.set] at H;rw [show i+(n - (i+1))=n - 1 by omega] at H;refine kH H (Ra rfl ?_);clear H;intro a H;refine aC ⟨rfl,?_⟩;refine K6 _ _ ?_;clear K6;refine kP H (SQ fun _ K7=>SC (Rm rfl (Rm rfl (Rl iL rfl (Rm rfl ?_)))));clear H;intro a H;refine aqh iL gM (n - 1) n H wn rfl rfl rfl rfl rfl (by omega) (by omega) rfl ?_;clear H;intro a H;rw [ah (by omega),uf,add_lit,fU,show n - (n - 1)=1 by omega] at H;refine abG iL gM rfl rfl 0 H wn rfl rfl (by omega) (by rw [DK (by rw [hyl];omega)];omega) ?_;clear H;intro c2 w hq1 hq2 H;dsimp only [List.set] at H;exact kH H (Kn K7 (SQ fun _ K8=>SC (Rm rfl (iD K8 rfl (LR results242 rfl fun H=>H.hp.dG ⟨by simp [List.length_take,hxl];omega,.inr ⟨b,c,_,rfl,rfl,by omega,hc2,by rw [List.size_toArray,hq1,DK (by rw [hyl];omega),hcs],by rw [List.toList_toArray,hq2,hsd]⟩⟩)))))
def DL (l:List aT) (k v:Int):List aT:=if nM (l.map aT.key) k=true then l.set (gW (l.map aT.key) k) ⟨(l.getD (gW (l.map aT.key) k) ⟨0,0⟩).key,v⟩ else l.take (gW (l.map aT.key) k)++⟨k,v⟩ :: l.drop (gW (l.map aT.key) k)
def CU (l:List aT) (k:Int):List aT:=if nM (l.map aT.key) k=true then l.take (gW (l.map aT.key) k)++l.drop (gW (l.map aT.key) k+1) else l
theorem ML (l:List aT) (i:Nat) (h:i≤l.length):(kN l).take (i*2)=kN (l.take i)∧(kN l).drop (i*2)=kN (l.drop i):=by
 have e:kN l=kN (l.take i)++kN (l.drop i):=by rw [← Jh,List.take_append_drop]
 have hl:(kN (l.take i)).length=i*2:=by rw [QA,List.length_take,Nat.min_eq_left h]
 rw [e];exact ⟨by rw [List.take_append_of_le_length (by omega),fJ (by omega)],by rw [List.drop_append_of_le_length (by omega),ku (by omega),oD]⟩
theorem Xi (l:List aT):(kN l).all Value.oneCell'=true:=by
 rw [jQ];intro u hu;obtain ⟨cs,hcs,hu⟩:=List.mem_flatten.1 hu;obtain ⟨p,-,rfl⟩:=List.mem_map.1 hcs
 simp only [aT.cells,kg,List.mem_nil_iff,or_false] at hu
 rcases hu with rfl|rfl <;> rfl
theorem afw (l:List aT) (i:Nat) (h:i < l.length) (v:Int):(kN l).set (i*2+1) (vi v)=kN (l.set i ⟨l[i].key,v⟩):=by
 have e:kN l=kN (l.take i)++([vi l[i].key,vi l[i].value]++kN (l.drop (i+1))):=by
  conv=>lhs;rw [← List.take_append_drop i l,pJ h,Jh]
  rfl
 have hl:(kN (l.take i)).length=i*2:=by rw [QA,List.length_take,Nat.min_eq_left (by omega)]
 rw [e,List.set_append_right _ _ (by omega),hl,show i*2+1 - i*2=1 by omega,show ([vi l[i].key,vi l[i].value]++kN (l.drop (i+1))).set 1 (vi v)=[vi l[i].key,vi v]++kN (l.drop (i+1)) from rfl,List.set_eq_take_append_cons_drop (l:=l),av h,Jh]
 rfl
theorem aqF (G:GH) (w0:World) (hG:Hold G w0) (l:List aT) (k x:Int) (v:aj) (hv:au G (.sl 2 (l.map aT.dat)) v) (hl:l.length≤4294967295) :
  Calls prog 214 #[v,vi k,vi x] w0 (bC w0 G fun u G'=>au G' (.sl 2 ((DL l k x).map aT.dat)) u):=by
 obtain ⟨A,c,rfl,hc1,hc2,-⟩:=hv.slice;rw [bM] at *;refine eN [(0,_),(1,_),(2,_)] func214 rfl ntmps214 rfl rfl hG ?_;refine ak 6 ?_;intro a H;refine s_call QS H wn rfl (U1 _ _ H.ro l k _ hv (by omega)) rfl ?_;clear H;rintro v13 D6 a w rfl za H;obtain ⟨n,hn⟩:∃ n,n=gW (l.map aT.key) k:=⟨_,rfl⟩;obtain ⟨q,hq⟩:∃ q,q=nM (l.map aT.key) k:=⟨_,rfl⟩;rw [← hn,← hq] at H;refine aD 1 H ?_;clear H;intro a H;(iterate 2 refine jY H wn rfl rfl rfl ?_;clear H;intro a H);refine aD 5 H ?_;clear H;intro a H;refine gy QI (Li:=[]) (L:=[]) H wn rfl (abb (Hp.owns (Li:=[]) H.hp) l _ (hv.mono za) (by omega)) rfl ?_;clear H;rintro v17 yE PW a w NR qR H;dsimp only [List.nil_append] at H;obtain ⟨A17,c17,rfl,-,-⟩:=NR.shape;refine gF 6 H ?_ ?_ <;> clear H
 ·intro qI
  have hlt:n < l.length:=by
   have:=JL (ks:=l.map aT.key) (t:=k) (by rw [← hq];assumption);rw [← hn] at this;simpa using this
  obtain ⟨bb,rfl⟩:=NR.ptr (by omega);obtain ⟨cur,-,rfl,hcur,hset⟩:=NR.set1;refine ak 4 ?_;intro a H;refine wU iL gM n H wn rfl rfl rfl (by omega) rfl ?_;clear H;refine ak 1 ?_;intro a H;refine aX bR 0 (c:=cur) (vs:=[vi x]) (cur.set (n*2+1) (vi x)) H wn rfl rfl rfl rfl rfl rfl (by simp;omega) (by rw [fU];rfl) ?_;clear H;intro w H;dsimp only [List.set] at H;have hrwn:=hset (n*2+1) (vi x);rw [afw l n hlt] at hrwn;obtain ⟨G',hm',hrep,H⟩:=St.mR (Li:=[]) H hrwn (rows:=(l.set n ⟨l[n].key,x⟩).map aT.dat) (by simp) (Oy _ _);refine fu 5 H ?_;rw [DL,av (by rw [← hq];assumption),← hn,List.getD_eq_getElem?_getD,eO hlt];exact hrep
 intro qI
 refine ak 6 ?_;intro a H;refine jh arl [_,_] H wn rfl rfl rfl rfl ?_;clear H;intro a H;refine gG iL gM [_,_] [_,_] H wn rfl rfl rfl rfl rfl (by intro i q h;match i,h with|0,h=>exact h|n+1,h=>simp at h) rfl rfl ?_;clear H;intro WB a w akJ H;obtain ⟨Gb,hmb,akK,H⟩:=H.eu;refine gy ahy (Li:=[]) (L:=PW) H wn rfl (amY _ _ PW (Hp.owns (Li:=[]) H.hp) _ l.length n (kN l) NR (Xi l) (by rw [hn];exact Nat.le_trans (Eh _ _) (by simp)) (by omega) WB (vi k) (vi x) akK rfl rfl) rfl ?_;clear H;rintro v31 G31 L31 a w NS atw H;rw [(ML l n (by rw [hn];exact Nat.le_trans (Eh _ _) (by simp))).1,(ML l n (by rw [hn];exact Nat.le_trans (Eh _ _) (by simp))).2] at NS
 obtain ⟨G',hm',hrep,H⟩:=St.mR (Li:=[]) H NS (rows:=(l.take n++⟨k,x⟩ :: l.drop n).map aT.dat) (by simp;have:=Eh (l.map aT.key) k;rw [← hn] at this;simp at this;omega) (by
  have h:bU G31 2 ((l.take n++⟨k,x⟩ :: l.drop n).map aT.dat) (kN (l.take n++⟨k,x⟩ :: l.drop n)):=Oy _ _;rw [Jh] at h
  simpa [kN,aT.cells] using h)
 refine fu 2 H ?_;rw [DL,ah (by rw [← hq];simp_all),← hn];exact hrep
theorem aeP (G:GH) (w0:World) (hG:Hold G w0) (l:List aT) (k:Int) (v:aj) (hv:au G (.sl 2 (l.map aT.dat)) v) (hl:l.length≤4294967295) :
  Calls prog 215 #[v,vi k] w0 (bC w0 G fun u G'=>au G' (.sl 2 ((CU l k).map aT.dat)) u):=by
 obtain ⟨A,c,rfl,hc1,hc2,-⟩:=hv.slice;rw [bM] at *;refine eN [(0,_),(1,_)] func215 rfl ntmps215 rfl rfl hG ?_;refine ak 6 ?_;intro a H;refine s_call QS H wn rfl (U1 _ _ H.ro l k _ hv (by omega)) rfl ?_;clear H;rintro v11 qX a w rfl BI H;obtain ⟨n,hn⟩:∃ n,n=gW (l.map aT.key) k:=⟨_,rfl⟩;obtain ⟨q,hq⟩:∃ q,q=nM (l.map aT.key) k:=⟨_,rfl⟩;rw [← hn,← hq] at H;refine aD 1 H ?_;clear H;intro a H;(iterate 2 refine jY H wn rfl rfl rfl ?_;clear H;intro a H);refine aD 5 H ?_;clear H;intro a H;refine gy QI (Li:=[]) (L:=[]) H wn rfl (abb (Hp.owns (Li:=[]) H.hp) l _ (hv.mono BI) (by omega)) rfl ?_;clear H;rintro v15 Bg PV a w Tk ze H;dsimp only [List.nil_append] at H;obtain ⟨VB,c15,rfl,-,-⟩:=Tk.shape;refine gF 6 H ?_ ?_ <;> clear H
 ·intro p16
  have hlt:n < l.length:=by
   have:=JL (ks:=l.map aT.key) (t:=k) (by rw [← hq];assumption);rw [← hn] at this;simpa using this
  refine ak 5 ?_;intro a H;refine gy ahz (Li:=[]) (L:=PV) H wn rfl (afA _ _ PV (Hp.owns (Li:=[]) H.hp) _ l.length n (kN l) Tk (Xi l) hlt (by omega)) rfl ?_;clear H;rintro v21 PE L21 a w ZT Am H;rw [(ML l n (by omega)).1,(ML l (n+1) (by omega)).2,← Jh] at ZT;obtain ⟨G',hm',hrep,H⟩:=St.mR (Li:=[]) H ZT (rows:=(l.take n++l.drop (n+1)).map aT.dat) (by simp;omega) (Oy _ _);refine fu 6 H ?_;rw [CU,av (by rw [← hq];assumption),← hn];exact hrep
 intro p16
 intro a H;obtain ⟨G',hm',hrep,H⟩:=St.mR (Li:=[]) H Tk (rows:=l.map aT.dat) (by simp) (Oy _ _);refine uy 5 H ?_;rw [CU,ah (by rw [← hq];simp_all)];exact hrep
end
section
open Go.RowKit
theorem aiV:LP prog 187 [(0,false),(1,false)]:=⟨by kernel_rfl,by kernel_rfl,by kernel_rfl,by kernel_rfl,by kernel_rfl⟩
theorem aiT:LP prog 159 [(0,false),(1,false)]:=⟨by kernel_rfl,by kernel_rfl,by kernel_rfl,by kernel_rfl,by kernel_rfl⟩
theorem aiU:LP prog 161 [(0,false),(1,false),(2,false),(3,true)]:=⟨by kernel_rfl,by kernel_rfl,by kernel_rfl,by kernel_rfl,by kernel_rfl⟩
theorem XE:∀ args w,(callFunc 102 args).run prog w=.ok (.enter 102 args) w:=enters func102 rfl (by kernel_rfl)
instance CY:dR prog 27 0 0:=⟨by kernel_rfl⟩
instance Yi:dR prog 27 1 1:=⟨by kernel_rfl⟩
theorem afP:∀ args w,(callFunc 103 args).run prog w=.ok (.enter 103 args) w:=enters func103 rfl (by kernel_rfl)
theorem afQ:∀ args w,(callFunc 104 args).run prog w=.ok (.enter 104 args) w:=enters func104 rfl (by kernel_rfl)
abbrev fF.cells (x:fF):List aj:=[vi x.rev,vi x.move]
abbrev cK.cells (x:cK):List aj:=[vi x.rev,vi x.key,vi x.before,.bool x.had]
theorem Jk {G:GH} {x:fF} {cs:List aj} (h:aU G x.dat cs):cs=x.cells:=by
 simp only [fF.dat,aU,au] at h
 obtain ⟨_,_,rfl,⟨rfl,_⟩,_,_,rfl,⟨rfl,_⟩,rfl⟩:=h
 rfl
theorem TW {G:GH} {x:cK} {cs:List aj} (h:aU G x.dat cs):cs=x.cells:=by
 simp only [cK.dat,aU,au] at h
 obtain ⟨_,_,rfl,⟨rfl,_⟩,_,_,rfl,⟨rfl,_⟩,_,_,rfl,⟨rfl,_⟩,_,_,rfl,⟨rfl,_⟩,rfl⟩:=h
 rfl
theorem aT.eq_iff (a b:aT):(a.key=b.key∧a.value=b.value)↔a=b:=by cases a;cases b;simp
theorem fF.eq_iff (a b:fF):(a.rev=b.rev∧a.move=b.move)↔a=b:=by cases a;cases b;simp
theorem cK.eq_iff (a b:cK):(a.rev=b.rev∧a.key=b.key∧a.before=b.before∧a.had=b.had)↔a=b:=by cases a;cases b;simp
instance:DecidableEq aT:=fun a b=>decidable_of_iff _ (aT.eq_iff a b)
instance:DecidableEq fF:=fun a b=>decidable_of_iff _ (fF.eq_iff a b)
instance:DecidableEq cK:=fun a b=>decidable_of_iff _ (cK.eq_iff a b)
theorem anV (a b:aT):(!([(0,false),(1,false)].all fun o=>kQ #[vi a.key,vi a.value] o == kQ #[vi b.key,vi b.value] o))=!decide (a=b):=by
 have h:=aT.eq_iff a b;rw [mF]
 simp only [uh,mM]
 rw [← h]
 simp [kQ]
theorem anT (a b:fF):(!([(0,false),(1,false)].all fun o=>kQ #[vi a.rev,vi a.move] o == kQ #[vi b.rev,vi b.move] o))=!decide (a=b):=by
 have h:=fF.eq_iff a b;rw [mF]
 simp only [uh,mM]
 rw [← h]
 simp [kQ]
theorem anU (a b:cK):(!([(0,false),(1,false),(2,false),(3,true)].all fun o=>kQ #[vi a.rev,vi a.key,vi a.before,.bool a.had] o == kQ #[vi b.rev,vi b.key,vi b.before,.bool b.had] o))=!decide (a=b):=by
 have h:=cK.eq_iff a b;rw [mF]
 simp only [uh,mM]
 rw [← h]
 simp [kQ]
theorem X8 (G:GH) (w0:World) (hG:Hold G w0) (A B:List aT) (v u:aj) (hv:au G (.sl 2 (A.map aT.dat)) v) (hu:au G (.sl 2 (B.map aT.dat)) u) :
  Calls prog 102 #[v,u] w0 (bC w0 G fun r G'=>r=.bool (decide (A=B))):=by
 obtain ⟨vA,vc,rfl,hc1,hc2,hg⟩:=hv.slice;obtain ⟨uA,uc,rfl,hd1,hd2,hh⟩:=hu.slice;have hml:maxLen=9223372036854775807:=rfl;(iterate 2 rw [bM] at *);refine eN [(0,_),(1,_)] func102 rfl ntmps102 rfl rfl hG ?_;refine goB 11 ?_ ?_
 ·intro gX
  refine aP 3 ?_;exact (dB (iY fun e=>absurd (aB List.length e) (by omega)).symm)
 intro gX
 refine ak 8 ?_;intro a H;refine eH (ι:=Nat × GH) (Tc:=[(0,_),(1,_),(12,_)]) (Lc:=[]) (fun gh=>[(13,vi gh.1)]) (fun gh=>[]) (fun gh=>gh.2) (fun gh=>gh.1≤A.length∧A.take gh.1=B.take gh.1∧(∀ b o,G b=some o→gh.2 b=some o)) (fun gh=>A.length - gh.1) ((0,G)) sB ?_ ?_
 ·exact ⟨by omega,rfl,fun _ _ h=>h⟩
 clear H;rintro ⟨k,g⟩ a w hI H;dsimp only at hI H;obtain ⟨hk,hsame,hgm⟩:=hI;dsimp only [lca,bG] at H;refine dO 4 H ?_ ?_ <;> clear H
 ·intro jX
  have hk2:k < A.length:=by omega
  have hk3:k < B.length:=by omega
  obtain ⟨b1,o1,cs1,rfl,yX,mH,hr1⟩:=hg k A[k].dat (by simp [hk2]);obtain rfl:=Ox hr1;obtain ⟨b2,o2,cs2,rfl,yY,hrow2,hr2⟩:=hh k B[k].dat (by simp [hk3]);obtain rfl:=Ox hr2;refine ak 8 ?_;intro a H;refine dI hmx [[],[],[0,1],[0,1,2],[],[],[4,5],[4,5,6],(ra 0 8)] [] (by kernel_rfl) [_,_,_,.agg A[k].cells.toArray,_,_,_,.agg B[k].cells.toArray,.bool (!decide (A[k]=B[k]))] H (aF (Z0 rfl (Rm rfl)) (Z0 rfl (Rm rfl)) (Z2 0 16 1 17 rfl (Ri iL gM rfl rfl)) ?_ (aF (Z0 rfl (Rm rfl)) (Z0 rfl (Rm rfl)) (Z2 4 20 5 21 rfl (Ri iL gM rfl rfl)) ?_ (bH ?_ cO))) ?_
  ·refine dZ 2 18 rfl rfl fun _ a w G1 hG HT H fin=>?_;refine aR gM (cs:=A[k].cells) H wn rfl rfl (fun j v hj=>H.hp.aI (aH hG (aH hgm (mH j v hj)))) rfl ?_;clear H;intro a H;exact fin H iJ rfl
  ·refine dZ 6 22 rfl rfl fun _ a w G1 hG HT H fin=>?_;refine aR gM (cs:=B[k].cells) H wn rfl rfl (fun j v hj=>H.hp.aI (aH hG (aH hgm (hrow2 j v hj)))) rfl ?_;clear H;intro a H;exact fin H iJ rfl
  ·refine dD 3 19 7 23 rfl rfl fun _ a w G1 hG HT H fin=>?_;refine UY (.inr rfl) aiV H wn rfl rfl rfl rfl ?_;clear H;intro a H;exact fin H iJ (dB (anV A[k] B[k]))
  clear H;intro a w G gD H hv;have H:=H.aN (hv 8 24 rfl rfl) rfl;clear hv;refine t0 1 H ?_;clear H;refine goC 0 ?_ ?_
  ·intro fB
   refine aP 3 ?_;exact (dB (iY fun e=>absurd fB (by subst e;simp)).symm)
  intro fB
  try have jq:=dF fB
  have hsm:A[k]=B[k]:=by simpa using fB
  refine ak 4 ?_;intro a H;refine aC ?_;refine cB ((k+1,G)) sB ?_ ?_
  ·(try dsimp only);exact ⟨by omega,by rw [fP hk2,fP hk3,hsame,hsm],fun b o h=>gD b o (hgm b o h)⟩
  first|omega|(dsimp only;omega)
 intro jX
 refine aP 4 ?_;exact (dB (iQ (by rw [fJ (by omega),fJ (by omega)] at hsame;exact hsame)).symm)
theorem aiA (G:GH) (w0:World) (hG:Hold G w0) (A B:List fF) (v u:aj) (hv:au G (.sl 2 (A.map fF.dat)) v) (hu:au G (.sl 2 (B.map fF.dat)) u) :
  Calls prog 103 #[v,u] w0 (bC w0 G fun r G'=>r=.bool (decide (A=B))):=by
 obtain ⟨vA,vc,rfl,hc1,hc2,hg⟩:=hv.slice;obtain ⟨uA,uc,rfl,hd1,hd2,hh⟩:=hu.slice;have hml:maxLen=9223372036854775807:=rfl;(iterate 2 rw [bM] at *);refine eN [(0,_),(1,_)] func103 rfl ntmps103 rfl rfl hG ?_;refine goB 11 ?_ ?_
 ·intro gX
  refine aP 3 ?_;exact (dB (iY fun e=>absurd (aB List.length e) (by omega)).symm)
 intro gX
 refine ak 8 ?_;intro a H;refine eH (ι:=Nat × GH) (Tc:=[(0,_),(1,_),(12,_)]) (Lc:=[]) (fun gh=>[(13,vi gh.1)]) (fun gh=>[]) (fun gh=>gh.2) (fun gh=>gh.1≤A.length∧A.take gh.1=B.take gh.1∧(∀ b o,G b=some o→gh.2 b=some o)) (fun gh=>A.length - gh.1) ((0,G)) sB ?_ ?_
 ·exact ⟨by omega,rfl,fun _ _ h=>h⟩
 clear H;rintro ⟨k,g⟩ a w hI H;dsimp only at hI H;obtain ⟨hk,hsame,hgm⟩:=hI;dsimp only [lca,bG] at H;refine dO 4 H ?_ ?_ <;> clear H
 ·intro jX
  have hk2:k < A.length:=by omega
  have hk3:k < B.length:=by omega
  obtain ⟨b1,o1,cs1,rfl,yX,mH,hr1⟩:=hg k A[k].dat (by simp [hk2]);obtain rfl:=Jk hr1;obtain ⟨b2,o2,cs2,rfl,yY,hrow2,hr2⟩:=hh k B[k].dat (by simp [hk3]);obtain rfl:=Jk hr2;refine ak 8 ?_;intro a H;refine dI hmx [[],[],[0,1],[0,1,2],[],[],[4,5],[4,5,6],(ra 0 8)] [] (by kernel_rfl) [_,_,_,.agg A[k].cells.toArray,_,_,_,.agg B[k].cells.toArray,.bool (!decide (A[k]=B[k]))] H (aF (Z0 rfl (Rm rfl)) (Z0 rfl (Rm rfl)) (Z2 0 16 1 17 rfl (Ri yj ow rfl rfl)) ?_ (aF (Z0 rfl (Rm rfl)) (Z0 rfl (Rm rfl)) (Z2 4 20 5 21 rfl (Ri yj ow rfl rfl)) ?_ (bH ?_ cO))) ?_
  ·refine dZ 2 18 rfl rfl fun _ a w G1 hG HT H fin=>?_;refine aR ow (cs:=A[k].cells) H wn rfl rfl (fun j v hj=>H.hp.aI (aH hG (aH hgm (mH j v hj)))) rfl ?_;clear H;intro a H;exact fin H iJ rfl
  ·refine dZ 6 22 rfl rfl fun _ a w G1 hG HT H fin=>?_;refine aR ow (cs:=B[k].cells) H wn rfl rfl (fun j v hj=>H.hp.aI (aH hG (aH hgm (hrow2 j v hj)))) rfl ?_;clear H;intro a H;exact fin H iJ rfl
  ·refine dD 3 19 7 23 rfl rfl fun _ a w G1 hG HT H fin=>?_;refine UY (.inr rfl) aiT H wn rfl rfl rfl rfl ?_;clear H;intro a H;exact fin H iJ (dB (anT A[k] B[k]))
  clear H;intro a w G gD H hv;have H:=H.aN (hv 8 24 rfl rfl) rfl;clear hv;refine t0 1 H ?_;clear H;refine goC 0 ?_ ?_
  ·intro fB
   refine aP 3 ?_;exact (dB (iY fun e=>absurd fB (by subst e;simp)).symm)
  intro fB
  try have jq:=dF fB
  have hsm:A[k]=B[k]:=by simpa using fB
  refine ak 4 ?_;intro a H;refine aC ?_;refine cB ((k+1,G)) sB ?_ ?_
  ·(try dsimp only);exact ⟨by omega,by rw [fP hk2,fP hk3,hsame,hsm],fun b o h=>gD b o (hgm b o h)⟩
  first|omega|(dsimp only;omega)
 intro jX
 refine aP 4 ?_;exact (dB (iQ (by rw [fJ (by omega),fJ (by omega)] at hsame;exact hsame)).symm)
theorem aiG (G:GH) (w0:World) (hG:Hold G w0) (A B:List cK) (v u:aj) (hv:au G (.sl 4 (A.map cK.dat)) v) (hu:au G (.sl 4 (B.map cK.dat)) u) :
  Calls prog 104 #[v,u] w0 (bC w0 G fun r G'=>r=.bool (decide (A=B))):=by
 obtain ⟨vA,vc,rfl,hc1,hc2,hg⟩:=hv.slice;obtain ⟨uA,uc,rfl,hd1,hd2,hh⟩:=hu.slice;have hml:maxLen=9223372036854775807:=rfl;(iterate 2 rw [bM] at *);refine eN [(0,_),(1,_)] func104 rfl ntmps104 rfl rfl hG ?_;refine goB 11 ?_ ?_
 ·intro gX
  refine aP 3 ?_;exact (dB (iY fun e=>absurd (aB List.length e) (by omega)).symm)
 intro gX
 refine ak 8 ?_;intro a H;refine eH (ι:=Nat × GH) (Tc:=[(0,_),(1,_),(12,_)]) (Lc:=[]) (fun gh=>[(13,vi gh.1)]) (fun gh=>[]) (fun gh=>gh.2) (fun gh=>gh.1≤A.length∧A.take gh.1=B.take gh.1∧(∀ b o,G b=some o→gh.2 b=some o)) (fun gh=>A.length - gh.1) ((0,G)) sB ?_ ?_
 ·exact ⟨by omega,rfl,fun _ _ h=>h⟩
 clear H;rintro ⟨k,g⟩ a w hI H;dsimp only at hI H;obtain ⟨hk,hsame,hgm⟩:=hI;dsimp only [lca,bG] at H;refine dO 4 H ?_ ?_ <;> clear H
 ·intro jX
  have hk2:k < A.length:=by omega
  have hk3:k < B.length:=by omega
  obtain ⟨b1,o1,cs1,rfl,yX,mH,hr1⟩:=hg k A[k].dat (by simp [hk2]);obtain rfl:=TW hr1;obtain ⟨b2,o2,cs2,rfl,yY,hrow2,hr2⟩:=hh k B[k].dat (by simp [hk3]);obtain rfl:=TW hr2;refine ak 8 ?_;intro a H;refine dI hmx [[],[],[0,1],[0,1,2],[],[],[4,5],[4,5,6],(ra 0 8)] [] (by kernel_rfl) [_,_,_,.agg A[k].cells.toArray,_,_,_,.agg B[k].cells.toArray,.bool (!decide (A[k]=B[k]))] H (aF (Z0 rfl (Rm rfl)) (Z0 rfl (Rm rfl)) (Z2 0 16 1 17 rfl (Ri oz jv rfl rfl)) ?_ (aF (Z0 rfl (Rm rfl)) (Z0 rfl (Rm rfl)) (Z2 4 20 5 21 rfl (Ri oz jv rfl rfl)) ?_ (bH ?_ cO))) ?_
  ·refine dZ 2 18 rfl rfl fun _ a w G1 hG HT H fin=>?_;refine aR jv (cs:=A[k].cells) H wn rfl rfl (fun j v hj=>H.hp.aI (aH hG (aH hgm (mH j v hj)))) rfl ?_;clear H;intro a H;exact fin H iJ rfl
  ·refine dZ 6 22 rfl rfl fun _ a w G1 hG HT H fin=>?_;refine aR jv (cs:=B[k].cells) H wn rfl rfl (fun j v hj=>H.hp.aI (aH hG (aH hgm (hrow2 j v hj)))) rfl ?_;clear H;intro a H;exact fin H iJ rfl
  ·refine dD 3 19 7 23 rfl rfl fun _ a w G1 hG HT H fin=>?_;refine UY (.inr rfl) aiU H wn rfl rfl rfl rfl ?_;clear H;intro a H;exact fin H iJ (dB (anU A[k] B[k]))
  clear H;intro a w G gD H hv;have H:=H.aN (hv 8 24 rfl rfl) rfl;clear hv;refine t0 1 H ?_;clear H;refine goC 0 ?_ ?_
  ·intro fB
   refine aP 3 ?_;exact (dB (iY fun e=>absurd fB (by subst e;simp)).symm)
  intro fB
  try have jq:=dF fB
  have hsm:A[k]=B[k]:=by simpa using fB
  refine ak 4 ?_;intro a H;refine aC ?_;refine cB ((k+1,G)) sB ?_ ?_
  ·(try dsimp only);exact ⟨by omega,by rw [fP hk2,fP hk3,hsame,hsm],fun b o h=>gD b o (hgm b o h)⟩
  first|omega|(dsimp only;omega)
 intro jX
 refine aP 4 ?_;exact (dB (iQ (by rw [fJ (by omega),fJ (by omega)] at hsame;exact hsame)).symm)
theorem dW.eq_iff (a b:dW):(((a.props=b.props∧a.marks.ins=b.marks.ins)∧a.marks.move=b.marks.move)∧a.marks.bL=b.marks.bL)∧a.marks.layers=b.marks.layers↔a=b:=by
 obtain ⟨p,i,m,d,l⟩:=a;obtain ⟨p2,i2,m2,d2,l2⟩:=b
 simp [and_assoc]
instance:DecidableEq dW:=fun a b=>decidable_of_iff _ (dW.eq_iff a b)
abbrev oW (h:dW) (p d l:aj):aj:=.agg #[p,vi h.marks.ins,vi h.marks.move,d,l]
theorem GK (G:GH) (w0:World) (hG:Hold G w0) (x y:dW) (p d l p2 d2 l2:aj) (hx:fD G x p d l) (hy:fD G y p2 d2 l2) :
  Calls prog 52 #[oW x p d l,oW y p2 d2 l2] w0 (bC w0 G fun r G'=>r=.bool (decide (x=y))):=by
 obtain ⟨pA,pc,rfl,-,-,-⟩:=hx.props.slice;obtain ⟨dA,dc,rfl,-,-,-⟩:=hx.bL.slice;obtain ⟨lA,lc,rfl,-,-,-⟩:=hx.layers.slice;obtain ⟨Io,pc2,rfl,-,-,-⟩:=hy.props.slice;obtain ⟨Gx,GA,rfl,-,-,-⟩:=hy.bL.slice;obtain ⟨lA2,lc2,rfl,-,-,-⟩:=hy.layers.slice;have he:=dW.eq_iff x y;refine eN [(0,_),(1,_)] func52 rfl ntmps52 rfl rfl hG ?_;refine ak 1 ?_;intro a H;refine dP (cs:=[_,_,_,_,_]) H wn rfl rfl rfl ?_;clear H;intro b2 a w hb2 H;refine dP (cs:=[_,_,_,_,_]) H wn rfl rfl rfl ?_;clear H;intro b3 a w hb3 H;refine aD 7 H ?_;clear H;intro a H;refine s_call XE H wn rfl (X8 _ _ H.ro x.props y.props _ _ hx.props hy.props) rfl ?_;clear H;rintro v9 G9 a w rfl zk H;refine pU 1 10 H ?_ ?_ <;> clear H
 ·intro gX
  refine lU 9 19 ?_ ?_
  ·intro rX
   refine jM 9 28 ?_ ?_
   ·intro vC
    try have p28:=dT vC
    refine ak 6 ?_;intro a H;refine s_call afP H (wg H rfl rfl vC) rfl (aiA _ _ H.ro x.marks.bL y.marks.bL _ _ (hx.bL.mono zk) (hy.bL.mono zk)) rfl ?_;clear H;rintro v35 VO a w rfl Zl H;refine kJ 2 37 H ?_ ?_ <;> clear H
    ·intro h37
     try have p37:=dT h37
     refine ak 6 ?_;intro a H;refine s_call afQ H (wg H rfl rfl h37) rfl (aiG _ _ H.ro x.marks.layers y.marks.layers _ _ ((hx.layers.mono zk).mono Zl) ((hy.layers.mono zk).mono Zl)) rfl ?_;clear H;rintro v44 VQ a w rfl JW H;refine fu 3 H ?_;exact (dB (by simp_all))
    intro h37
    try have p37:=dF h37
    refine aP 10 ?_;exact (dB (by simp_all))
   intro vC
   try have p28:=dF vC
   refine aP 19 ?_;exact (dB (by simp_all))
  intro rX
  refine aP 28 ?_;exact (dB (by simp_all))
 intro gX
 refine aP 37 ?_;exact (dB (by simp_all))
end
section
open Go.RowKit
def pR:Nat→List cK→List (Int × List cK)
 | 0,_=>[]
 | _+1,[]=>[]
 | f+1,y :: r=>(y.key,y :: r.takeWhile fun z=>decide (z.key=y.key)) :: pR f (r.dropWhile fun z=>decide (z.key=y.key))
def mQ (acc:Int→Bool):List cK→Nat→Nat→Nat
 | [],_,c=>c
 | y :: r,k,c=>mQ acc r (k+1) (if acc y.rev=true then k+1 else c)
def vQ (rej:Int→Bool) (vZ:List (Int × Bool)):List cK→Nat→Int × Bool→List cK × (Int × Bool)
 | [],_,now=>([],now)
 | y :: r,k,now=>if rej y.rev=true then vQ rej vZ r (k+1) now else
  let q:=vQ rej vZ r (k+1) (vZ.getD (k+1) (0,false))
  (⟨y.rev,y.key,now.1,now.2⟩ :: q.1,q.2)
def pF (props:List aT) (key:Int) (l:List cK):List (Int × Bool):=l.map (fun y=>(y.before,y.had))++[yN props key]
def qE (acc rej:Int→Bool) (props:List aT) (key:Int) (l:List cK):List cK × (Int × Bool) :=
 vQ rej (pF props key l) (l.drop (mQ acc l 0 0)) (mQ acc l 0 0) ((pF props key l).getD (mQ acc l 0 0) (0,false))
def yu (l:List aT) (k:Int) (s:Int × Bool):List aT:=if s.2=true then DL l k s.1 else CU l k
def vw (acc rej:Int→Bool) (props:List aT):List (Int × List cK)→List aT × List cK→List aT × List cK
 | [],s=>s
 | (k,l) :: r,s=>vw acc rej props r (yu s.1 k (qE acc rej props k l).2,s.2++(qE acc rej props k l).1)
def kX (acc rej:Int→Bool) (h:dW):Prop:=(h.marks.ins≠0∧rej h.marks.ins=true)∨∃ x∈h.marks.bL,acc x.rev=true
instance (acc rej:Int→Bool) (h:dW):Decidable (kX acc rej h):=inferInstanceAs (Decidable (_∨_))
def tK (acc:Int→Bool) (h:dW):Prop:=h.marks.ins≠0∧acc h.marks.ins=true
instance (acc:Int→Bool) (h:dW):Decidable (tK acc h):=inferInstanceAs (Decidable (_∧_))
def lF (acc rej:Int→Bool) (h:dW):dW :=
 let q:=vw acc rej h.props (pR h.marks.layers.length h.marks.layers) (h.props,[])
 ⟨q.1,⟨if tK acc h then 0 else h.marks.ins,if tK acc h then 0 else h.marks.move,h.marks.bL.filter fun x=>!rej x.rev,q.2⟩⟩
def zM:dW:=⟨[],⟨0,0,[],[]⟩⟩
def Wp (b:Bool) (h:dW) (u:aj) (G:GH):Prop:=∃ p d l,u=.tuple #[oW h p d l,.bool b]∧fD G h p d l
theorem FN (G:GH):fD G zM (.slice none 0 0) (.slice none 0 0) (.slice none 0 0):=⟨au.iH rfl (by decide),au.iH rfl (by decide),au.iH rfl (by decide)⟩
theorem aqC (l:List aT) (k v:Int):(DL l k v).length≤l.length+1:=by
 unfold DL;split
 ·rw [List.length_set];omega
 have:=Eh (l.map aT.key) k;rw [bM] at this
 simp only [iA,List.length_take,kr,List.length_drop];omega
theorem afi (l:List aT) (k:Int):(CU l k).length≤l.length:=by
 unfold CU;split
 ·have:=Eh (l.map aT.key) k;rw [bM] at this
  simp only [iA,List.length_take,List.length_drop];omega
 exact bP _
theorem acQ (l:List aT) (k:Int) (s:Int × Bool):(yu l k s).length≤l.length+1:=by
 unfold yu;split
 ·exact aqC _ _ _
 have:=afi l k;omega
theorem TU (rej:Int→Bool) (vZ:List (Int × Bool)):∀ (l:List cK) (k:Nat) (now:Int × Bool),(vQ rej vZ l k now).1.length≤l.length
 | [],_,_=>by rw [vQ];exact bP _
 | y :: r,k,now=>by
  rw [vQ];split
  ·have:=TU rej vZ r (k+1) now;simp only [kr];omega
  have:=TU rej vZ r (k+1) (vZ.getD (k+1) (0,false));simp only [kr];omega
theorem RN (acc rej:Int→Bool) (props:List aT) (key:Int) (l:List cK):(qE acc rej props key l).1.length≤l.length:=by
 have:=TU rej (pF props key l) (l.drop (mQ acc l 0 0)) (mQ acc l 0 0) ((pF props key l).getD (mQ acc l 0 0) (0,false));rw [List.length_drop] at this
 unfold qE;omega
theorem Jv:∀ (f:Nat) (l:List cK),l.length≤f→(pR f l).flatMap Prod.snd=l∧∀ q∈pR f l,q.2≠[]
 | 0,l,h=>by
  have:l=[]:=List.eq_nil_of_length_eq_zero (by omega);subst this;exact ⟨rfl,fun q hq=>by cases hq⟩
 | f+1,[],_=>⟨rfl,fun q hq=>by cases hq⟩
 | f+1,y :: r,h=>by
  have h2:(r.dropWhile fun z=>decide (z.key=y.key)).length≤f:=by
   have:=(List.dropWhile_sublist (l:=r) fun z=>decide (z.key=y.key)).length_le
   simp only [kr] at h;omega
  obtain ⟨e1,e2⟩:=Jv f _ h2;rw [pR];refine ⟨?_,fun q hq=>?_⟩
  ·rw [List.flatMap_cons,e1]
   show (y :: _)++_=_
   rw [nu,List.takeWhile_append_dropWhile]
  rcases kg.1 hq with rfl|hq
  ·exact List.cons_ne_nil _ _
  exact e2 q hq
end
section
open Go.RowKit
theorem U4:F6 prog 172:=⟨by kernel_rfl⟩
theorem aev:prog.cellsOf 5=1:=by kernel_rfl
theorem aoa (v:aj) (w:World):(callFunc 210 #[v]).run prog w=.ok (.value v) w:=apM func210 (by kernel_rfl) (by kernel_rfl) (by kernel_rfl) (by kernel_rfl) v w
theorem IC:prog.underlying 169=some (.pointer 172):=by kernel_rfl
instance:jZ prog 169 (.pointer 172):=⟨IC⟩
theorem Vm:prog.underlying 280=some .unsafePointer:=by kernel_rfl
instance:jZ prog 280 .unsafePointer:=⟨Vm⟩
instance:dR prog 172 0 0:=⟨by kernel_rfl⟩
instance acr:Ty prog 169 1 8 [.pointer none] false:=⟨by kernel_rfl,by kernel_rfl⟩
theorem agx:∀ args w,(callFunc 154 args).run prog w=.ok (.enter 154 args) w:=enters func154 rfl (by kernel_rfl)
theorem KY:prog.underlying 170=some (.slice 5):=by kernel_rfl
instance:jZ prog 170 (.slice 5):=⟨KY⟩
instance Yh:dR prog 172 1 1:=⟨by kernel_rfl⟩
instance O9:Ty prog 170 1 24 [.slice none 0 0] false:=⟨by kernel_rfl,by kernel_rfl⟩
theorem acw:prog.underlying 231=some (.pointer 5):=by kernel_rfl
instance:jZ prog 231 (.pointer 5):=⟨acw⟩
end
section
open Go.RowKit
instance iw:Ty prog 49 1 8 [.int .i64 0] false:=⟨by kernel_rfl,by kernel_rfl⟩
theorem ql:prog.underlying 203=some (.slice 49):=by kernel_rfl
instance:jZ prog 203 (.slice 49):=⟨ql⟩
theorem wE:∀ args w,(callFunc 128 args).run prog w=.ok (.enter 128 args) w:=enters func128 rfl (by kernel_rfl)
theorem wO (G:GH) (w0:World) (hG:Hold G w0) (n l h:Int):Calls prog 128 #[vi n,vi l,vi h] w0 (bC w0 G fun u G'=>u=.bool (decide (l≤n∧n≤h))∧G=G'):=by
 refine eN [(0,_),(1,_),(2,_)] func128 rfl ntmps128 rfl rfl hG ?_;refine lU 8 10 ?_ ?_
 ·intro gX
  refine aP 6 ?_;exact ⟨dB (by first|(simp_all;done)|(simp_all;omega)),rfl⟩
 intro gX
 refine aP 6 ?_;exact ⟨dB (by first|(simp_all;done)|(simp_all;omega)),rfl⟩
def dx (b:Bool) (e:Int):Int:=if b=true then e else 0
theorem jF (G:GH) (w0:World) (hG:Hold G w0) (b:Bool) (e:Int):Calls prog 71 #[.bool b,vi e] w0 (bC w0 G fun u G'=>u=vi (dx b e)∧G=G'):=by
 refine eN [(0,_),(1,_)] func71 rfl ntmps71 rfl rfl hG ?_;refine goB 7 ?_ ?_
 ·intro p5
  refine aP 4 ?_;exact ⟨aB vi (by simp_all [dx]),rfl⟩
 intro p5
 refine aP 4 ?_;exact ⟨aB vi (by simp_all [dx]),rfl⟩
def dh:List Int→Int
 | []=>0
 | e :: r=>if e≠0 then e else dh r
theorem M0 {l:List Int} {k:Nat} (h:k < l.length):dh (l.drop k)=if l[k]≠0 then l[k] else dh (l.drop (k+1)):=by
 rw [pJ h,dh]
theorem qD (G:GH) (w0:World) (hG:Hold G w0) (l:List Int) (v:aj) (hv:au G (.sl 1 (l.map fun k=>[li k])) v) :
  Calls prog 66 #[v] w0 (bC w0 G fun u G'=>u=vi (dh l)∧G=G'):=by
 obtain ⟨A,c,rfl,hc1,hc2,hg⟩:=hv.slice;have hml:maxLen=9223372036854775807:=rfl;rw [bM] at *;refine eN [(0,_)] func66 rfl ntmps66 rfl rfl hG ?_;refine ak 10 ?_;intro a H;refine eH (ι:=Nat) (Tc:=[(5,_),(6,_)]) (Lc:=[]) (fun gh=>[(7,vi gh)]) (fun gh=>[]) (fun gh=>G) (fun gh=>gh≤l.length∧dh (l.drop gh)=dh l) (fun gh=>l.length - gh) (0) sB ?_ ?_
 ·exact ⟨gN _,rfl⟩
 clear H;intro k a w hI H;obtain ⟨hk,he⟩:=hI;dsimp only [lca,bG] at H;refine dO 4 H ?_ ?_ <;> clear H
 ·intro p8
  have hk2:k < l.length:=by omega
  obtain ⟨b,o,cs,rfl,hcl,hrow,hr⟩:=hg k [li l[k]] (by simp [hk2]);obtain ⟨v1,_,rfl,⟨rfl,-⟩,rfl⟩:∃ v vs,cs=v :: vs∧au G (li l[k]) v∧aU G [] vs:=hr
  have hcell:aI G b (o+k*1)=some (vi l[k]):=by simpa using hrow 0 _ rfl
  refine goB 12 ?_ ?_
  ·intro pE
   refine aP 4 ?_;exact ⟨aB vi (by rw [M0 hk2,av pE] at he;exact he),rfl⟩
  intro pE
  refine ak 4 ?_;intro a H;refine aC ?_;refine cB ((k+1)) sB ?_ ?_
  ·exact ⟨by omega,by rw [M0 hk2,ah pE] at he;exact he⟩
  first|omega|(dsimp only;omega)
 intro p8
 refine aP 4 ?_;exact ⟨aB vi (by rw [ku (by omega)] at he;exact he),rfl⟩
def sJ (fv:aj) (Gi:GH) (n:Nat) (E:Nat→Int):Prop:=∀ i,i < n→∀ (G1:GH) (w1:World),(∀ b o,Gi b=some o→G1 b=some o)→Hold G1 w1→qo prog fv [vi i] w1 (bC w1 G1 fun u G'=>u=vi (E i))
theorem sJ.mono {fv:aj} {G G':GH} {n:Nat} {E:Nat→Int} (h:sJ fv G n E) (hm:∀ b o,G b=some o→G' b=some o):sJ fv G' n E:=fun i hi G1 w1 hG1=>h i hi G1 w1 fun b o hb=>hG1 b o (hm b o hb)
def iF (E:Nat→Int) (n:Nat):Int:=dh ((List.range n).map E)
theorem Bn {E:Nat→Int} {n k:Nat} (h:k < n):dh (((List.range n).map E).drop k)=if E k≠0 then E k else dh (((List.range n).map E).drop (k+1)):=by
 rw [M0 (by simpa using h)];simp
theorem I8 (G:GH) (w0:World) (hG:Hold G w0) (n:Nat) (E:Nat→Int) (fv:aj) (hn:n≤4611686018427387904) (hf:sJ fv G n E) :
  Calls prog 123 #[vi n,fv] w0 (bC w0 G fun u G'=>u=vi (iF E n)):=by
 refine eN [(0,_),(1,_)] func123 rfl ntmps123 rfl rfl hG ?_;refine ak 9 ?_;intro a H;refine eH (ι:=Nat × GH) (Tc:=[(1,_),(7,_)]) (Lc:=[]) (fun gh=>[(8,vi gh.1)]) (fun gh=>[]) (fun gh=>gh.2) (fun gh=>gh.1≤n∧dh (((List.range n).map E).drop gh.1)=iF E n∧(∀ b o,G b=some o→gh.2 b=some o)) (fun gh=>n - gh.1) ((0,G)) sB ?_ ?_
 ·exact ⟨gN _,rfl,fun _ _ h=>h⟩
 clear H;rintro ⟨k,g⟩ a w hI H;dsimp only at hI H;obtain ⟨hk,he,hgm⟩:=hI;dsimp only [lca,bG] at H;refine dO 4 H ?_ ?_ <;> clear H
 ·intro p9
  have hk2:k < n:=by omega
  refine ak 10 ?_;intro a H;refine ji H wn rfl rfl (hf k hk2 _ _ hgm H.ro) rfl ?_;clear H;rintro v13 D6 a w rfl za H;refine gF 6 H ?_ ?_ <;> clear H
  ·intro qh
   refine aP 4 ?_;exact (aB vi (by rw [Bn hk2,av qh] at he;exact he))
  intro qh
  refine ak 4 ?_;intro a H;refine aC ?_;refine cB ((k+1,D6)) sB ?_ ?_
  ·(try dsimp only);exact ⟨by omega,by rw [Bn hk2,ah qh] at he;exact he,fun b o h=>za b o (hgm b o h)⟩
  first|omega|(dsimp only;omega)
 intro p9
 refine aP 4 ?_;exact (aB vi (by rw [ku (by simp;omega)] at he;exact he))
def pY (id:Nat→Int) (i:Nat):Int:=if ¬ (1≤id i∧id i≤1073741824) then 18 else if 0 < i∧id i=id (i - 1) then 7 else if 0 < i∧id i < id (i - 1) then 6 else 0
theorem TM (G:GH) (w0:World) (hG:Hold G w0) (i:Nat) (id:Nat→Int) (fv:aj) (hn:i≤4611686018427387904) (hf:sJ fv G (i+1) id) :
  Calls prog 125 #[vi i,fv] w0 (bC w0 G fun u G'=>u=vi (pY id i)):=by
 refine eN [(0,_),(1,_)] func125 rfl ntmps125 rfl rfl hG ?_;intro a H;refine kP H (SQ fun _ K1=>SC (iD K1 rfl (SQ fun _ K2=>SB (SQ fun _ K3=>SC (Rm rfl (Rm rfl ?_))))));clear H K1;intro a H;refine ji H wn rfl rfl (hf i (Nat.lt_succ_self _) _ _ (fun _ _ h=>h) H.ro) rfl ?_;clear H;rintro v8 G8 a w rfl kL H;refine s_call wE H wn rfl (wO _ _ H.ro (id i) 1 1073741824) rfl ?_;clear H;rintro v9 _ a w ⟨rfl,rfl⟩ - H;refine kH H (Rn rfl (iD K3 rfl (Cd rfl ?_ ?_))) <;> clear H K3
 ·intro h5 a H
  try have p5:=dT h5
  refine kP H (SQ fun _ K4=>SC (iD K4 rfl ?_));clear H K4;intro a H;refine lr H results125 rfl ?_
  exact H.rt (aB vi (by unfold pY;(repeat' split) <;> first|rfl|(exfalso;simp_all;done)|(exfalso;simp_all;omega)))
 intro h5 a H
 try have p5:=dF h5
 refine kP H (SQ fun _ K5=>SC (Rm rfl (Rc rfl (Rm rfl (Sp 14 rfl ?_ ?_))))) <;> clear H
 ·intro pV a H
  try have jX:=dT pV
  refine kH H (YM pV rfl (YM pV rfl ?_));clear H;intro a H;refine ji H (wg H rfl rfl pV) rfl rfl (hf i (Nat.lt_succ_self _) _ _ kL H.ro) rfl ?_;clear H;rintro v17 yE a w rfl qR H;refine kH H (YM pV rfl (YM pV rfl ?_));clear H;intro a H;refine lK _ H (wg H rfl rfl pV) rfl rfl rfl (by omega) (by omega) rfl ?_;clear H;intro a H;rw [show ((i:Int) - 1)=((i - 1:Nat):Int) by omega] at H;refine ji H (wg H rfl rfl pV) rfl rfl (hf (i - 1) (by omega) _ _ (fun b o h=>qR b o (kL b o h)) H.ro) rfl ?_;clear H;rintro v21 PE a w rfl Am H;refine kH H (YC pV rfl (Pt pV rfl (iD K5 rfl (Cd rfl ?_ ?_)))) <;> clear H K5
  ·intro h11 a H
   try have qg:=dT h11
   refine kP H (SQ fun _ K6=>SC (iD K6 rfl ?_));clear H K6;intro a H;refine lr H results125 rfl ?_
   exact H.rt (aB vi (by unfold pY;(repeat' split) <;> first|rfl|(exfalso;simp_all;done)|(exfalso;simp_all;omega)))
  intro h11 a H
  try have qg:=dF h11
  refine kP H (SQ fun _ K7=>SC (Rm rfl (Rc rfl (Rm rfl (Sp 27 rfl ?_ ?_))))) <;> clear H
  ·intro h27 a H
   try have p27:=dT h27
   refine kH H (YM h27 rfl (YM h27 rfl ?_));clear H;intro a H;refine ji H (wg H rfl rfl h27) rfl rfl (hf i (Nat.lt_succ_self _) _ _ (fun b o h=>by first|exact Am b o (qR b o (kL b o h))|(exfalso;omega)) H.ro) rfl ?_;clear H;rintro v30 zQ a w rfl Ao H;refine kH H (YM h27 rfl (YM h27 rfl ?_));clear H;intro a H;refine lK _ H (wg H rfl rfl h27) rfl rfl rfl (by omega) (by omega) rfl ?_;clear H;intro a H;rw [show ((i:Int) - 1)=((i - 1:Nat):Int) by omega] at H;refine ji H (wg H rfl rfl h27) rfl rfl (hf (i - 1) (by omega) _ _ (fun b o h=>by first|exact Ao b o (Am b o (qR b o (kL b o h)))|(exfalso;omega)) H.ro) rfl ?_;clear H;rintro v34 LV a w rfl Hy H;refine kH H (YC h27 rfl (Pt h27 rfl (iD K7 rfl (Cd rfl ?_ ?_)))) <;> clear H K7
   ·intro fB a H
    try have jq:=dT fB
    refine kP H (SQ fun _ K8=>SC (iD K8 rfl ?_));clear H K8;intro a H;refine lr H results125 rfl ?_
    exact H.rt (aB vi (by unfold pY;(repeat' split) <;> first|rfl|(exfalso;simp_all;done)|(exfalso;simp_all;omega)))
   intro fB a H
   try have jq:=dF fB
   refine kP H (Kc K2 (SQ fun _ K9=>SC (iD K9 rfl ?_)));clear H K2 K9;intro a H;refine lr H results125 rfl ?_
   exact H.rt (aB vi (by unfold pY;(repeat' split) <;> first|rfl|(exfalso;simp_all;done)|(exfalso;simp_all;omega)))
  intro h27 a H
  try have p27:=dF h27
  refine kH H (lN h27 rfl (lN h27 rfl (nU h27 rfl (Pf h27 rfl (iD K7 rfl (Cf rfl rfl (Kc K2 (SQ fun _ yF=>SC (iD yF rfl ?_)))))))));clear H K7 K2 yF;intro a H;refine lr H results125 rfl ?_
  exact H.rt (aB vi (by unfold pY;(repeat' split) <;> first|rfl|(exfalso;simp_all;done)|(exfalso;simp_all;omega)))
 intro pV a H
 try have jX:=dF pV
 refine kH H (lN pV rfl (lN pV rfl (nU pV rfl (Pf pV rfl (iD K5 rfl (Cf rfl rfl (SQ fun _ oN=>SC (Rm rfl (Rc rfl (Rm rfl (Sp 27 rfl ?_ ?_))))))))))) <;> clear H K5
 ·intro h27 a H
  try have p27:=dT h27
  refine kH H (YM h27 rfl (YM h27 rfl ?_));clear H;intro a H;refine ji H (wg H rfl rfl h27) rfl rfl (hf i (Nat.lt_succ_self _) _ _ (fun b o h=>by first|exact Am b o (qR b o (kL b o h))|(exfalso;omega)) H.ro) rfl ?_;clear H;rintro v30 zQ a w rfl Ao H;refine kH H (YM h27 rfl (YM h27 rfl ?_));clear H;intro a H;refine lK _ H (wg H rfl rfl h27) rfl rfl rfl (by omega) (by omega) rfl ?_;clear H;intro a H;rw [show ((i:Int) - 1)=((i - 1:Nat):Int) by omega] at H;refine ji H (wg H rfl rfl h27) rfl rfl (hf (i - 1) (by omega) _ _ (fun b o h=>by first|exact Ao b o (Am b o (qR b o (kL b o h)))|(exfalso;omega)) H.ro) rfl ?_;clear H;rintro v34 LV a w rfl Hy H;refine kH H (YC h27 rfl (Pt h27 rfl (iD oN rfl (Cd rfl ?_ ?_)))) <;> clear H oN
  ·intro fB a H
   try have jq:=dT fB
   refine kP H (SQ fun _ zR=>SC (iD zR rfl ?_));clear H zR;intro a H;refine lr H results125 rfl ?_
   exact H.rt (aB vi (by unfold pY;(repeat' split) <;> first|rfl|(exfalso;simp_all;done)|(exfalso;simp_all;omega)))
  intro fB a H
  try have jq:=dF fB
  refine kP H (Kc K2 (SQ fun _ D9=>SC (iD D9 rfl ?_)));clear H K2 D9;intro a H;refine lr H results125 rfl ?_
  exact H.rt (aB vi (by unfold pY;(repeat' split) <;> first|rfl|(exfalso;simp_all;done)|(exfalso;simp_all;omega)))
 intro h27 a H
 try have p27:=dF h27
 refine kH H (lN h27 rfl (lN h27 rfl (nU h27 rfl (Pf h27 rfl (iD oN rfl (Cf rfl rfl (Kc K2 (SQ fun _ IX=>SC (iD IX rfl ?_)))))))));clear H oN K2 IX;intro a H;refine lr H results125 rfl ?_
 exact H.rt (aB vi (by unfold pY;(repeat' split) <;> first|rfl|(exfalso;simp_all;done)|(exfalso;simp_all;omega)))
end
section
open Go.RowKit
theorem jA:∀ args w,(callFunc 71 args).run prog w=.ok (.enter 71 args) w:=enters func71 rfl (by kernel_rfl)
theorem qC:∀ args w,(callFunc 66 args).run prog w=.ok (.enter 66 args) w:=enters func66 rfl (by kernel_rfl)
def wB (s:ByteArray):Bool:=decide (1≤s.size∧s.size≤40) && qm s
theorem Wy (G:GH) (w0:World) (hG:Hold G w0) (s:ByteArray) (hs:s.size < 4611686018427387904):Calls prog 127 #[.string s] w0 (bC w0 G fun u G'=>u=.bool (wB s)∧G=G'):=by
 refine eN [(0,_)] func127 rfl ntmps127 rfl rfl hG ?_;refine jM 8 6 ?_ ?_
 ·intro h6
  try have p6:=dT h6
  refine ak 1 ?_;intro a H;refine DI jE H (wg H rfl rfl h6) rfl rfl ?_;clear H;refine jM 3 11 ?_ ?_
  ·intro h11
   try have qg:=dT h11
   refine ak 1 ?_;intro a H;refine s_call Jm H (wg H rfl rfl h11) rfl (Le _ _ H.ro s hs) rfl ?_;clear H;rintro v13 _ a w ⟨rfl,rfl⟩ - H;refine fu 3 H ?_;exact ⟨dB (by unfold wB;first|(simp_all;done)|(simp_all;omega)),rfl⟩
  intro h11
  try have qg:=dF h11
  refine aP 5 ?_;exact ⟨dB (by unfold wB;first|(simp_all;done)|(simp_all;omega)),rfl⟩
 intro h6
 try have p6:=dF h6
 refine aP 10 ?_;exact ⟨dB (by unfold wB;first|(simp_all;done)|(simp_all;omega)),rfl⟩
def Cr (s:ByteArray):Int:=dh [dx (!qm s) 12,dx (decide (1024 < (s.size:Int))) 10]
theorem xZ {G:GH} {b:Nat} {x y:Int} (h:G b=some (.cells #[vi x,vi y] 49 (0,0))):au G (.sl 1 ([x,y].map fun k=>[li k])) (.slice (some ⟨b,0,none⟩) 2 2) :=
 au.eX (n:=2) (cap:=2) h rfl (bP _) (show 2≤maxLen by decide) (fJ (bP _)) (fG G [x,y])
theorem Vb (G:GH) (w0:World) (hG:Hold G w0) (s:ByteArray) (hs:s.size < 4611686018427387904):Calls prog 190 #[.string s] w0 (bC w0 G fun u G'=>u=vi (Cr s)):=by
 refine eN [(0,_)] func190 rfl ntmps190 rfl rfl hG ?_;refine ak 5 ?_;intro a H;refine s_call Jm H wn rfl (Le _ _ H.ro s hs) rfl ?_;clear H;rintro v4 _ a w ⟨rfl,rfl⟩ - H;refine aD 1 H ?_;clear H;intro a H;refine s_call jA H wn rfl (jF _ _ H.ro _ 12) rfl ?_;clear H;rintro v6 _ a w ⟨rfl,rfl⟩ - H;refine aD 3 H ?_;clear H;intro a H;refine s_call jA H wn rfl (jF _ _ H.ro _ 10) rfl ?_;clear H;rintro v10 _ a w ⟨rfl,rfl⟩ - H;refine gG ql iw [_,_] [_,_] H wn rfl rfl rfl rfl rfl (by intro i q h;match i,h with|0,h=>exact h|1,h=>exact h|n+2,h=>simp at h) rfl rfl ?_;clear H;intro b11 a w Ez H;obtain ⟨qX,BI,Ak,H⟩:=H.eu;refine s_call qC H wn rfl (qD _ _ H.ro _ _ (xZ Ak)) rfl ?_;clear H;rintro v12 _ a w ⟨rfl,rfl⟩ - H;refine fu 2 H ?_;exact rfl
def Od (c:Int):Bool:=decide (97≤vk .or .u8 c 32) && decide (vk .or .u8 c 32≤122)
def Fj (c:Int):Bool:=(decide (48≤c) && decide (c≤57)) || decide (c=45) || decide (c=95)
def Ay (s:ByteArray) (k:Nat):Bool:=Od (fV s k) || (decide (k≠0) && Fj (fV s k))
def qO (s:ByteArray):Bool:=decide (1≤s.size∧s.size≤40) && (List.range s.size).all (Ay s)
theorem Qw (G:GH) (w0:World) (hG:Hold G w0) (s:ByteArray) (hs:s.size < 4611686018427387904):Calls prog 192 #[.string s] w0 (bC w0 G fun u G'=>u=.bool (qO s)∧G=G'):=by
 refine eN [(0,_)] func192 rfl ntmps192 rfl rfl hG ?_;refine jM 9 10 ?_ ?_
 ·intro h10
  try have gX:=dT h10
  refine aP 9 ?_;exact ⟨dB (by unfold qO;rw [iY (by omega)];rfl),rfl⟩
 intro h10
 try have gX:=dF h10
 refine ak 1 ?_;intro a H;refine DI jE H (wg H rfl rfl h10) rfl rfl ?_;clear H;refine goB 3 ?_ ?_
 ·intro jX
  refine aP 3 ?_;exact ⟨dB (by unfold qO;rw [iY (by omega)];rfl),rfl⟩
 intro jX
 refine ak 8 ?_;intro a H;refine eH (ι:=Nat) (Tc:=[(0,_),(16,_)]) (Lc:=[]) (fun gh=>[(17,vi gh)]) (fun gh=>[]) (fun gh=>G) (fun gh=>gh≤s.size∧(List.range gh).all (Ay s)=true) (fun gh=>s.size - gh) (0) sB ?_ ?_
 ·exact ⟨gN _,rfl⟩
 clear H;intro k a w hI H;obtain ⟨hk,hall⟩:=hI;dsimp only [lca,bG] at H;refine dO 4 H ?_ ?_ <;> clear H
 ·intro qI
  have hk2:k < s.size:=by omega
  refine ak 10 ?_;intro a H;refine oL k jE H wn rfl rfl rfl (by omega) rfl ?_;clear H;intro a H;rw [← kV] at H;refine OJ rfl H wn rfl rfl rfl ?_;clear H;refine ak 2 ?_;intro a H;refine qz (ι:=Bool) (Tc:=[(0,_),(3,_),(16,_),(17,_)]) (Lc:=[]) (fun gh=>[(5,.bool gh)]) (fun gh=>[]) (fun gh=>G) (fun gh=>gh=Od (fV s k)) sB ?_ ?_
  ·refine Ag 4 26 H ?_ ?_ <;> clear H
   ·intro p26
    refine ak 4 ?_;intro a H;refine aC ?_;refine ⟨_,sB,?_⟩
    unfold Od;first|(simp_all;done)|(simp_all;omega)
   intro p26
   refine ak 4 ?_;intro a H;refine aC ?_;refine ⟨_,sB,?_⟩
   unfold Od;first|(simp_all;done)|(simp_all;omega)
  clear H;intro lt a w hI H;have hlt:=hI;dsimp only [lca,bG] at H;refine qz (ι:=Bool) (Tc:=[(0,_),(3,_),(5,_),(16,_),(17,_)]) (Lc:=[]) (fun gh=>[(6,.bool gh)]) (fun gh=>[]) (fun gh=>G) (fun gh=>gh=Fj (fV s k)) sB ?_ ?_
  ·refine fM 3 H ?_;clear H;intro a H;refine oL k jE H wn rfl rfl rfl (by omega) rfl ?_;clear H;intro a H;rw [← kV] at H;refine kJ 2 34 H ?_ ?_ <;> clear H
   ·intro kY
    try have p34:=dT kY
    refine ak 2 ?_;intro a H;refine oL k jE H (wg H rfl rfl kY) rfl rfl rfl (by omega) rfl ?_;clear H;intro a H;rw [← kV] at H;refine kJ 3 40 H ?_ ?_ <;> clear H
    ·intro sZ
     try have p40:=dT sZ
     refine ak 12 ?_;intro a H;refine aC ?_;refine ⟨_,sB,?_⟩
     unfold Fj;first|(simp_all;done)|(simp_all;omega)
    intro sZ
    try have p40:=dF sZ
    refine ak 2 ?_;intro a H;refine oL k jE H (wg H rfl rfl sZ) rfl rfl rfl (by omega) rfl ?_;clear H;intro a H;rw [← kV] at H;refine kJ 3 46 H ?_ ?_ <;> clear H
    ·intro h46
     try have p46:=dT h46
     refine ak 6 ?_;intro a H;refine aC ?_;refine ⟨_,sB,?_⟩
     unfold Fj;first|(simp_all;done)|(simp_all;omega)
    intro h46
    try have p46:=dF h46
    refine ak 2 ?_;intro a H;refine oL k jE H (wg H rfl rfl h46) rfl rfl rfl (by omega) rfl ?_;clear H;intro a H;rw [← kV] at H;refine aD 3 H ?_;clear H;intro a H;refine aC ?_;refine ⟨_,sB,?_⟩
    unfold Fj;first|(simp_all;done)|(simp_all;omega)
   intro kY
   try have p34:=dF kY
   refine ak 6 ?_;intro a H;(iterate 2 refine Iw H (wg H rfl rfl rfl) rfl rfl ?_;clear H;intro a H);refine oL k jE H (wg H rfl rfl rfl) rfl rfl rfl (by omega) rfl ?_;clear H;intro a H;rw [← kV] at H;refine Ir H (wg H rfl rfl rfl) rfl rfl rfl rfl ?_;clear H;refine jM 2 46 ?_ ?_
   ·intro h46
    try have p46:=dT h46
    refine ak 6 ?_;intro a H;refine aC ?_;refine ⟨_,sB,?_⟩
    unfold Fj;first|(simp_all;done)|(simp_all;omega)
   intro h46
   try have p46:=dF h46
   refine ak 2 ?_;intro a H;refine oL k jE H (wg H rfl rfl h46) rfl rfl rfl (by omega) rfl ?_;clear H;intro a H;rw [← kV] at H;refine aD 3 H ?_;clear H;intro a H;refine aC ?_;refine ⟨_,sB,?_⟩
   unfold Fj;first|(simp_all;done)|(simp_all;omega)
  clear H;intro ot a w hI H;have hot:=hI;dsimp only [lca,bG] at H;refine Ag 4 54 H ?_ ?_ <;> clear H
  ·intro p54
   refine lU 3 57 ?_ ?_
   ·intro p57
    refine aP 9 ?_
    first
     | exact ⟨dB (by
       unfold qO
       rw [show k=s.size by omega] at hall
       rw [hall,iQ (by omega)];rfl),rfl⟩
     | exact ⟨dB (by
       unfold qO
       rw [show (List.range s.size).all (Ay s)=false from List.all_eq_false.2 ⟨k,by simpa using hk2,by unfold Ay;simp_all⟩,Bool.and_false]),rfl⟩
   intro p57
   refine goB 5 ?_ ?_
   ·intro p61
    refine aP 3 ?_
    first
     | exact ⟨dB (by
       unfold qO
       rw [show k=s.size by omega] at hall
       rw [hall,iQ (by omega)];rfl),rfl⟩
     | exact ⟨dB (by
       unfold qO
       rw [show (List.range s.size).all (Ay s)=false from List.all_eq_false.2 ⟨k,by simpa using hk2,by unfold Ay;simp_all⟩,Bool.and_false]),rfl⟩
   intro p61
   refine ak 4 ?_;intro a H;refine aC ?_;refine cB ((k+1)) sB ?_ ?_
   ·exact ⟨by omega,by rw [List.range_succ,List.all_append,hall];simp [Ay];simp_all⟩
   first|omega|(dsimp only;omega)
  intro p54
  refine ak 13 ?_;intro a H;refine aC ?_;refine cB ((k+1)) sB ?_ ?_
  ·exact ⟨by omega,by rw [List.range_succ,List.all_append,hall];simp [Ay];simp_all⟩
  first|omega|(dsimp only;omega)
 intro qI
 refine aP 4 ?_
 first
  | exact ⟨dB (by
    unfold qO
    rw [show k=s.size by omega] at hall
    rw [hall,iQ (by omega)];rfl),rfl⟩
  | exact ⟨dB (by
    unfold qO
    rw [show (List.range s.size).all (Ay s)=false from List.all_eq_false.2 ⟨k,by simpa using hk2,by unfold Ay;simp_all⟩,Bool.and_false]),rfl⟩
end
section
open Go.RowKit
section
variable {N:Nat} {D:List Deferred} {w0:World} {F:Nat→Prop} {G0 G:GH} {L:OL} {T:List (Nat × aj)}
variable {r:Option Nat} {P:Program} {ops:Array Oper} {Q:Exit→Act→World→Prop} {rest:List Oper} {a:Act} {w:World}
variable {d:Nat} {ty:TypeId} {pos:String} {aO:Array Edge} {g:Option (Nat × Bool)}
end
end
section
open Go.RowKit
section
variable {N:Nat} {D:List Deferred} {w0:World} {F:Nat→Prop} {G0 G:GH} {L:OL} {T T':List (Nat × aj)}
variable {r:Option Nat} {P:Program} {Q:Exit→Act→World→Prop} {l:List Oper} {a a':Act} {w w':World} {ε:Type}
def F7 (l:List Oper) (pr:ε→Nat→aj→Prop) (T:List (Nat × aj)) (S:Nat→Bool) (E:ε) (T':List (Nat × aj)):Prop :=
 (∀ t v,lk T t=some v→lk T' t=some v)∧∀ i d,S i=true→dX l i=some d→∃ v,lk T' d=some v∧pr E i v
theorem F7.put {pr:ε→Nat→aj→Prop} {S:Nat→Bool} {E E':ε} {i d:Nat} {v:aj} (h:F7 l pr T S E T') (hok:afF l T=true) (hi:dX l i=some d) (hv:pr E' i v) (hE:∀ j u,j≠i→pr E j u→pr E' j u):F7 l pr T (cZ S i) E' ((d,v) :: T'):=by
 have hil:=qB hi
 have hok1:=jQ.1 hok i (sM.2 hil)
 rw [nY,hi] at hok1
 simp only [mD,Option.isNone_iff_eq_none,jQ,sM] at hok1
 refine ⟨fun t u ht=>?_,fun j e hj he=>?_⟩
 ·rw [uM (fun e=>by subst e;rw [hok1.1] at ht;cases ht)];exact h.1 t u ht
 ·by_cases hji:j=i
  ·subst hji;rw [hi] at he;cases he;exact ⟨v,vU _ _ _,hv⟩
  ·have hSj:S j=true:=by unfold cZ at hj;rwa [ah hji] at hj
   obtain ⟨u,hu1,hu2⟩:=h.2 j e hSj he
   have hne:d≠e:=by
    intro e';subst e'
    have h2:=hok1.2 j (qB he)
    have hb:Nat.beq i j=false:=nW (fun h=>hji h.symm)
    rw [hb,he] at h2
    simp at h2
   exact ⟨u,by rw [uM hne];exact hu1,hE j u hji hu2⟩
theorem F7.add {pr:ε→Nat→aj→Prop} {S:Nat→Bool} {E:ε} (h:F7 l pr T S E T') {t:Nat} {u:aj} (hu:lk T' t=some u):F7 l pr T S E ((t,u) :: T'):=by
 have e:∀ s v,lk T' s=some v→lk ((t,u) :: T') s=some v:=fun s v hs=>by
  by_cases hst:t=s
  ·subst hst;rw [hu] at hs;cases hs;exact vU _ _ _
  ·rw [uM hst];exact hs
 exact ⟨fun s v hs=>e s v (h.1 s v hs),fun i d hi hd=>by
  obtain ⟨v,h1,h2⟩:=h.2 i d hi hd
  exact ⟨v,e d v h1,h2⟩⟩
end
end
section
open Go.RowKit
section
variable {N:Nat} {D:List Deferred} {w0:World} {F:Nat→Prop} {G0 G G1 G2:GH} {L L1:OL} {T Xs:List (Nat × aj)}
variable {r:Option Nat} {P:Program} {Q:Exit→Act→World→Prop} {l:List Oper} {a a':Act} {w w':World}
theorem Ei {id:Nat} (hm:P.follows .mixedOrders=true) (bJ:List (List Nat)) (B:List Nat) (hk:wD l bJ=true) (hB:uQ l bJ B=true) (X:(Nat→Bool)→Act→World→Prop) (h0:X (fun _=>false) a w.drew)
  (hstep:∀ i o S a w,l[i]?=some o→B.contains i=false→S i=false→(∀ j∈bJ.getD i [],S j=true)→(∀ j,j < l.length→i∈bJ.getD j []→S j=false)→X S a w→WL r P l.toArray (fun e a' w'=>e=.normal∧X (cZ S i) a' w') [o] a w)
  (hend:∀ S a w,(∀ i,i < l.length→B.contains i=false→S i=true)→(∀ i,B.contains i=true→S i=false)→X S a w→WL r P l.toArray (fun e a w=>e=.normal∧Q .normal a w) (oh l B) a w):WP r P (.region id l.toArray true) Q a w:=by
 have hB1:∀ p b,B[p]?=some b→b < l.length∧∀ i,i < l.length→(B.contains i=false∨(B.take p).contains i=true)→i∈bJ.getD b []:=by
  intro p b hp
  simp only [uQ,mD] at hB
  have h1:=jQ.1 hB.1 p (sM.2 (jy.1 hp).1)
  rw [hp] at h1
  simp only [mD,jQ,sM] at h1
  refine ⟨Eq.mp Nat.blt_eq h1.1,fun i hi hor=>?_⟩
  have h2:=h1.2 i hi
  rcases hor with h3|h3
  ·have h4:i∉B:=by simpa using h3
   simpa [h4] using h2
  ·have h4:i∈B.take p:=by simpa using h3
   simpa [h4] using h2
 have hB2:∀ i,i < l.length→B.contains i=false→∀ j∈bJ.getD i [],B.contains j=false:=by
  intro i hi hb j hj
  simp only [uQ,mD] at hB
  have h1:=jQ.1 hB.2 i (sM.2 hi)
  rw [hb] at h1
  simp only [Bool.false_or,jQ] at h1
  simpa using h1 j hj
 refine WQ hm bJ hk (fun S a w=>((∀ i,B.contains i=true→S i=false)∧X S a w) ∨
   ∃ p,(∀ i,i < l.length→B.contains i=false→S i=true)∧(∀ i,(B.take p).contains i=true→S i=true)∧(∀ q b,B[q]?=some b→p≤q→S b=false)∧WL r P l.toArray (fun e a w=>e=.normal∧Q .normal a w) (oh l (B.drop p)) a w)
  (.inl ⟨fun _ _=>rfl,h0⟩) ?_ ?_
 ·intro i o S a w ho hX aL iK hdesc
  have hil:i < l.length:=(jy.1 ho).1
  by_cases hbi:B.contains i=true
  ·-- an operation of the tail: all that stands ahead of it is done
   obtain ⟨p0,hp0⟩:=List.getElem?_of_mem (by simpa using hbi:i∈B)
   have hall:∀ j,j < l.length→B.contains j=false→S j=true:=fun j hj hb=>iK j ((hB1 p0 i hp0).2 j hj (.inl hb))
   have Tg:∃ p,(∀ i,(B.take p).contains i=true→S i=true)∧(∀ q b,B[q]?=some b→p≤q→S b=false)∧WL r P l.toArray (fun e a w=>e=.normal∧Q .normal a w) (oh l (B.drop p)) a w:=by
    rcases hX with ⟨h1,hD⟩|⟨p,_,h2,h3,h4⟩
    ·exact ⟨0,by simp,fun q b hq _=>h1 b (by simpa using ko hq),hend S a w hall h1 hD⟩
    ·exact ⟨p,h2,h3,h4⟩
   obtain ⟨p,h2,h3,h4⟩:=Tg
   -- i is the next one
   have hpp:p≤p0:=by
    rcases Nat.lt_or_ge p0 p with hlt|hge
    ·have:(B.take p).contains i=true:=by
      simp only [xD]
      exact ko (i:=p0) (by rw [ru,av hlt];exact hp0)
     rw [h2 i this] at aL;cases aL
    ·exact hge
   have EP:p < B.length:=by have:=(jy.1 hp0).1;omega
   have hbp:B[p]?=some B[p]:=eO EP
   have heq:B[p]=i:=by
    rcases Nat.lt_or_ge p p0 with hlt|hge
    ·exfalso
     have hin:B[p]∈bJ.getD i []:=(hB1 p0 i hp0).2 _ (hB1 p _ hbp).1 (.inr (by
      simp only [xD]
      exact ko (i:=p) (by rw [ru,av hlt];exact hbp)))
     have:=iK _ hin
     rw [h3 p _ hbp (bP _)] at this;cases this
    ·have:p=p0:=by omega
     subst this
     rw [hbp] at hp0;simpa using hp0
   have hdrop:B.drop p=i :: B.drop (p+1):=by rw [pJ EP,heq]
   have hops:oh l (B.drop p)=o :: oh l (B.drop (p+1)):=by rw [hdrop];simp [oh,ho]
   rw [hops] at h4
   refine acS (fun a' w' h5=>.inr ⟨p+1,fun j hj hb=>?_,fun j hj=>?_,fun q b hq hpq=>?_,h5⟩) h4
   ·unfold cZ;split
    ·rfl
    ·exact hall j hj hb
   ·unfold cZ;split
    ·rfl
    ·rename_i hne
     refine h2 j ?_
     simp only [xD] at hj ⊢
     rw [fP EP,nV] at hj
     rcases hj with hj|hj
     ·exact hj
     ·simp only [sN] at hj;exact absurd (hj.trans heq) hne
   ·unfold cZ
    rw [ah ?_]
    ·exact h3 q b hq (by omega)
    ·rintro rfl
     -- i would stand twice in B: it would come ahead of itself
     have h6:=(hB1 q b hq).2 b (hB1 q b hq).1 (.inr (by
      simp only [xD]
      exact ko (i:=p) (by rw [ru,av (by omega)];rw [hbp,heq])))
     rw [iK _ h6] at aL;cases aL
  ·have EC:B.contains i=false:=by cases h:B.contains i with|false=>rfl|true=>exact absurd h hbi
   rcases hX with ⟨h1,hX⟩|⟨p,h0,_,_,_⟩
   ·refine lC (fun e a' w' ⟨he,hD⟩=>⟨he,.inl ⟨fun j hj=>?_,hD⟩⟩) (hstep i o S a w ho EC aL iK hdesc hX)
    unfold cZ
    rw [ah (by rintro rfl;rw [EC] at hj;cases hj)]
    exact h1 j hj
   ·rw [h0 i hil EC] at aL;cases aL
 ·intro S a w hall hX
  rcases hX with ⟨h1,hD⟩|⟨p,_,_,h3,h4⟩
  ·have hnil:B=[]:=by
    cases B with
    | nil=>rfl
    | cons b B=>have h5:=h1 b (by simp);rw [hall b (hB1 0 b rfl).1] at h5;cases h5
   subst hnil
   exact (hend S a w (fun j hj _=>hall j hj) h1 hD).2
  ·have hnil:B.drop p=[]:=by
    cases hd:B.drop p with
    | nil=>rfl
    | cons b B' =>
     have hb:B[p]?=some b:=by
      have:=aB (fun x:List Nat=>x[0]?) hd
      simpa using this
     have h5:=h3 p b hb (bP _)
     rw [hall b (hB1 p b hb).1] at h5;cases h5
   rw [hnil] at h4
   exact h4.2
theorem adU {id:Nat} (hm:P.follows .mixedOrders=true) (bJ:List (List Nat)) (B:List Nat) (hk:wD l bJ=true) (hB:uQ l bJ B=true) (m:Nat) (JZ:B.contains m=false) (ob:Obj) (pr:Nat→Nat→aj→GH→Prop)
  (Ki:∀ b b' i v G,i≠m→pr b i v G→pr b' i v G) (H:St N D w0 F G0 G L T a w)
  (hstep:allI (fun i o=>∀ b L' S a w G1,B.contains i=false→Nat.beq i m=false→S i=false→(∀ j∈bJ.getD i [],S j=true)→(∀ k o,G k=some o→G1 k=some o)→St N D w0 F G0 G1 L' T a w→(∀ i d,S i=true→dX l i=some d→∃ v,a.tmps[d]?=some v∧pr b i v G1) →
   WL r P l.toArray (fun e a' w'=>e=.normal∧DX N D w0 F G0 G L' T l (pr b) (cZ S i) a' w') [o] a w) 0 l)
  (hmid:∀ o S a w G1,l[m]?=some o→S m=false→(∀ j∈bJ.getD m [],S j=true)→(∀ k o,G k=some o→G1 k=some o)→St N D w0 F G0 G1 L T a w→(∀ b i d,i≠m→S i=true→dX l i=some d→∃ v,a.tmps[d]?=some v∧pr b i v G1) →
   WL r P l.toArray (fun e a' w'=>e=.normal∧∃ b,DX N D w0 F G0 G ((b,ob) :: L) T l (pr b) (cZ S m) a' w') [o] a w)
  (hend:∀ b a w G1,(∀ k o,G k=some o→G1 k=some o)→St N D w0 F G0 G1 ((b,ob) :: L) T a w→(∀ i d,B.contains i=false→dX l i=some d→∃ v,a.tmps[d]?=some v∧pr b i v G1)→WL r P l.toArray (fun e a w=>e=.normal∧Q .normal a w) (oh l B) a w)
  (hml:Nat.blt m l.length=true):WP r P (.region id l.toArray true) Q a w:=by
 refine Ei hm bJ B hk hB (fun S a w=>∃ b L',(S m=false→L'=L)∧(S m=true→L'=(b,ob) :: L)∧DX N D w0 F G0 G L' T l (pr b) S a w)
  ⟨0,L,fun _=>rfl,fun h=>absurd (show false=true from h) (by decide),G,fun _ _ h=>h,H.move H.hp.drew,fun _ _ h=>absurd (show false=true from h) (by decide)⟩ ?_ ?_
 ·rintro i o S a w ho hb aL iK hdesc ⟨b,L',h1,h2,G1,hG,HS,hv⟩
  by_cases him:i=m
  ·subst him
   have e:=h1 aL;subst e
   have h:=hmid o S a w G1 ho aL iK hG HS fun b' j d hj hSj hd=>by
    obtain ⟨v,hv1,hv2⟩:=hv j d hSj hd
    exact ⟨v,hv1,Ki b b' j v _ hj hv2⟩
   have e1:cZ S i i=true:=av rfl
   exact lC (fun e a' w' ⟨he,b',hD⟩=>⟨he,b',_,fun h=>absurd (e1.symm.trans h) (by decide),fun _=>rfl,hD⟩) h
  ·have h:=yH hstep i o ho
   rw [fU] at h
   have e:cZ S i m=S m:=ah (fun h=>him h.symm)
   exact lC (fun e' a' w' ⟨he,hD⟩=>⟨he,b,L',fun h=>h1 (e ▸ h),fun h=>h2 (e ▸ h),hD⟩) (h b L' S a w G1 hb (nW him) aL iK hG HS hv)
 ·rintro S a w hall H8 ⟨b,L',h1,h2,G1,hG,HS,hv⟩
  have HZ:S m=true:=hall m (Eq.mp Nat.blt_eq hml) JZ
  have e:=h2 HZ;subst e
  exact hend b a w G1 hG HS fun j d hb hd=>hv j d (hall j (qB hd) hb) hd
theorem Eo {pr:Nat→aj→GH→Prop} {S:Nat→Bool} {i d:Nat} {v:aj} (hok:nY l T i=true) (hi:dX l i=some d) 
  (HT:St N D w0 F G0 G1 L T a w) (Hb:St N D w0 F G0 G1 L (Xs++full N a) a w) (hG:∀ k o,G k=some o→G1 k=some o) (hv:∀ j d,j≠i→S j=true→dX l j=some d→∃ v,a.tmps[d]?=some v∧pr j v G1)
  (hp:pr i v G1) (H:St N D w0 F G0 G1 L1 ((d,v) :: (Xs++full N a)) a' w'):DX N D w0 F G0 G L1 T l pr (cZ S i) a' w':=by
 have hil:i < l.length:=qB hi
 have hok1:=hok
 rw [nY,hi] at hok1
 simp only [mD,Option.isNone_iff_eq_none,jQ,sM] at hok1
 have hsame:∀ t,t≠d→a'.tmps[t]?=a.tmps[t]?:=by
  intro t ht
  by_cases hlt:t < N
  ·have h1:∃ u,lk (Xs++full N a) t=some u:=by
    rw [Ob]
    cases lk Xs t with
    | some u=>exact ⟨u,rfl⟩
    | none=>exact ⟨_,Oc a hlt⟩
   obtain ⟨u,hu⟩:=h1
   rw [Hb.get t u hu,H.get t u (by rw [uM (Ne.symm ht)];exact hu)]
  ·rw [Array.getElem?_eq_none (by rw [H.mO];omega),Array.getElem?_eq_none (by rw [Hb.mO];omega)]
 refine ⟨G1,hG,⟨H.mO,fun t u ht=>?_,H.rE,H.hp⟩,fun j e hj he=>?_⟩
 ·rw [hsame t (fun e=>by rw [e,hok1.1] at ht;cases ht)]
  exact HT.get t u ht
 ·by_cases hji:j=i
  ·subst hji
   rw [hi] at he
   simp only [nJ] at he
   subst he
   exact ⟨v,H.get d v (vU _ _ _),hp⟩
  ·have hSj:S j=true:=by unfold cZ at hj;rwa [ah hji] at hj
   obtain ⟨u,hu1,hu2⟩:=hv j e hji hSj he
   have hne:e≠d:=by
    intro e'
    subst e'
    have h2:=hok1.2 j (qB he)
    rw [nW (fun h=>hji h.symm),he] at h2
    simp at h2
   exact ⟨u,by rw [hsame e hne];exact hu1,hu2⟩
end
end
section
open Go.RowKit
section
variable {N:Nat} {D:List Deferred} {w0:World} {F:Nat→Prop} {G0 G G1 G2:GH} {L L1:OL} {T Xs:List (Nat × aj)}
variable {r:Option Nat} {P:Program} {Q:Exit→Act→World→Prop} {l:List Oper} {a a':Act} {w w':World}
theorem adV {id:Nat} (hm:P.follows .mixedOrders=true) (bJ:List (List Nat)) (B:List Nat) (hk:wD l bJ=true) (hB:uQ l bJ B=true) (m:Nat) (JZ:B.contains m=false) (ob:Obj) (pr:Nat→Nat→aj→GH→Prop)
  (Ki:∀ b b' i v G,i≠m→pr b i v G→pr b' i v G) (H:St N D w0 F G0 G L T a w)
  (hstep:allI (fun i o=>∀ b L' S a w G1,(∀ x,x∈L→x∈L')→B.contains i=false→Nat.beq i m=false→S i=false→(∀ j∈bJ.getD i [],S j=true)→(∀ k o,G k=some o→G1 k=some o)→St N D w0 F G0 G1 L' T a w→(∀ i d,S i=true→dX l i=some d→∃ v,a.tmps[d]?=some v∧pr b i v G1) →
   WL r P l.toArray (fun e a' w'=>e=.normal∧DX N D w0 F G0 G L' T l (pr b) (cZ S i) a' w') [o] a w) 0 l)
  (hmid:∀ o S a w G1,l[m]?=some o→S m=false→(∀ j∈bJ.getD m [],S j=true)→(∀ k o,G k=some o→G1 k=some o)→St N D w0 F G0 G1 L T a w→(∀ b i d,i≠m→S i=true→dX l i=some d→∃ v,a.tmps[d]?=some v∧pr b i v G1) →
   WL r P l.toArray (fun e a' w'=>e=.normal∧∃ b,DX N D w0 F G0 G ((b,ob) :: L) T l (pr b) (cZ S m) a' w') [o] a w)
  (hend:∀ b a w G1,(∀ k o,G k=some o→G1 k=some o)→St N D w0 F G0 G1 ((b,ob) :: L) T a w→(∀ i d,B.contains i=false→dX l i=some d→∃ v,a.tmps[d]?=some v∧pr b i v G1)→WL r P l.toArray (fun e a w=>e=.normal∧Q .normal a w) (oh l B) a w)
  (hml:Nat.blt m l.length=true):WP r P (.region id l.toArray true) Q a w:=by
 refine Ei hm bJ B hk hB (fun S a w=>∃ b L',(S m=false→L'=L)∧(S m=true→L'=(b,ob) :: L)∧DX N D w0 F G0 G L' T l (pr b) S a w)
  ⟨0,L,fun _=>rfl,fun h=>absurd (show false=true from h) (by decide),G,fun _ _ h=>h,H.move H.hp.drew,fun _ _ h=>absurd (show false=true from h) (by decide)⟩ ?_ ?_
 ·rintro i o S a w ho hb aL iK hdesc ⟨b,L',h1,h2,G1,hG,HS,hv⟩
  by_cases him:i=m
  ·subst him
   have e:=h1 aL;subst e
   have h:=hmid o S a w G1 ho aL iK hG HS fun b' j d hj hSj hd=>by
    obtain ⟨v,hv1,hv2⟩:=hv j d hSj hd
    exact ⟨v,hv1,Ki b b' j v _ hj hv2⟩
   have e1:cZ S i i=true:=av rfl
   exact lC (fun e a' w' ⟨he,b',hD⟩=>⟨he,b',_,fun h=>absurd (e1.symm.trans h) (by decide),fun _=>rfl,hD⟩) h
  ·have h:=yH hstep i o ho
   rw [fU] at h
   have e:cZ S i m=S m:=ah (fun h=>him h.symm)
   exact lC (fun e' a' w' ⟨he,hD⟩=>⟨he,b,L',fun h=>h1 (e ▸ h),fun h=>h2 (e ▸ h),hD⟩) (h b L' S a w G1 (fun x hx=>by
    cases hS:S m with
    | false=>rw [h1 hS];exact hx
    | true=>rw [h2 hS];exact gB _ hx) hb (nW him) aL iK hG HS hv)
 ·rintro S a w hall H8 ⟨b,L',h1,h2,G1,hG,HS,hv⟩
  have HZ:S m=true:=hall m (Eq.mp Nat.blt_eq hml) JZ
  have e:=h2 HZ;subst e
  exact hend b a w G1 hG HS fun j d hb hd=>hv j d (hall j (qB hd) hb) hd
end
end
section
open Go.RowKit
section
variable {N:Nat} {D:List Deferred} {w0:World} {F:Nat→Prop} {G0 G G1 G2:GH} {L L1 L2:OL} {T Xs:List (Nat × aj)}
variable {r:Option Nat} {P:Program} {Q:Exit→Act→World→Prop} {l:List Oper} {a a':Act} {w w':World}
theorem QD {pr:Nat→aj→GH→Prop} {S:Nat→Bool} {i:Nat} (hi:dX l i=none) (HT:St N D w0 F G0 G1 L T a w) (hG:∀ k o,G k=some o→G1 k=some o) (hv:∀ i d,S i=true→dX l i=some d→∃ v,a.tmps[d]?=some v∧pr i v G1)
  (H:St N D w0 F G0 G1 L2 (Xs++full N a) a w'):DX N D w0 F G0 G L2 T l pr (cZ S i) a w' :=
 ⟨G1,hG,HT.move H.hp,fun j e hj he=>hv j e (by
  unfold cZ at hj
  by_cases hji:j=i
  ·subst hji;rw [hi] at he;cases he
  ·rwa [ah hji] at hj) he⟩
theorem aea {id:Nat} (hm:P.follows .mixedOrders=true) (bJ:List (List Nat)) (B:List Nat) (hk:wD l bJ=true) (hB:uQ l bJ B=true) (m:Nat) (JZ:B.contains m=false) (pr:Nat→aj→GH→Prop) (ix:Nat) (ob:Nat × Obj)
  (H:St N D w0 F G0 G L T a w)
  (hstep:allI (fun i o=>∀ S a w G1,B.contains i=false→Nat.beq i m=false→S i=false→(∀ j∈bJ.getD i [],S j=true)→(∀ k o,G k=some o→G1 k=some o)→St N D w0 F G0 G1 L T a w→(∀ i d,S i=true→dX l i=some d→∃ v,a.tmps[d]?=some v∧pr i v G1) →
   WL r P l.toArray (fun e a' w'=>e=.normal∧DX N D w0 F G0 G L T l pr (cZ S i) a' w') [o] a w) 0 l)
  (hmid:∀ o S a w G1,l[m]?=some o→S m=false→(∀ j∈bJ.getD m [],S j=true)→(∀ k o,G k=some o→G1 k=some o)→St N D w0 F G0 G1 L T a w→(∀ i d,S i=true→dX l i=some d→∃ v,a.tmps[d]?=some v∧pr i v G1) →
   WL r P l.toArray (fun e a' w'=>e=.normal∧DX N D w0 F G0 G (L.set ix ob) T l pr (cZ S m) a' w') [o] a w)
  (hstep2:allI (fun i o=>∀ S a w G1,(B.contains i || (bJ.getD m []).contains i)=false→Nat.beq i m=false→S i=false→(∀ j∈bJ.getD i [],S j=true)→(∀ k o,G k=some o→G1 k=some o)→St N D w0 F G0 G1 (L.set ix ob) T a w→(∀ i d,S i=true→dX l i=some d→∃ v,a.tmps[d]?=some v∧pr i v G1) →
   WL r P l.toArray (fun e a' w'=>e=.normal∧DX N D w0 F G0 G (L.set ix ob) T l pr (cZ S i) a' w') [o] a w) 0 l)
  (hend:∀ a w G1,(∀ k o,G k=some o→G1 k=some o)→St N D w0 F G0 G1 (L.set ix ob) T a w→(∀ i d,B.contains i=false→dX l i=some d→∃ v,a.tmps[d]?=some v∧pr i v G1)→WL r P l.toArray (fun e a w=>e=.normal∧Q .normal a w) (oh l B) a w)
  (hml:Nat.blt m l.length=true):WP r P (.region id l.toArray true) Q a w:=by
 refine Ei hm bJ B hk hB (fun S a w=>(S m=false∧DX N D w0 F G0 G L T l pr S a w)∨(S m=true∧DX N D w0 F G0 G (L.set ix ob) T l pr S a w))
  (.inl ⟨rfl,G,fun _ _ h=>h,H.move H.hp.drew,fun _ _ h=>absurd (show false=true from h) (by decide)⟩) ?_ ?_
 ·rintro i o S a w ho hb aL iK hdesc hX
  by_cases him:i=m
  ·subst him
   rcases hX with ⟨_,G1,hG,HS,hv⟩|⟨h1,_⟩
   ·have h:=hmid o S a w G1 ho aL iK hG HS hv
    have e1:cZ S i i=true:=av rfl
    exact lC (fun e a' w' ⟨he,hD⟩=>⟨he,.inr ⟨e1,hD⟩⟩) h
   ·rw [h1] at aL;cases aL
  ·have e:cZ S i m=S m:=ah (fun h=>him h.symm)
   rcases hX with ⟨h1,G1,hG,HS,hv⟩|⟨h1,G1,hG,HS,hv⟩
   ·have h:=yH hstep i o ho
    rw [fU] at h
    exact lC (fun e' a' w' ⟨he,hD⟩=>⟨he,.inl ⟨e.trans h1,hD⟩⟩) (h S a w G1 hb (nW him) aL iK hG HS hv)
   ·have h:=yH hstep2 i o ho
    rw [fU] at h
    have hnc:(B.contains i || (bJ.getD m []).contains i)=false:=by
     rw [hb,Bool.false_or]
     cases hc2:(bJ.getD m []).contains i with
     | false=>rfl
     | true=>have:=hdesc m (Eq.mp Nat.blt_eq hml) (xD.1 hc2);rw [h1] at this;cases this
    exact lC (fun e' a' w' ⟨he,hD⟩=>⟨he,.inr ⟨e.trans h1,hD⟩⟩) (h S a w G1 hnc (nW him) aL iK hG HS hv)
 ·rintro S a w hall H8 hX
  have HZ:S m=true:=hall m (Eq.mp Nat.blt_eq hml) JZ
  rcases hX with ⟨h1,_⟩|⟨h1,G1,hG,HS,hv⟩
  ·rw [h1] at HZ;cases HZ
  ·exact hend a w G1 hG HS fun j d hb hd=>hv j d (hall j (qB hd) hb) hd
end
end
section
open Go.RowKit
theorem anv:liesAt prog prog.depth 340 (7 / prog.cellsOf 340) 2 172 1=true:=by kernel_rfl
instance Vf:Ty prog 5 1 1 [.int .u8 0] false:=⟨by kernel_rfl,by kernel_rfl⟩
abbrev gK (b:Nat) (s:ByteArray) (i:Int) (p v q:aj) (pl e:Int):Nat × Obj:=(b,.cells #[.string s,vi i,p,v,q,vi pl,vi e] 340 (0,0))
theorem aqv (G:GH) (L:OL) (w0:World) (b:Nat) (s:ByteArray) (i:Int) (A:Option Addr) (n c:Nat) (B:Option Addr) (m d:Nat) (pl e:Int) (hO:fT G (gK b s i (.pointer none) (.slice A n c) (.slice B m d) pl e :: L) w0) :
  Calls prog 154 #[(aG b 2)] w0 (fI w0 G (gK b s i (.pointer none) (.slice A n c) (.slice B m d) pl e :: L) fun u G' L'=>L'=gK b s i (aG b 2) (.slice A n c) (.slice B m d) pl e :: L∧G'=G):=by
 refine jf (N:=20) (T:=[(0,_)]) func154 rfl ntmps154 rfl rfl hO ?_;refine ak 5 ?_;intro a H;refine abH IC H wn rfl rfl ?_;clear H;refine goC 1 ?_ ?_
 ·intro h6
  refine ak 3 ?_;intro a H;refine aqn IC Vm U4 H wn rfl 0 rfl rfl rfl ?_;clear H;intro a H;refine aqd (xs:=[.tmp 9]) (aoa _) H wn rfl rfl ?_;clear H;intro a H;refine apY Vm IC U4 H wn rfl 0 rfl anv rfl ?_;clear H;refine ak 2 ?_;intro a H;refine aX acr 0 (vs:=[_]) _ H wn rfl rfl rfl rfl rfl rfl rfl rfl ?_;clear H;intro w H;dsimp only [List.set,setRow] at H;refine aC ?_;refine (leave0 H results154 ?_).2;exact H.hp.dG ⟨rfl,rfl⟩
 intro h6
 intro a H;exact absurd h6 (by decide)
theorem aqw (G:GH) (L:OL) (w0:World) (b:Nat) (s:ByteArray) (i:Int) (A:Option Addr) (n c:Nat) (B:Option Addr) (m d:Nat) (pl e:Int) (hO:fT G (gK b s i (aG b 2) (.slice A n c) (.slice B m d) pl e :: L) w0) :
  Calls prog 154 #[(aG b 2)] w0 (fI w0 G (gK b s i (aG b 2) (.slice A n c) (.slice B m d) pl e :: L) fun u G' L'=>L'=gK b s i (aG b 2) (.slice A n c) (.slice B m d) pl e :: L∧G'=G):=by
 refine jf (N:=20) (T:=[(0,_)]) func154 rfl ntmps154 rfl rfl hO ?_;refine ak 5 ?_;intro a H;refine abH IC H wn rfl rfl ?_;clear H;refine goC 1 ?_ ?_
 ·intro h6
  intro a H;exact absurd h6 (by simp)
 intro h6
 refine ak 6 ?_;intro a H;refine aqb IC U4 H wn rfl rfl rfl ?_;clear H;refine goC 1 ?_ ?_
 ·intro h19
  intro a H;exact absurd h19 (by decide)
 intro h19
 intro a H;refine jL ?_;refine (leave0 H results154 ?_).2;exact H.hp.dG ⟨rfl,rfl⟩
theorem aqx (G:GH) (L:OL) (w0:World) (b:Nat) (s:ByteArray) (i:Int) (p:aj) (A:Option Addr) (n c:Nat) (B:Option Addr) (m d:Nat) (pl e:Int) (hp:p=.pointer none∨p=(aG b 2)) (hO:fT G (gK b s i p (.slice A n c) (.slice B m d) pl e :: L) w0) :
  Calls prog 154 #[(aG b 2)] w0 (fI w0 G (gK b s i p (.slice A n c) (.slice B m d) pl e :: L) fun u G' L'=>L'=gK b s i (aG b 2) (.slice A n c) (.slice B m d) pl e :: L∧G'=G):=by
 rcases hp with rfl|rfl
 ·exact aqv G L w0 b s i A n c B m d pl e hO
 exact aqw G L w0 b s i A n c B m d pl e hO
theorem acN (G:GH) (Lp Lo:OL) (w0:World) (b:Nat) (s:ByteArray) (i:Int) (p v:aj) (B:Option Addr) (m d:Nat) (pl e:Int) (n:Nat) (xs:List aj) (c:Int) (hp:p=.pointer none∨p=(aG b 2)) (hO:fT G (gK b s i p v (.slice B m d) pl e :: (Lp++Lo)) w0) (hrow:bV 5 1 v n xs Lo) (hn:n≤4294967296) :
  Calls prog 273 #[(aG b 2),.int .u8 c] w0 (fI w0 G (gK b s i p v (.slice B m d) pl e :: (Lp++Lo)) fun u G' L'=>∃ v' kF,L'=gK b s i (aG b 2) v' (.slice B m d) pl e :: (Lp++kF)∧bV 5 1 v' (n+1) (xs++[.int .u8 c]) kF∧G'=G):=by
 have hml:maxLen=9223372036854775807:=rfl;obtain ⟨A,c0,rfl,-,-⟩:=hrow.shape;obtain ⟨Lt,oV⟩:∃ x,x=Lp++Lo:=⟨_,rfl⟩;rw [← oV] at hO ⊢;refine jf (N:=17) (T:=[(0,_),(1,_)]) func273 rfl ntmps273 rfl rfl hO ?_;refine ak 5 ?_;intro a H;refine gy agx (Li:=[]) (L:=gK b s i p _ (.slice B m d) pl e :: Lt) H wn rfl (aqx _ _ _ b s i p A n c0 B m d pl e hp (Hp.owns (Li:=[]) H.hp)) rfl ?_;clear H;rintro v6 _ L6 a w ⟨rfl,rfl⟩ EK H;dsimp only [List.nil_append] at H;refine aD 8 H ?_;clear H;intro a H;refine gG KY Vf [_] [_] H wn rfl rfl rfl rfl rfl (by intro i q h;match i,h with|0,h=>exact h|n+1,h=>simp at h) rfl rfl ?_;clear H;intro b13 a w JN H;subst oV;have H:=St.un (A:=[_,_]) (B:=Lp) (C:=Lo) H;refine lJ (Li:=[_,_]++Lp) (Lo:=Lo) (news:=[.int .u8 c]) KY Vf rfl rfl H wn rfl rfl hrow rfl (H.hp.bO 0 rfl rfl) rfl (by omega) (by omega) rfl ?_;clear H;intro v14 ado a w Kj H;obtain ⟨Px,c14,rfl,-,-⟩:=Kj.shape;have H:=H.assoc;dsimp only [lca,bG] at H;refine aD 2 H ?_;clear H;intro a H;refine aX O9 1 (vs:=[_]) _ H wn rfl rfl rfl rfl rfl rfl rfl rfl ?_;clear H;intro w H;dsimp only [List.set,setRow] at H;refine aD 4 H ?_;clear H;intro a H;refine lr H results273 rfl ?_;exact H.hp.kC (L':=gK b s i _ _ _ pl e :: (Lp++ado)) (zX _ _) ⟨_,_,rfl,Kj,rfl⟩
theorem aqW (G:GH) (L:OL) (w0:World) (b:Nat) (s:ByteArray) (i:Int) (p:aj) (A:Option Addr) (n c:Nat) (B:Option Addr) (m d:Nat) (pl e:Int) (hO:fT G (gK b s i p (.slice A n c) (.slice B m d) pl e :: L) w0) :
  Calls prog 279 #[(aG b 2)] w0 (fI w0 G (gK b s i p (.slice A n c) (.slice B m d) pl e :: L) fun u G' L'=>u=vi n∧L'=gK b s i p (.slice A n c) (.slice B m d) pl e :: L∧G'=G):=by
 refine jf (N:=8) (T:=[(0,_)]) func279 rfl ntmps279 rfl rfl hO ?_;refine ak 11 ?_;intro a H;refine lr H results279 rfl ?_;exact H.hp.dG ⟨rfl,rfl,rfl⟩
theorem arp (G:GH) (L:OL) (w0:World) (b:Nat) (s:ByteArray) (i:Int) (p:aj) (A:Option Addr) (n c:Nat) (B:Option Addr) (m d:Nat) (pl e:Int) (hO:fT G (gK b s i p (.slice A n c) (.slice B m d) pl e :: L) w0) :
  Calls prog 280 #[(aG b 2)] w0 (fI w0 G (gK b s i p (.slice A n c) (.slice B m d) pl e :: L) fun u G' L'=>L'=gK b s i (.pointer none) (.slice none 0 0) (.slice B m d) pl e :: L∧G'=G):=by
 refine jf (N:=8) (T:=[(0,_)]) func280 rfl ntmps280 rfl rfl hO ?_;refine ak 4 ?_;intro a H;refine aX acr 0 (vs:=[_]) _ H wn rfl rfl rfl rfl rfl rfl rfl rfl ?_;clear H;intro w H;dsimp only [List.set,setRow] at H;refine aD 5 H ?_;clear H;intro a H;refine aX O9 0 (vs:=[_]) _ H wn rfl rfl rfl rfl rfl rfl rfl rfl ?_;clear H;intro w H;dsimp only [List.set,setRow] at H;refine aC ?_;refine (leave0 H results280 ?_).2;exact H.hp.dG ⟨rfl,rfl⟩
theorem arq (G:GH) (Lp Lo:OL) (w0:World) (b:Nat) (s:ByteArray) (i:Int) (p v:aj) (B:Option Addr) (m d:Nat) (pl e:Int) (l:List UInt8) (hO:fT G (gK b s i p v (.slice B m d) pl e :: (Lp++Lo)) w0) (hrow:bV 5 1 v l.length (Lib.byteCells l) Lo) (h0:l≠[]) :
  Calls prog 94 #[(aG b 2)] w0 (fI w0 G (gK b s i p v (.slice B m d) pl e :: (Lp++Lo)) fun u G' L'=>u=.string ⟨l.toArray⟩∧L'=gK b s i p v (.slice B m d) pl e :: Lp):=by
 rcases hrow.2 with ⟨-,h,-⟩|⟨b2,cap,cur,rfl,rfl,hc1,hc2,hc3,hc4⟩
 ·exact absurd (List.eq_nil_of_length_eq_zero h) h0
 have hl0:l.length≠0:=fun h=>h0 (List.eq_nil_of_length_eq_zero h);have hml:maxLen=9223372036854775807:=rfl;obtain ⟨Lt,oV⟩:∃ x,x=Lp++[(b2,Obj.cells cur 5 (0,0))]:=⟨_,rfl⟩;rw [← oV] at hO ⊢;refine jf (N:=14) (T:=[(0,_)]) func94 rfl ntmps94 rfl rfl hO ?_;refine ak 4 ?_;intro a H;have H:=H.sub (T':=[(0,_)]) ⟨rfl,bq⟩;refine dI hmx [[],[0],[0,1],[0,1,2],(ra 0 4),[],[5],[5,6],[5,6,7],(ra 5 4),(ra 0 10),(ra 0 11)] [10,11] (by kernel_rfl) [_,_,_,.slice (some ⟨b2,0,none⟩) l.length cap,(aG b2 0),_,_,_,.slice (some ⟨b2,0,none⟩) l.length cap,_] H (aF (Z0 rfl (Rm rfl)) (Z1 0 3 rfl (Rk rfl)) (Z1 1 4 rfl (Rf Yh rfl)) (Z1 2 5 rfl (Ro O9 0 rfl)) (aF ?_ (Z0 rfl (Rm rfl)) (Z1 5 8 rfl (Rk rfl)) (Z1 6 9 rfl (Rf Yh rfl)) (aF (Z1 7 10 rfl (Ro O9 0 rfl)) (Z1 8 11 rfl (Rl KY rfl)) (bQ rfl) (bQ rfl) cO))) ?_
 ·refine dZ 3 6 rfl rfl fun _ a w G1 hG HT H fin=>?_;refine aqj H wn rfl (by omega) rfl ?_;clear H;intro a H;exact fin H iJ rfl
 clear H;intro a w G iN H hv;have H:=H.aN (hv 4 7 rfl rfl) rfl;have H:=H.aN (hv 9 12 rfl rfl) rfl;clear hv;subst oV;have H:=H.perm (List.Perm.cons _ ug);dsimp only [lca,bG] at H;refine aqo (i:=1) l acw aev h0 (by omega) H wn rfl rfl rfl (by rw [← hc4,Nat.mul_one]) rfl ?_;clear H;intro fz a w H;dsimp only [List.set] at H;refine kH H (Ra rfl ?_);clear H;intro a H;refine aC ⟨rfl,?_⟩;refine dQ ?_;refine lr H results94 rfl ?_;exact H.hp.kC (L':=gK b s i _ _ _ pl e :: Lp) (List.Sublist.cons_cons _ (zX _ _)) ⟨rfl,rfl⟩
end
section
open Go.RowKit
section
variable {N:Nat} {D:List Deferred} {w0:World} {F:Nat→Prop} {G0 G G1 G2:GH} {L L1 L2:OL} {T Xs:List (Nat × aj)}
variable {r:Option Nat} {P:Program} {Q:Exit→Act→World→Prop} {l:List Oper} {a a':Act} {w w':World}
theorem DX.perm {pr:Nat→aj→GH→Prop} {S:Nat→Bool} (h:DX N D w0 F G0 G L1 T l pr S a w) (hp:L1.Perm L2):DX N D w0 F G0 G L2 T l pr S a w:=by
 obtain ⟨G1,hG,HS,hv⟩:=h
 exact ⟨G1,hG,HS.perm hp,hv⟩
end
end
end Go.Proofs.YtdiflmikikiedaaGreat
