/-
  The tables of classes of packages grapheme and segment.
-/
import Derived.Test.YtpmcdlhhfbobfaaDoorBst
import Derived.Test.YtpmcdlhhfbobfaaDoorBd
namespace Go.Proofs.YtpmcdlhhfbobfaaDoor
open Go.RowKit
theorem un128spn : Tryd.prog.underlying 128 = some (.slice 138) := by kernel_rfl
theorem ty138spn : Ty Tryd.prog 138 3 24 [.int .i64 0, .int .i64 0, .int .i64 0] true := ⟨by kernel_rfl, by kernel_rfl⟩
theorem sr138spn : Srt Tryd.prog 138 [(0, 1), (1, 1), (2, 1)] [.int .i64 0, .int .i64 0, .int .i64 0] := ⟨by kernel_rfl, by kernel_rfl⟩
theorem un96spn : Tryd.prog.underlying 96 = some (.slice 117) := by kernel_rfl
theorem ty117spn : Ty Tryd.prog 117 3 24 [.int .i64 0, .int .i64 0, .int .i64 0] true := ⟨by kernel_rfl, by kernel_rfl⟩
theorem sr117spn : Srt Tryd.prog 117 [(0, 1), (1, 1), (2, 1)] [.int .i64 0, .int .i64 0, .int .i64 0] := ⟨by kernel_rfl, by kernel_rfl⟩
theorem en56spn : ∀ args w, (callFunc 56 args).run Tryd.prog w = .ok (.enter 56 args) w := enters Tryd.func56 rfl (by kernel_rfl)
theorem en57spn : ∀ args w, (callFunc 57 args).run Tryd.prog w = .ok (.enter 57 args) w := enters Tryd.func57 rfl (by kernel_rfl)
structure SpanD where
  low : Int
  high : Int
  cls : Int
def SpanD.dat (x : SpanD) : List Dat := [li x.low, li x.high, li x.cls]
def SpanD.cells (x : SpanD) : List Value := [vi x.low, vi x.high, vi x.cls]
theorem span_row (G : GH) (x : SpanD) : RepRow G x.dat x.cells := by
  simp only [SpanD.dat, SpanD.cells, RepRow]
  exact ⟨_, _, rfl, by simp [RepV, Value.oneCell'], _, _, rfl, by simp [RepV, Value.oneCell'], _, _, rfl, by simp [RepV, Value.oneCell'], rfl⟩
theorem span_cat (G : GH) : ∀ (B A : List SpanD), RepCat G 3 (A.map SpanD.dat) (A.map SpanD.cells).flatten → RepCat G 3 ((A ++ B).map SpanD.dat) ((A ++ B).map SpanD.cells).flatten
  | [], A, h => by rw [List.append_nil]; exact h
  | x :: B, A, h => by
    have h2 := h.snoc (span_row G x) rfl
    have h3 := span_cat G B (A ++ [x]) (by simpa using h2)
    simpa using h3
theorem spans_cat (G : GH) (A : List SpanD) : RepCat G 3 (A.map SpanD.dat) (A.map SpanD.cells).flatten := span_cat G A [] RepCat.nil
theorem span_of {G : GH} {x : SpanD} {cs : List Value} (h : RepRow G x.dat cs) : cs = x.cells := by
  simp only [SpanD.dat, RepRow, RepV] at h
  obtain ⟨v1, _, rfl, ⟨rfl, -⟩, v2, _, rfl, ⟨rfl, -⟩, v3, _, rfl, ⟨rfl, -⟩, rfl⟩ := h
  rfl
theorem span_at {G : GH} {l : List SpanD} {A : Option Addr} {n c k : Nat} (hv : RepV G (.sl 3 (l.map SpanD.dat)) (.slice A n c)) (hk : k < l.length) : ∃ b o, A = some ⟨b, o, none⟩ ∧ (∀ j u, l[k].cells[j]? = some u → gcell G b (o + k * 3 + j) = some u) := by
  obtain ⟨A', c', he, _, _, hg⟩ := hv.slice
  injection he with e1 e2 e3
  subst e1
  obtain ⟨b, o, cs, h1, h2, h3, h4⟩ := hg k l[k].dat (by simp [hk])
  obtain rfl := span_of h4
  exact ⟨b, o, h1, h3⟩
theorem IsRow.all {e sz b n : Nat} {xs : List Value} (h : xs.length = n * sz) (hn : n ≤ maxLen) : IsRow e sz (.slice (some ⟨b, 0, none⟩) n n) n xs [(b, .cells xs.toArray e (0, 0))] :=
  ⟨h, .inr ⟨b, n, xs.toArray, rfl, rfl, Nat.le_refl _, hn, by simp [h], by simp [← h]⟩⟩
def gTab : List SpanD := [⟨0, 9, 3⟩, ⟨10, 10, 2⟩, ⟨11, 12, 3⟩, ⟨13, 13, 1⟩, ⟨14, 31, 3⟩, ⟨127, 159, 3⟩, ⟨169, 169, 14⟩, ⟨173, 173, 3⟩, ⟨174, 174, 14⟩, ⟨768, 879, 4⟩, ⟨1155, 1161, 4⟩, ⟨1425, 1469, 4⟩, ⟨1471, 1471, 4⟩, ⟨1473, 1474, 4⟩, ⟨1476, 1477, 4⟩, ⟨1479, 1479, 4⟩, ⟨1536, 1541, 6⟩, ⟨1552, 1562, 4⟩, ⟨1611, 1631, 4⟩, ⟨1648, 1648, 4⟩, ⟨1750, 1756, 4⟩, ⟨1757, 1757, 6⟩, ⟨1759, 1764, 4⟩, ⟨1767, 1768, 4⟩, ⟨1770, 1773, 4⟩, ⟨1807, 1807, 6⟩, ⟨2274, 2274, 6⟩, ⟨2307, 2307, 7⟩, ⟨2362, 2362, 4⟩, ⟨2363, 2363, 7⟩, ⟨2364, 2364, 4⟩, ⟨2366, 2368, 7⟩, ⟨2369, 2376, 4⟩, ⟨2377, 2380, 7⟩, ⟨2381, 2381, 4⟩, ⟨2382, 2383, 7⟩, ⟨3633, 3633, 4⟩, ⟨3635, 3635, 7⟩, ⟨3636, 3642, 4⟩, ⟨3655, 3662, 4⟩, ⟨3763, 3763, 7⟩, ⟨4352, 4447, 8⟩, ⟨4448, 4519, 9⟩, ⟨4520, 4607, 10⟩, ⟨6832, 6911, 4⟩, ⟨7616, 7679, 4⟩, ⟨8203, 8203, 3⟩, ⟨8204, 8204, 4⟩, ⟨8205, 8205, 5⟩, ⟨8206, 8207, 3⟩, ⟨8232, 8238, 3⟩, ⟨8252, 8252, 14⟩, ⟨8265, 8265, 14⟩, ⟨8288, 8303, 3⟩, ⟨8400, 8447, 4⟩, ⟨8482, 8482, 14⟩, ⟨8505, 8505, 14⟩, ⟨8596, 8601, 14⟩, ⟨8617, 8618, 14⟩, ⟨8986, 8987, 14⟩, ⟨9193, 9203, 14⟩, ⟨9728, 9732, 14⟩, ⟨9748, 9749, 14⟩, ⟨9786, 9786, 14⟩, ⟨9800, 9811, 14⟩, ⟨9989, 9989, 14⟩, ⟨9992, 9997, 14⟩, ⟨10024, 10024, 14⟩, ⟨10084, 10084, 14⟩, ⟨10133, 10135, 14⟩, ⟨11088, 11088, 14⟩, ⟨12330, 12335, 4⟩, ⟨12441, 12442, 4⟩, ⟨43360, 43388, 8⟩, ⟨55216, 55238, 9⟩, ⟨55243, 55291, 10⟩, ⟨65024, 65039, 4⟩, ⟨65056, 65071, 4⟩, ⟨65279, 65279, 3⟩, ⟨65520, 65531, 3⟩, ⟨69821, 69821, 6⟩, ⟨126976, 127231, 14⟩, ⟨127462, 127487, 13⟩, ⟨127744, 127994, 14⟩, ⟨127995, 127999, 4⟩, ⟨128000, 128591, 14⟩, ⟨128640, 128767, 14⟩, ⟨129280, 129535, 14⟩, ⟨129648, 129791, 14⟩, ⟨917504, 917535, 3⟩, ⟨917536, 917631, 4⟩, ⟨917632, 917759, 3⟩, ⟨917760, 917999, 4⟩, ⟨918000, 921599, 3⟩]
def sLow : List SpanD := [⟨9, 9, 2⟩, ⟨10, 13, 1⟩, ⟨29, 29, 1⟩, ⟨32, 32, 2⟩, ⟨33, 33, 9⟩, ⟨39, 39, 11⟩, ⟨40, 40, 8⟩, ⟨41, 41, 9⟩, ⟨44, 44, 10⟩, ⟨45, 45, 12⟩, ⟨46, 46, 10⟩, ⟨48, 57, 6⟩, ⟨58, 59, 9⟩, ⟨63, 63, 9⟩, ⟨65, 90, 5⟩, ⟨91, 91, 8⟩, ⟨93, 93, 9⟩, ⟨95, 95, 5⟩, ⟨97, 122, 5⟩, ⟨123, 123, 8⟩, ⟨125, 125, 9⟩, ⟨133, 133, 1⟩, ⟨160, 160, 3⟩, ⟨170, 170, 5⟩, ⟨171, 171, 8⟩, ⟨173, 173, 4⟩, ⟨181, 181, 5⟩, ⟨183, 183, 11⟩, ⟨186, 186, 5⟩, ⟨187, 187, 9⟩, ⟨192, 214, 5⟩, ⟨216, 246, 5⟩, ⟨248, 687, 5⟩, ⟨880, 883, 5⟩, ⟨886, 887, 5⟩, ⟨891, 893, 5⟩, ⟨895, 895, 5⟩, ⟨902, 902, 5⟩, ⟨904, 1153, 5⟩, ⟨1162, 1327, 5⟩, ⟨1329, 1366, 5⟩, ⟨1377, 1415, 5⟩, ⟨1488, 1514, 5⟩, ⟨1568, 1610, 5⟩, ⟨1632, 1641, 6⟩, ⟨1643, 1643, 10⟩, ⟨1649, 1747, 5⟩, ⟨1776, 1785, 6⟩, ⟨2308, 2361, 5⟩, ⟨2392, 2401, 5⟩, ⟨2406, 2415, 6⟩, ⟨3585, 3632, 5⟩, ⟨3648, 3654, 5⟩, ⟨3664, 3673, 6⟩, ⟨4256, 4351, 5⟩, ⟨4352, 4607, 5⟩]
def sHigh : List SpanD := [⟨5760, 5760, 2⟩, ⟨7680, 8191, 5⟩, ⟨8192, 8198, 2⟩, ⟨8199, 8199, 3⟩, ⟨8200, 8202, 2⟩, ⟨8208, 8208, 12⟩, ⟨8211, 8211, 12⟩, ⟨8212, 8212, 13⟩, ⟨8216, 8216, 8⟩, ⟨8217, 8217, 11⟩, ⟨8220, 8220, 8⟩, ⟨8221, 8221, 9⟩, ⟨8230, 8230, 9⟩, ⟨8232, 8233, 1⟩, ⟨8239, 8239, 3⟩, ⟨8287, 8287, 2⟩, ⟨8288, 8288, 3⟩, ⟨12288, 12288, 2⟩, ⟨12289, 12290, 9⟩, ⟨12296, 12296, 8⟩, ⟨12297, 12297, 9⟩, ⟨12298, 12298, 8⟩, ⟨12299, 12299, 9⟩, ⟨12300, 12300, 8⟩, ⟨12301, 12301, 9⟩, ⟨12302, 12302, 8⟩, ⟨12303, 12303, 9⟩, ⟨12304, 12304, 8⟩, ⟨12305, 12305, 9⟩, ⟨12308, 12308, 8⟩, ⟨12309, 12309, 9⟩, ⟨12353, 12438, 7⟩, ⟨12449, 12538, 7⟩, ⟨12549, 12591, 7⟩, ⟨13312, 19903, 7⟩, ⟨19968, 40959, 7⟩, ⟨44032, 55203, 5⟩, ⟨63744, 64255, 7⟩, ⟨65279, 65279, 3⟩, ⟨65296, 65305, 6⟩, ⟨127744, 128591, 7⟩, ⟨128640, 128767, 7⟩, ⟨129280, 129535, 7⟩, ⟨131072, 195103, 7⟩]
def sTab : List SpanD := sLow ++ sHigh
set_option maxRecDepth 20000 in
theorem gtable_spec (G : GH) (w0 : World) (hG : Hold G w0) : Calls Tryd.prog 64 #[] w0 (Ret w0 G fun u G' => RepV G' (.sl 3 (gTab.map SpanD.dat)) u) := by
  refine enter (N := 96) (T := []) (F := fun k => k < w0.heap.size) (L := []) Tryd.func64 rfl Tryd.ntmps64 rfl rfl hG (fun _ h => h) (fun _ h => by cases h) (fun _ h => by cases h) (fun _ h => by cases h) List.Pairwise.nil ?_
  intro a H
  refine c_seq (fun _ hK1 => ?_)
  refine c_region ?_
  refine s_assign H wn rfl rfl ?_; clear H; intro a H
  refine wl_nil ?_
  refine hK1 _ _ ?_; clear hK1
  refine c_seq (fun _ hK2 => ?_)
  refine c_region ?_
  refine s_build sr138spn [_, _, _] H wn rfl rfl rfl rfl ?_; clear H; intro a H
  refine s_build sr138spn [_, _, _] H wn rfl rfl rfl rfl ?_; clear H; intro a H
  refine s_build sr138spn [_, _, _] H wn rfl rfl rfl rfl ?_; clear H; intro a H
  refine s_build sr138spn [_, _, _] H wn rfl rfl rfl rfl ?_; clear H; intro a H
  refine s_build sr138spn [_, _, _] H wn rfl rfl rfl rfl ?_; clear H; intro a H
  refine s_build sr138spn [_, _, _] H wn rfl rfl rfl rfl ?_; clear H; intro a H
  refine s_build sr138spn [_, _, _] H wn rfl rfl rfl rfl ?_; clear H; intro a H
  refine s_build sr138spn [_, _, _] H wn rfl rfl rfl rfl ?_; clear H; intro a H
  refine s_build sr138spn [_, _, _] H wn rfl rfl rfl rfl ?_; clear H; intro a H
  refine s_build sr138spn [_, _, _] H wn rfl rfl rfl rfl ?_; clear H; intro a H
  refine s_build sr138spn [_, _, _] H wn rfl rfl rfl rfl ?_; clear H; intro a H
  refine s_build sr138spn [_, _, _] H wn rfl rfl rfl rfl ?_; clear H; intro a H
  refine s_build sr138spn [_, _, _] H wn rfl rfl rfl rfl ?_; clear H; intro a H
  refine s_build sr138spn [_, _, _] H wn rfl rfl rfl rfl ?_; clear H; intro a H
  refine s_build sr138spn [_, _, _] H wn rfl rfl rfl rfl ?_; clear H; intro a H
  refine s_build sr138spn [_, _, _] H wn rfl rfl rfl rfl ?_; clear H; intro a H
  refine s_build sr138spn [_, _, _] H wn rfl rfl rfl rfl ?_; clear H; intro a H
  refine s_build sr138spn [_, _, _] H wn rfl rfl rfl rfl ?_; clear H; intro a H
  refine s_build sr138spn [_, _, _] H wn rfl rfl rfl rfl ?_; clear H; intro a H
  refine s_build sr138spn [_, _, _] H wn rfl rfl rfl rfl ?_; clear H; intro a H
  refine s_build sr138spn [_, _, _] H wn rfl rfl rfl rfl ?_; clear H; intro a H
  refine s_build sr138spn [_, _, _] H wn rfl rfl rfl rfl ?_; clear H; intro a H
  refine s_build sr138spn [_, _, _] H wn rfl rfl rfl rfl ?_; clear H; intro a H
  refine s_build sr138spn [_, _, _] H wn rfl rfl rfl rfl ?_; clear H; intro a H
  refine s_build sr138spn [_, _, _] H wn rfl rfl rfl rfl ?_; clear H; intro a H
  refine s_build sr138spn [_, _, _] H wn rfl rfl rfl rfl ?_; clear H; intro a H
  refine s_build sr138spn [_, _, _] H wn rfl rfl rfl rfl ?_; clear H; intro a H
  refine s_build sr138spn [_, _, _] H wn rfl rfl rfl rfl ?_; clear H; intro a H
  refine s_build sr138spn [_, _, _] H wn rfl rfl rfl rfl ?_; clear H; intro a H
  refine s_build sr138spn [_, _, _] H wn rfl rfl rfl rfl ?_; clear H; intro a H
  refine s_build sr138spn [_, _, _] H wn rfl rfl rfl rfl ?_; clear H; intro a H
  refine s_build sr138spn [_, _, _] H wn rfl rfl rfl rfl ?_; clear H; intro a H
  refine s_build sr138spn [_, _, _] H wn rfl rfl rfl rfl ?_; clear H; intro a H
  refine s_build sr138spn [_, _, _] H wn rfl rfl rfl rfl ?_; clear H; intro a H
  refine s_build sr138spn [_, _, _] H wn rfl rfl rfl rfl ?_; clear H; intro a H
  refine s_build sr138spn [_, _, _] H wn rfl rfl rfl rfl ?_; clear H; intro a H
  refine s_build sr138spn [_, _, _] H wn rfl rfl rfl rfl ?_; clear H; intro a H
  refine s_build sr138spn [_, _, _] H wn rfl rfl rfl rfl ?_; clear H; intro a H
  refine s_build sr138spn [_, _, _] H wn rfl rfl rfl rfl ?_; clear H; intro a H
  refine s_build sr138spn [_, _, _] H wn rfl rfl rfl rfl ?_; clear H; intro a H
  refine s_build sr138spn [_, _, _] H wn rfl rfl rfl rfl ?_; clear H; intro a H
  refine s_build sr138spn [_, _, _] H wn rfl rfl rfl rfl ?_; clear H; intro a H
  refine s_build sr138spn [_, _, _] H wn rfl rfl rfl rfl ?_; clear H; intro a H
  refine s_build sr138spn [_, _, _] H wn rfl rfl rfl rfl ?_; clear H; intro a H
  refine s_build sr138spn [_, _, _] H wn rfl rfl rfl rfl ?_; clear H; intro a H
  refine s_build sr138spn [_, _, _] H wn rfl rfl rfl rfl ?_; clear H; intro a H
  refine s_build sr138spn [_, _, _] H wn rfl rfl rfl rfl ?_; clear H; intro a H
  refine s_build sr138spn [_, _, _] H wn rfl rfl rfl rfl ?_; clear H; intro a H
  refine s_build sr138spn [_, _, _] H wn rfl rfl rfl rfl ?_; clear H; intro a H
  refine s_build sr138spn [_, _, _] H wn rfl rfl rfl rfl ?_; clear H; intro a H
  refine s_build sr138spn [_, _, _] H wn rfl rfl rfl rfl ?_; clear H; intro a H
  refine s_build sr138spn [_, _, _] H wn rfl rfl rfl rfl ?_; clear H; intro a H
  refine s_build sr138spn [_, _, _] H wn rfl rfl rfl rfl ?_; clear H; intro a H
  refine s_build sr138spn [_, _, _] H wn rfl rfl rfl rfl ?_; clear H; intro a H
  refine s_build sr138spn [_, _, _] H wn rfl rfl rfl rfl ?_; clear H; intro a H
  refine s_build sr138spn [_, _, _] H wn rfl rfl rfl rfl ?_; clear H; intro a H
  refine s_build sr138spn [_, _, _] H wn rfl rfl rfl rfl ?_; clear H; intro a H
  refine s_build sr138spn [_, _, _] H wn rfl rfl rfl rfl ?_; clear H; intro a H
  refine s_build sr138spn [_, _, _] H wn rfl rfl rfl rfl ?_; clear H; intro a H
  refine s_build sr138spn [_, _, _] H wn rfl rfl rfl rfl ?_; clear H; intro a H
  refine s_build sr138spn [_, _, _] H wn rfl rfl rfl rfl ?_; clear H; intro a H
  refine s_build sr138spn [_, _, _] H wn rfl rfl rfl rfl ?_; clear H; intro a H
  refine s_build sr138spn [_, _, _] H wn rfl rfl rfl rfl ?_; clear H; intro a H
  refine s_build sr138spn [_, _, _] H wn rfl rfl rfl rfl ?_; clear H; intro a H
  refine s_build sr138spn [_, _, _] H wn rfl rfl rfl rfl ?_; clear H; intro a H
  refine s_build sr138spn [_, _, _] H wn rfl rfl rfl rfl ?_; clear H; intro a H
  refine s_build sr138spn [_, _, _] H wn rfl rfl rfl rfl ?_; clear H; intro a H
  refine s_build sr138spn [_, _, _] H wn rfl rfl rfl rfl ?_; clear H; intro a H
  refine s_build sr138spn [_, _, _] H wn rfl rfl rfl rfl ?_; clear H; intro a H
  refine s_build sr138spn [_, _, _] H wn rfl rfl rfl rfl ?_; clear H; intro a H
  refine s_build sr138spn [_, _, _] H wn rfl rfl rfl rfl ?_; clear H; intro a H
  refine s_build sr138spn [_, _, _] H wn rfl rfl rfl rfl ?_; clear H; intro a H
  refine s_build sr138spn [_, _, _] H wn rfl rfl rfl rfl ?_; clear H; intro a H
  refine s_build sr138spn [_, _, _] H wn rfl rfl rfl rfl ?_; clear H; intro a H
  refine s_build sr138spn [_, _, _] H wn rfl rfl rfl rfl ?_; clear H; intro a H
  refine s_build sr138spn [_, _, _] H wn rfl rfl rfl rfl ?_; clear H; intro a H
  refine s_build sr138spn [_, _, _] H wn rfl rfl rfl rfl ?_; clear H; intro a H
  refine s_build sr138spn [_, _, _] H wn rfl rfl rfl rfl ?_; clear H; intro a H
  refine s_build sr138spn [_, _, _] H wn rfl rfl rfl rfl ?_; clear H; intro a H
  refine s_build sr138spn [_, _, _] H wn rfl rfl rfl rfl ?_; clear H; intro a H
  refine s_build sr138spn [_, _, _] H wn rfl rfl rfl rfl ?_; clear H; intro a H
  refine s_build sr138spn [_, _, _] H wn rfl rfl rfl rfl ?_; clear H; intro a H
  refine s_build sr138spn [_, _, _] H wn rfl rfl rfl rfl ?_; clear H; intro a H
  refine s_build sr138spn [_, _, _] H wn rfl rfl rfl rfl ?_; clear H; intro a H
  refine s_build sr138spn [_, _, _] H wn rfl rfl rfl rfl ?_; clear H; intro a H
  refine s_build sr138spn [_, _, _] H wn rfl rfl rfl rfl ?_; clear H; intro a H
  refine s_build sr138spn [_, _, _] H wn rfl rfl rfl rfl ?_; clear H; intro a H
  refine s_build sr138spn [_, _, _] H wn rfl rfl rfl rfl ?_; clear H; intro a H
  refine s_build sr138spn [_, _, _] H wn rfl rfl rfl rfl ?_; clear H; intro a H
  refine s_build sr138spn [_, _, _] H wn rfl rfl rfl rfl ?_; clear H; intro a H
  refine s_build sr138spn [_, _, _] H wn rfl rfl rfl rfl ?_; clear H; intro a H
  refine s_build sr138spn [_, _, _] H wn rfl rfl rfl rfl ?_; clear H; intro a H
  refine s_build sr138spn [_, _, _] H wn rfl rfl rfl rfl ?_; clear H; intro a H
  refine s_build sr138spn [_, _, _] H wn rfl rfl rfl rfl ?_; clear H; intro a H
  refine s_buildAll un128spn ty138spn (gTab.map SpanD.cells) H wn rfl rfl rfl rfl rfl rfl rfl ?_; clear H; intro b95 a w hb95 H
  refine s_assign H wn rfl rfl ?_; clear H; intro a H
  refine wl_nil ?_
  refine hK2 _ _ ?_; clear hK2
  refine c_ret ?_
  refine (leave1 H Tryd.results64 (.cons (rv_tmp H rfl) .nil) ?_).1
  obtain ⟨Gz, hmz, hbz, H⟩ := H.giveBox
  exact H.hp.ret (RepV.of_row (n := 94) (cap := 94) hbz rfl (Nat.le_refl _) (show 94 ≤ maxLen by decide) (List.take_of_length_le (Nat.le_refl _)) (spans_cat _ _))
set_option maxRecDepth 20000 in
theorem slow_spec (G : GH) (w0 : World) (hO : Owns G [] w0) : Calls Tryd.prog 56 #[] w0 (RetL w0 G [] fun u G' L' => G = G' ∧ IsRow 117 3 u 56 (sLow.map SpanD.cells).flatten L') := by
  refine enterL (N := 58) (T := []) Tryd.func56 rfl Tryd.ntmps56 rfl rfl hO ?_
  intro a H
  refine c_seq (fun _ hK1 => ?_)
  refine c_region ?_
  refine s_assign H wn rfl rfl ?_; clear H; intro a H
  refine wl_nil ?_
  refine hK1 _ _ ?_; clear hK1
  refine c_seq (fun _ hK2 => ?_)
  refine c_region ?_
  refine s_build sr117spn [_, _, _] H wn rfl rfl rfl rfl ?_; clear H; intro a H
  refine s_build sr117spn [_, _, _] H wn rfl rfl rfl rfl ?_; clear H; intro a H
  refine s_build sr117spn [_, _, _] H wn rfl rfl rfl rfl ?_; clear H; intro a H
  refine s_build sr117spn [_, _, _] H wn rfl rfl rfl rfl ?_; clear H; intro a H
  refine s_build sr117spn [_, _, _] H wn rfl rfl rfl rfl ?_; clear H; intro a H
  refine s_build sr117spn [_, _, _] H wn rfl rfl rfl rfl ?_; clear H; intro a H
  refine s_build sr117spn [_, _, _] H wn rfl rfl rfl rfl ?_; clear H; intro a H
  refine s_build sr117spn [_, _, _] H wn rfl rfl rfl rfl ?_; clear H; intro a H
  refine s_build sr117spn [_, _, _] H wn rfl rfl rfl rfl ?_; clear H; intro a H
  refine s_build sr117spn [_, _, _] H wn rfl rfl rfl rfl ?_; clear H; intro a H
  refine s_build sr117spn [_, _, _] H wn rfl rfl rfl rfl ?_; clear H; intro a H
  refine s_build sr117spn [_, _, _] H wn rfl rfl rfl rfl ?_; clear H; intro a H
  refine s_build sr117spn [_, _, _] H wn rfl rfl rfl rfl ?_; clear H; intro a H
  refine s_build sr117spn [_, _, _] H wn rfl rfl rfl rfl ?_; clear H; intro a H
  refine s_build sr117spn [_, _, _] H wn rfl rfl rfl rfl ?_; clear H; intro a H
  refine s_build sr117spn [_, _, _] H wn rfl rfl rfl rfl ?_; clear H; intro a H
  refine s_build sr117spn [_, _, _] H wn rfl rfl rfl rfl ?_; clear H; intro a H
  refine s_build sr117spn [_, _, _] H wn rfl rfl rfl rfl ?_; clear H; intro a H
  refine s_build sr117spn [_, _, _] H wn rfl rfl rfl rfl ?_; clear H; intro a H
  refine s_build sr117spn [_, _, _] H wn rfl rfl rfl rfl ?_; clear H; intro a H
  refine s_build sr117spn [_, _, _] H wn rfl rfl rfl rfl ?_; clear H; intro a H
  refine s_build sr117spn [_, _, _] H wn rfl rfl rfl rfl ?_; clear H; intro a H
  refine s_build sr117spn [_, _, _] H wn rfl rfl rfl rfl ?_; clear H; intro a H
  refine s_build sr117spn [_, _, _] H wn rfl rfl rfl rfl ?_; clear H; intro a H
  refine s_build sr117spn [_, _, _] H wn rfl rfl rfl rfl ?_; clear H; intro a H
  refine s_build sr117spn [_, _, _] H wn rfl rfl rfl rfl ?_; clear H; intro a H
  refine s_build sr117spn [_, _, _] H wn rfl rfl rfl rfl ?_; clear H; intro a H
  refine s_build sr117spn [_, _, _] H wn rfl rfl rfl rfl ?_; clear H; intro a H
  refine s_build sr117spn [_, _, _] H wn rfl rfl rfl rfl ?_; clear H; intro a H
  refine s_build sr117spn [_, _, _] H wn rfl rfl rfl rfl ?_; clear H; intro a H
  refine s_build sr117spn [_, _, _] H wn rfl rfl rfl rfl ?_; clear H; intro a H
  refine s_build sr117spn [_, _, _] H wn rfl rfl rfl rfl ?_; clear H; intro a H
  refine s_build sr117spn [_, _, _] H wn rfl rfl rfl rfl ?_; clear H; intro a H
  refine s_build sr117spn [_, _, _] H wn rfl rfl rfl rfl ?_; clear H; intro a H
  refine s_build sr117spn [_, _, _] H wn rfl rfl rfl rfl ?_; clear H; intro a H
  refine s_build sr117spn [_, _, _] H wn rfl rfl rfl rfl ?_; clear H; intro a H
  refine s_build sr117spn [_, _, _] H wn rfl rfl rfl rfl ?_; clear H; intro a H
  refine s_build sr117spn [_, _, _] H wn rfl rfl rfl rfl ?_; clear H; intro a H
  refine s_build sr117spn [_, _, _] H wn rfl rfl rfl rfl ?_; clear H; intro a H
  refine s_build sr117spn [_, _, _] H wn rfl rfl rfl rfl ?_; clear H; intro a H
  refine s_build sr117spn [_, _, _] H wn rfl rfl rfl rfl ?_; clear H; intro a H
  refine s_build sr117spn [_, _, _] H wn rfl rfl rfl rfl ?_; clear H; intro a H
  refine s_build sr117spn [_, _, _] H wn rfl rfl rfl rfl ?_; clear H; intro a H
  refine s_build sr117spn [_, _, _] H wn rfl rfl rfl rfl ?_; clear H; intro a H
  refine s_build sr117spn [_, _, _] H wn rfl rfl rfl rfl ?_; clear H; intro a H
  refine s_build sr117spn [_, _, _] H wn rfl rfl rfl rfl ?_; clear H; intro a H
  refine s_build sr117spn [_, _, _] H wn rfl rfl rfl rfl ?_; clear H; intro a H
  refine s_build sr117spn [_, _, _] H wn rfl rfl rfl rfl ?_; clear H; intro a H
  refine s_build sr117spn [_, _, _] H wn rfl rfl rfl rfl ?_; clear H; intro a H
  refine s_build sr117spn [_, _, _] H wn rfl rfl rfl rfl ?_; clear H; intro a H
  refine s_build sr117spn [_, _, _] H wn rfl rfl rfl rfl ?_; clear H; intro a H
  refine s_build sr117spn [_, _, _] H wn rfl rfl rfl rfl ?_; clear H; intro a H
  refine s_build sr117spn [_, _, _] H wn rfl rfl rfl rfl ?_; clear H; intro a H
  refine s_build sr117spn [_, _, _] H wn rfl rfl rfl rfl ?_; clear H; intro a H
  refine s_build sr117spn [_, _, _] H wn rfl rfl rfl rfl ?_; clear H; intro a H
  refine s_build sr117spn [_, _, _] H wn rfl rfl rfl rfl ?_; clear H; intro a H
  refine s_buildAll un96spn ty117spn (sLow.map SpanD.cells) H wn rfl rfl rfl rfl rfl rfl rfl ?_; clear H; intro b57 a w hb57 H
  refine s_assign H wn rfl rfl ?_; clear H; intro a H
  refine wl_nil ?_
  refine hK2 _ _ ?_; clear hK2
  refine c_ret ?_
  refine (leave1 H Tryd.results56 (.cons (rv_tmp H rfl) .nil) ?_).1
  exact H.hp.retL ⟨rfl, IsRow.all rfl (by decide)⟩
theorem shigh_spec (G : GH) (w0 : World) (hG : Hold G w0) : Calls Tryd.prog 57 #[] w0 (Ret w0 G fun u G' => RepV G' (.sl 3 (sHigh.map SpanD.dat)) u) := by
  refine enter (N := 46) (T := []) (F := fun k => k < w0.heap.size) (L := []) Tryd.func57 rfl Tryd.ntmps57 rfl rfl hG (fun _ h => h) (fun _ h => by cases h) (fun _ h => by cases h) (fun _ h => by cases h) List.Pairwise.nil ?_
  intro a H
  refine c_seq (fun _ hK1 => ?_)
  refine c_region ?_
  refine s_assign H wn rfl rfl ?_; clear H; intro a H
  refine wl_nil ?_
  refine hK1 _ _ ?_; clear hK1
  refine c_seq (fun _ hK2 => ?_)
  refine c_region ?_
  refine s_build sr117spn [_, _, _] H wn rfl rfl rfl rfl ?_; clear H; intro a H
  refine s_build sr117spn [_, _, _] H wn rfl rfl rfl rfl ?_; clear H; intro a H
  refine s_build sr117spn [_, _, _] H wn rfl rfl rfl rfl ?_; clear H; intro a H
  refine s_build sr117spn [_, _, _] H wn rfl rfl rfl rfl ?_; clear H; intro a H
  refine s_build sr117spn [_, _, _] H wn rfl rfl rfl rfl ?_; clear H; intro a H
  refine s_build sr117spn [_, _, _] H wn rfl rfl rfl rfl ?_; clear H; intro a H
  refine s_build sr117spn [_, _, _] H wn rfl rfl rfl rfl ?_; clear H; intro a H
  refine s_build sr117spn [_, _, _] H wn rfl rfl rfl rfl ?_; clear H; intro a H
  refine s_build sr117spn [_, _, _] H wn rfl rfl rfl rfl ?_; clear H; intro a H
  refine s_build sr117spn [_, _, _] H wn rfl rfl rfl rfl ?_; clear H; intro a H
  refine s_build sr117spn [_, _, _] H wn rfl rfl rfl rfl ?_; clear H; intro a H
  refine s_build sr117spn [_, _, _] H wn rfl rfl rfl rfl ?_; clear H; intro a H
  refine s_build sr117spn [_, _, _] H wn rfl rfl rfl rfl ?_; clear H; intro a H
  refine s_build sr117spn [_, _, _] H wn rfl rfl rfl rfl ?_; clear H; intro a H
  refine s_build sr117spn [_, _, _] H wn rfl rfl rfl rfl ?_; clear H; intro a H
  refine s_build sr117spn [_, _, _] H wn rfl rfl rfl rfl ?_; clear H; intro a H
  refine s_build sr117spn [_, _, _] H wn rfl rfl rfl rfl ?_; clear H; intro a H
  refine s_build sr117spn [_, _, _] H wn rfl rfl rfl rfl ?_; clear H; intro a H
  refine s_build sr117spn [_, _, _] H wn rfl rfl rfl rfl ?_; clear H; intro a H
  refine s_build sr117spn [_, _, _] H wn rfl rfl rfl rfl ?_; clear H; intro a H
  refine s_build sr117spn [_, _, _] H wn rfl rfl rfl rfl ?_; clear H; intro a H
  refine s_build sr117spn [_, _, _] H wn rfl rfl rfl rfl ?_; clear H; intro a H
  refine s_build sr117spn [_, _, _] H wn rfl rfl rfl rfl ?_; clear H; intro a H
  refine s_build sr117spn [_, _, _] H wn rfl rfl rfl rfl ?_; clear H; intro a H
  refine s_build sr117spn [_, _, _] H wn rfl rfl rfl rfl ?_; clear H; intro a H
  refine s_build sr117spn [_, _, _] H wn rfl rfl rfl rfl ?_; clear H; intro a H
  refine s_build sr117spn [_, _, _] H wn rfl rfl rfl rfl ?_; clear H; intro a H
  refine s_build sr117spn [_, _, _] H wn rfl rfl rfl rfl ?_; clear H; intro a H
  refine s_build sr117spn [_, _, _] H wn rfl rfl rfl rfl ?_; clear H; intro a H
  refine s_build sr117spn [_, _, _] H wn rfl rfl rfl rfl ?_; clear H; intro a H
  refine s_build sr117spn [_, _, _] H wn rfl rfl rfl rfl ?_; clear H; intro a H
  refine s_build sr117spn [_, _, _] H wn rfl rfl rfl rfl ?_; clear H; intro a H
  refine s_build sr117spn [_, _, _] H wn rfl rfl rfl rfl ?_; clear H; intro a H
  refine s_build sr117spn [_, _, _] H wn rfl rfl rfl rfl ?_; clear H; intro a H
  refine s_build sr117spn [_, _, _] H wn rfl rfl rfl rfl ?_; clear H; intro a H
  refine s_build sr117spn [_, _, _] H wn rfl rfl rfl rfl ?_; clear H; intro a H
  refine s_build sr117spn [_, _, _] H wn rfl rfl rfl rfl ?_; clear H; intro a H
  refine s_build sr117spn [_, _, _] H wn rfl rfl rfl rfl ?_; clear H; intro a H
  refine s_build sr117spn [_, _, _] H wn rfl rfl rfl rfl ?_; clear H; intro a H
  refine s_build sr117spn [_, _, _] H wn rfl rfl rfl rfl ?_; clear H; intro a H
  refine s_build sr117spn [_, _, _] H wn rfl rfl rfl rfl ?_; clear H; intro a H
  refine s_build sr117spn [_, _, _] H wn rfl rfl rfl rfl ?_; clear H; intro a H
  refine s_build sr117spn [_, _, _] H wn rfl rfl rfl rfl ?_; clear H; intro a H
  refine s_build sr117spn [_, _, _] H wn rfl rfl rfl rfl ?_; clear H; intro a H
  refine s_buildAll un96spn ty117spn (sHigh.map SpanD.cells) H wn rfl rfl rfl rfl rfl rfl rfl ?_; clear H; intro b45 a w hb45 H
  refine s_assign H wn rfl rfl ?_; clear H; intro a H
  refine wl_nil ?_
  refine hK2 _ _ ?_; clear hK2
  refine c_ret ?_
  refine (leave1 H Tryd.results57 (.cons (rv_tmp H rfl) .nil) ?_).1
  obtain ⟨Gz, hmz, hbz, H⟩ := H.giveBox
  exact H.hp.ret (RepV.of_row (n := 44) (cap := 44) hbz rfl (Nat.le_refl _) (show 44 ≤ maxLen by decide) (List.take_of_length_le (Nat.le_refl _)) (spans_cat _ _))
theorem stable_spec (G : GH) (w0 : World) (hG : Hold G w0) : Calls Tryd.prog 44 #[] w0 (Ret w0 G fun u G' => RepV G' (.sl 3 (sTab.map SpanD.dat)) u) := by
  have hml : maxLen = 9223372036854775807 := rfl
  refine enter (N := 4) (T := []) (F := fun k => k < w0.heap.size) (L := []) Tryd.func44 rfl Tryd.ntmps44 rfl rfl hG (fun _ h => h) (fun _ h => by cases h) (fun _ h => by cases h) (fun _ h => by cases h) List.Pairwise.nil ?_
  intro a H
  refine c_seq (fun _ hK1 => ?_)
  refine c_region ?_
  refine s_assign H wn rfl rfl ?_; clear H; intro a H
  refine wl_nil ?_
  refine hK1 _ _ ?_; clear hK1
  refine c_seq (fun _ hK2 => ?_)
  refine c_region ?_
  refine s_callL en56spn (Li := []) (L := []) H wn rfl (slow_spec _ _ (Hp.owns (Li := []) H.hp)) rfl ?_; clear H
  rintro v1 _ L1 a w ⟨rfl, hrw⟩ - H
  dsimp only [List.nil_append] at H
  refine s_call en57spn H wn rfl (shigh_spec _ _ H.hp.ro) rfl ?_; clear H
  rintro v2 G2 a w hrep hm2 H
  obtain ⟨A2, c2, rfl, -, -, -⟩ := hrep.slice
  refine s_appendG (Li := []) (Lo := L1) un96spn ty117spn rfl rfl H wn rfl rfl hrw hrep (by decide) (by decide) rfl ?_; clear H; intro v3 Lo3 news3 a w hrw3 hcat3 H
  dsimp only [List.nil_append] at H
  refine s_assign H wn rfl rfl ?_; clear H; intro a H
  refine wl_nil ?_
  refine hK2 _ _ ?_; clear hK2
  refine c_ret ?_
  refine (leave1 H Tryd.results44 (.cons (rv_tmp H rfl) .nil) ?_).1
  obtain ⟨Gr, hmr, hrep2, H⟩ := St.giveRow (Li := []) H hrw3 (rows := sTab.map SpanD.dat) (by rfl) (by rw [sTab, List.map_append]; exact (spans_cat _ sLow).append hcat3)
  exact H.hp.ret hrep2
end Go.Proofs.YtpmcdlhhfbobfaaDoor
