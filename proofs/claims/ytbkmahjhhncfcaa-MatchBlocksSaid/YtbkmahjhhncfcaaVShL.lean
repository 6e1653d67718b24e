/-
  The library's proved summaries at this program (printed by a tool of the library).
-/
import Derived.Test.YtbkmahjhhncfcaaChecked
import Derived.Shelf.Slices.Cells
import Derived.Shelf.Slices.Empties
import Derived.Shelf.Slices.In.SortNone
import Derived.Sort.OwnSortedInts
import Derived.Shelf.Sort.Plain
import Derived.Test.YtbkmahjhhncfcaaVSlT
import Derived.Test.YtbkmahjhhncfcaaVSlI
section
namespace Go.Proofs.Ytbkmahjhhncfcaa
open Go.Shelf
def Try.laySort_ren : Go.Shelf.Ren := ⟨fun | 189 => 36 | 125 => 58 | 257 => 57 | 128 => 76 | 129 => 77 | 294 => 68 | 295 => 69 | 296 => 70 | 297 => 71 | 298 => 72 | 299 => 73 | 216 => 59 | 300 => 74 | 301 => 75 | 328 => 79 | 329 => 80 | 330 => 81 | 331 => 82 | 332 => 83 | 215 => 78 | 343 => 84 | n => n, fun | 28 => 54 | 3 => 3 | 46 => 112 | 0 => 0 | 51 => 90 | 53 => 151 | 4 => 4 | 183 => 144 | 182 => 143 | 131 => 91 | 5 => 5 | 9 => 9 | 218 => 152 | 222 => 139 | 228 => 157 | 229 => 158 | n => n, fun | n => n⟩
theorem Try.laySort : Go.Proofs.Lays.n189 Try.prog Try.laySort_ren := {
 mixed := by kernel_rfl,
 f125 := Try.func58.trans (congrArg some (by kernel_rfl)),
 f128 := Try.func76.trans (congrArg some (by kernel_rfl)),
 f129 := Try.func77.trans (congrArg some (by kernel_rfl)),
 f189 := Try.func36.trans (congrArg some (by kernel_rfl)),
 f215 := Try.func78.trans (congrArg some (by kernel_rfl)),
 f216 := Try.func59.trans (congrArg some (by kernel_rfl)),
 f257 := Try.func57.trans (congrArg some (by kernel_rfl)),
 f294 := Try.func68.trans (congrArg some (by kernel_rfl)),
 f295 := Try.func69.trans (congrArg some (by kernel_rfl)),
 f296 := Try.func70.trans (congrArg some (by kernel_rfl)),
 f297 := Try.func71.trans (congrArg some (by kernel_rfl)),
 f298 := Try.func72.trans (congrArg some (by kernel_rfl)),
 f299 := Try.func73.trans (congrArg some (by kernel_rfl)),
 f300 := Try.func74.trans (congrArg some (by kernel_rfl)),
 f301 := Try.func75.trans (congrArg some (by kernel_rfl)),
 f328 := Try.func79.trans (congrArg some (by kernel_rfl)),
 f329 := Try.func80.trans (congrArg some (by kernel_rfl)),
 f330 := Try.func81.trans (congrArg some (by kernel_rfl)),
 f331 := Try.func82.trans (congrArg some (by kernel_rfl)),
 f332 := Try.func83.trans (congrArg some (by kernel_rfl)),
 f343 := Try.func84.trans (congrArg some (by kernel_rfl)),
 t0 := Try.underlying0,
 a0 := Try.isAgg0,
 z0 := Try.sizeOf0,
 v0 := Try.zeroValue0,
 t3 := Try.underlying3,
 a3 := Try.isAgg3,
 z3 := Try.sizeOf3,
 v3 := Try.zeroValue3,
 t4 := Try.underlying4,
 a4 := Try.isAgg4,
 z4 := Try.sizeOf4,
 v4 := Try.zeroValue4,
 t5 := Try.underlying5,
 a5 := Try.isAgg5,
 z5 := Try.sizeOf5,
 v5 := Try.zeroValue5,
 t9 := Try.underlying9,
 a9 := Try.isAgg9,
 z9 := Try.sizeOf9,
 v9 := Try.zeroValue9,
 t28 := Try.underlying54,
 a28 := Try.isAgg54,
 z28 := Try.sizeOf54,
 v28 := Try.zeroValue54,
 t46 := Try.underlying112,
 a46 := Try.isAgg112,
 z46 := Try.sizeOf112,
 v46 := Try.zeroValue112,
 t51 := Try.underlying90,
 a51 := Try.isAgg90,
 z51 := Try.sizeOf90,
 v51 := Try.zeroValue90,
 t53 := Try.underlying151,
 a53 := Try.isAgg151,
 z53 := Try.sizeOf151,
 v53 := Try.zeroValue151,
 t131 := Try.underlying91,
 a131 := Try.isAgg91,
 z131 := Try.sizeOf91,
 v131 := Try.zeroValue91,
 t182 := Try.underlying143,
 a182 := Try.isAgg143,
 z182 := Try.sizeOf143,
 v182 := Try.zeroValue143,
 t183 := Try.underlying144,
 a183 := Try.isAgg144,
 z183 := Try.sizeOf144,
 v183 := Try.zeroValue144,
 t218 := Try.underlying152,
 a218 := Try.isAgg152,
 z218 := Try.sizeOf152,
 v218 := Try.zeroValue152,
 t222 := Try.underlying139,
 a222 := Try.isAgg139,
 z222 := Try.sizeOf139,
 v222 := Try.zeroValue139,
 t228 := Try.underlying157,
 a228 := Try.isAgg157,
 z228 := Try.sizeOf157,
 v228 := Try.zeroValue157,
 t229 := Try.underlying158,
 a229 := Try.isAgg158,
 z229 := Try.sizeOf158,
 v229 := Try.zeroValue158 }
def Try.layCompact_ren : Go.Shelf.Ren := ⟨fun | 20 => 37 | n => n, fun | 22 => 54 | 3 => 3 | 4 => 4 | 0 => 0 | n => n, fun | n => n⟩
theorem Try.layCompact : Go.Proofs.Lays2.n20 Try.prog Try.layCompact_ren := {
 mixed := by kernel_rfl,
 f20 := Try.func37.trans (congrArg some (by kernel_rfl)),
 t0 := Try.underlying0,
 a0 := Try.isAgg0,
 z0 := Try.sizeOf0,
 v0 := Try.zeroValue0,
 t3 := Try.underlying3,
 a3 := Try.isAgg3,
 z3 := Try.sizeOf3,
 v3 := Try.zeroValue3,
 t4 := Try.underlying4,
 a4 := Try.isAgg4,
 z4 := Try.sizeOf4,
 v4 := Try.zeroValue4,
 t22 := Try.underlying54,
 a22 := Try.isAgg54,
 z22 := Try.sizeOf54,
 v22 := Try.zeroValue54,
 i3 := by kernel_rfl }
def Try.laySearch_ren : Go.Shelf.Ren := ⟨fun | 25 => 39 | 31 => 59 | 32 => 60 | 37 => 78 | n => n, fun | 22 => 54 | 3 => 3 | 4 => 4 | 40 => 112 | 0 => 0 | n => n, fun | n => n⟩
theorem Try.laySearch : Go.Proofs.Lays2.n25 Try.prog Try.laySearch_ren := {
 mixed := by kernel_rfl,
 f25 := Try.func39.trans (congrArg some (by kernel_rfl)),
 f31 := Try.func59.trans (congrArg some (by kernel_rfl)),
 f32 := Try.func60.trans (congrArg some (by kernel_rfl)),
 f37 := Try.func78.trans (congrArg some (by kernel_rfl)),
 t0 := Try.underlying0,
 a0 := Try.isAgg0,
 z0 := Try.sizeOf0,
 v0 := Try.zeroValue0,
 t3 := Try.underlying3,
 a3 := Try.isAgg3,
 z3 := Try.sizeOf3,
 v3 := Try.zeroValue3,
 t4 := Try.underlying4,
 a4 := Try.isAgg4,
 z4 := Try.sizeOf4,
 v4 := Try.zeroValue4,
 t22 := Try.underlying54,
 a22 := Try.isAgg54,
 z22 := Try.sizeOf54,
 v22 := Try.zeroValue54,
 t40 := Try.underlying112,
 a40 := Try.isAgg112,
 z40 := Try.sizeOf112,
 v40 := Try.zeroValue112 }
end Go.Proofs.Ytbkmahjhhncfcaa
end
/-
  The library's Sort, Compact and BinarySearch at []int, as contracts on rows that are owned.
-/
section
namespace Go.Proofs.Ytbkmahjhhncfcaa
open Go.Sl Go.Sort

theorem I64_map (l : List Int) : I64 l = l.map (Value.int .i64) := rfl
theorem zs_shrink {w : World} {e n m c : Nat} {A : Option Addr} {xs ys : List Value} (h : (Own e 1 A n c (xs ++ ys)).p w) (hx : xs.length = m) (hm : m ≤ n) : (Own e 1 A m c xs).p w := by
 refine ⟨by rw [hx, Nat.mul_one], ?_⟩
 rcases h.2 with ⟨hv, h0⟩ | ⟨g, cap, cur, hv, hb, hh, h3, h4, h5, h6⟩
 · injection hv with h7 h8 h9
   subst h7 h9 h0
   obtain rfl : m = 0 := by omega
   exact .inl ⟨rfl, rfl⟩
 · injection hv with h7 h8 h9
   subst h7 h9
   refine .inr ⟨g, c, cur, rfl, hb, hh, by omega, h4, h5, ?_⟩
   rw [Nat.mul_one] at h6 ⊢
   have h8 := congrArg (List.take m) h6
   rwa [List.take_take, Nat.min_eq_left hm, List.take_left' hx] at h8
theorem sort_c (A : Option Addr) (l : List Int) (c : Nat) (hl : l.length ≤ 1000000) :
   Ctr X 36 [.slice A l.length c] [] [Own 3 1 A l.length c (I64 l)] (fun v R' H' => v = .tuple #[] ∧ R' = [] ∧ H' = [Own 3 1 A l.length c (I64 (l.mergeSort fun x y => decide (x ≤ y)))]) := by
 refine ⟨⟨⟨Try.f36, Try.func36, by kernel_rfl, by kernel_rfl⟩⟩, fun w hs => ?_⟩
 have ho := hs.own 0 _ rfl
 rcases ho.2 with ⟨hv, h0⟩ | ⟨g, cap, cur, hv, _, hh, h3, h4, h5, h6⟩
 · injection hv with h7 h8 h9
   obtain rfl : l = [] := List.length_eq_zero_iff.1 h0
   refine (Any.slices_Sort_int_none Try.laySort A c w).mono ?_
   rintro e w' ⟨rfl, rfl⟩
   rw [List.mergeSort_nil]
   exact ⟨_, _, _, ⟨rfl, rfl, rfl⟩, rfl, hs⟩
 · injection hv with h7 h8 h9
   subst h7 h9
   have hg := (Array.getElem?_eq_some_iff.1 hh).1
   rw [Nat.mul_one, I64_map] at h6
   refine (Any.slices_Sort_int Try.laySort g 0 c l w (holds_of_blockI hh h6) hg (by omega)).mono ?_
   rintro e w' ⟨rfl, q, os, rfl⟩
   have hml : (l.mergeSort fun x y => decide (x ≤ y)).length = l.length := List.length_mergeSort l
   have hst := Stp.grown (grownBy_sortedI (w := w) (g := g) (n := q) (os := os) (l.mergeSort fun x y => decide (x ≤ y)).toArray)
   have hn := ownsRow_sortedI (base := 0) (n := q) (os := os) hml (Nat.zero_le g) hh h3 h4 h5
   refine ⟨_, _, _, ⟨rfl, rfl, rfl⟩, rfl, hs.upd (j := 0) rfl hst (fun k hk _ => ⟨_, rfl, by injection hk⟩) (Own 3 1 (some ⟨g, 0, none⟩) l.length c (I64 (l.mergeSort fun x y => decide (x ≤ y)))) hn (fun k hk => ?_)⟩
   obtain ⟨a, ha, hk⟩ := hk
   injection ha with ha
   subst ha
   exact ⟨Nat.lt_of_lt_of_le (hk ▸ hg) hst.size, .inr ⟨_, rfl, hk⟩⟩
theorem compact_c (A : Option Addr) (l : List Int) (c : Nat) (hl : l.length ≤ 1000000) :
   Ctr X 37 [.slice A l.length c] [] [Own 3 1 A l.length c (I64 l)] (fun v R' H' => v = .slice A (Lib.compact l).length c ∧ R' = [] ∧ H' = [Own 3 1 A (Lib.compact l).length c (I64 (Lib.compact l))]) := by
 refine ⟨⟨⟨Try.f37, Try.func37, by kernel_rfl, by kernel_rfl⟩⟩, fun w hs => ?_⟩
 have ho := hs.own 0 _ rfl
 rcases ho.2 with ⟨hv, h0⟩ | ⟨g, cap, cur, hv, _, hh, h3, h4, h5, h6⟩
 · injection hv with h7 h8 h9
   obtain rfl : l = [] := List.length_eq_zero_iff.1 h0
   refine (Any.slices_Compact_int_empty Try.layCompact A c w).mono ?_
   rintro e w' ⟨rfl, rfl⟩
   exact ⟨_, _, _, ⟨rfl, rfl, rfl⟩, rfl, hs⟩
 · injection hv with h7 h8 h9
   subst h7 h9
   have hg := (Array.getElem?_eq_some_iff.1 hh).1
   rw [Nat.mul_one, I64_map] at h6
   refine (Any.slices_Compact_int Try.layCompact g 0 c l w (holds_of_blockI hh h6) (by omega) h3).mono ?_
   rintro e w' ⟨rfl, q, rfl⟩
   rw [← grow_empty (putRow _ _ _ _ _)]
   have hle := Lib.compact_length_le l
   have hml : (Lib.compact l ++ List.replicate (l.length - (Lib.compact l).length) 0).length = l.length := by rw [List.length_append, List.length_replicate]; omega
   have hst := Stp.grown (grownBy_sortedI (w := w) (g := g) (n := q) (os := #[]) (Lib.compact l ++ List.replicate (l.length - (Lib.compact l).length) 0).toArray)
   have hn := ownsRow_sortedI (base := 0) (n := q) (os := #[]) hml (Nat.zero_le g) hh h3 h4 h5
   rw [List.map_append] at hn
   refine ⟨_, _, _, ⟨rfl, rfl, rfl⟩, rfl, hs.upd (j := 0) rfl hst (fun k hk _ => ⟨_, rfl, by injection hk⟩) (Own 3 1 (some ⟨g, 0, none⟩) (Lib.compact l).length c (I64 (Lib.compact l))) (zs_shrink hn (I64_len _) hle) (fun k hk => ?_)⟩
   obtain ⟨a, ha, hk⟩ := hk
   injection ha with ha
   subst ha
   exact ⟨Nat.lt_of_lt_of_le (hk ▸ hg) hst.size, .inr ⟨_, rfl, hk⟩⟩
theorem search_c (A : Option Addr) (l : List Int) (c : Nat) (n : Int) (hl : l.length ≤ 1000000) (hs : l.Pairwise (· ≤ ·)) :
   Ctr X 39 [.slice A l.length c, .int .i64 n] [] [Own 3 1 A l.length c (I64 l)] (fun v R' H' => v = .tuple #[.int .i64 ((l.countP (· < n) : Nat) : Int), .bool (l.contains n)] ∧ R' = [] ∧ H' = [Own 3 1 A l.length c (I64 l)]) := by
 refine ⟨⟨⟨Try.f39, Try.func39, by kernel_rfl, by kernel_rfl⟩⟩, fun w hsat => ?_⟩
 have ho := hsat.own 0 _ rfl
 rcases ho.2 with ⟨hv, h0⟩ | ⟨g, cap, cur, hv, _, hh, h3, h4, h5, h6⟩
 · injection hv with h7 h8 h9
   obtain rfl : l = [] := List.length_eq_zero_iff.1 h0
   refine (Any.slices_BinarySearch_int_empty Try.laySearch A c n w).mono ?_
   rintro e w' ⟨rfl, rfl⟩
   exact ⟨_, _, _, ⟨rfl, rfl, rfl⟩, rfl, hsat⟩
 · injection hv with h7 h8 h9
   subst h7 h9
   have e1 : l.take l.length = l := List.take_length
   refine (Any.slices_BinarySearch_int Try.laySearch g 0 l.length c l n w (Nat.le_refl _) (by omega) (fun j hj => ?_) (by rw [e1]; exact hs)).mono ?_
   · obtain ⟨g', hA, hc, _⟩ := Own.cell ho (I64_get hj)
     injection hA with hA
     injection hA with hA
     subst hA
     rw [Nat.zero_add]
     exact hc
   · rintro e w' ⟨rfl, q, rfl⟩
     rw [e1]
     exact ⟨_, _, _, ⟨rfl, rfl, rfl⟩, rfl, hsat.same ⟨rfl, rfl, rfl, Nat.le_refl _, fun _ _ _ => rfl⟩⟩
end Go.Proofs.Ytbkmahjhhncfcaa
end
