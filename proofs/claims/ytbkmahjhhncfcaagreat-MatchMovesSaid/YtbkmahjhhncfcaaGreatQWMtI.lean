/-
  The laws' helpers: Limited, Mixed, Fits, cost, made.
-/
import Derived.Test.YtbkmahjhhncfcaaGreatChecked
import Derived.Shelf.Slices.Cells
import Derived.Shelf.Slices.Empties
import Derived.Shelf.Slices.In.SortNone
import Derived.Sort.OwnSortedInts
import Derived.Shelf.Sort.Plain
import Derived.Test.YtbkmahjhhncfcaaGreatQWMtG
import Derived.Test.YtbkmahjhhncfcaaGreatQWMtH
import Derived.Test.YtbkmahjhhncfcaaGreatQOg
import Derived.Test.YtbkmahjhhncfcaaGreatQSlZ
import Derived.Test.YtbkmahjhhncfcaaGreatQMh
import Derived.Test.YtbkmahjhhncfcaaGreatQMb
import Derived.Test.YtbkmahjhhncfcaaGreatQSlT
import Derived.Test.YtbkmahjhhncfcaaGreatQSlI
section
namespace Go.Proofs.YtbkmahjhhncfcaaGreat
open Go.Sl

theorem Ctr.tbM (c : Bool) {f : Nat} {args : List Value} {R H : List Pr} {b : Bool} (h : Ctr X f args R H (fun v R' H' => v = .bool b ∧ R' = [] ∧ H' = [])) (hb : b = c) : Ctr X f args R H (fun v R' H' => v = .bool c ∧ R' = [] ∧ H' = []) := hb ▸ h
theorem fits_c (B C_ : Option Addr) (bc cc : Nat) (ol nl : Nat) (lf : Bool) (inn out : Int) (ops : List Pq) (OA : Option Addr) (oc : Nat) (hops : ops.length ≤ 9223372036854775807) (hE : chkP inn out ops = 0) (hin : inn = (ol : Int)) (hout : out = (nl : Int)) :
   Ctr X 28 [.agg (List.toArray [.bool lf, .int .i64 inn, .int .i64 out, .slice OA ops.length oc]), .slice B ol bc, .slice C_ nl cc] [Rd OA (pqV ops)] [] (fun v R' H' => v = .bool true ∧ R' = [] ∧ H' = []) := by
 refine Ctr.of (X := X) (fn := Tryz.f28) Tryz.func28 rfl (by kernel_rfl) rfl ?_
 intro β
 refine C.seq (C.region ?_)
 refine L.boxA rfl rfl (fun A3 => ?_)
 refine Lpu rfl rfl ?_; refine L.nil (QE.seq (C.seq ?_)); refine C.freeze 0 rfl [] (by decide) (by decide) ?_; refine C.region ?_; refine L.step (Ev.loadA (vs := [.bool lf, .int .i64 inn, .int .i64 out, .slice OA ops.length oc]) rfl rfl rfl (Src.r 0 rfl) rfl rfl (by decide)) rfl ?_; refine L.call (js := []) (js' := []) (Ctr.tbM true (right06Q_c lf inn out ops OA oc hops) (by rw [hE]; rfl)) rfl rfl rfl (by decide) (Hq [1] rfl) rfl ?_
 rintro _ _ _ ⟨rfl, rfl, rfl⟩
 refine Lpu rfl rfl ?_; refine L.yes rfl ?_; refine L.step (Ev.fieldAddr rfl rfl rfl rfl rfl rfl (Src.r 0 rfl) (Nat.zero_lt_succ _) rfl) rfl ?_; refine L.yes rfl ?_; refine L.step (Ev.load rfl rfl rfl (Src.r 0 rfl) rfl) rfl ?_; refine L.yes rfl ?_; refine Lpu rfl rfl ?_; refine L.yes rfl ?_; refine Lpu rfl rfl ?_; refine L.yes rfl ?_; refine L.step (Ev.cast (u := .bool true) (Ev.pure rfl) (congrArg Value.bool (by rw [hin]; simp))) rfl ?_; refine Lpu rfl rfl ?_; refine Lpu rfl rfl ?_
 refine L.bool 16 rfl (fun hg16 => ?_) (fun hg16 => ?_)
 ·
  refine L.yes rfl ?_; refine L.step (Ev.fieldAddr rfl rfl rfl rfl rfl rfl (Src.r 0 rfl) (Nat.zero_lt_succ _) rfl) rfl ?_; refine L.yes rfl ?_; refine L.step (Ev.load rfl rfl rfl (Src.r 0 rfl) rfl) rfl ?_; refine L.yes rfl ?_; refine Lpu rfl rfl ?_; refine L.yes rfl ?_; refine Lpu rfl rfl ?_; refine L.yes rfl ?_; refine L.step (Ev.cast (u := .bool true) (Ev.pure rfl) (congrArg Value.bool (by rw [hout]; simp))) rfl ?_; refine Lpu rfl rfl ?_; refine Lpu rfl rfl ?_; refine L.nil (QE.seq (C.ret ?_)); refine QE.ret (js := []) (hs := []) (vs := [_]) rfl ⟨rfl, trivial⟩ (by decide) ?_
  exact ⟨rfl, rfl, rfl⟩
 ·
  cases hg16

theorem costL_c (OA NA : Option Addr) (old new : List UInt8) (oc nc : Nat) (ho : old.length ≤ 65536) (hn : new.length ≤ 4096) (hnc : new.length ≤ nc) :
   Ctr X 10 [.slice OA old.length oc, .slice NA new.length nc] [Rd OA (U8 old), Rd NA (U8 new)] [] (fun v R' H' => v = .int .i64 (refL old new : Int) ∧ R' = [] ∧ H' = []) := by
 refine Ctr.of (X := X) (fn := Tryz.f10) Tryz.func10 rfl (by kernel_rfl) rfl ?_
 intro β
 refine C.seq (C.region ?_); refine Lpu rfl rfl ?_; refine L.nil (QE.seq (C.seq (C.region ?_))); refine Lpu rfl rfl ?_; refine Lpu rfl rfl ?_; refine L.callR (js := []) (js' := []) (plain_c OA NA old new oc nc ho hn hnc) rfl rfl rfl (by decide) (Hq [0, 1] rfl) rfl ?_
 rintro _ _ _ ⟨PA, pc, pl, rfl, rfl, rfl, hmk⟩
 have hpl := (chkP_iff.1 hmk.chk).2.2.2.2.1
 refine Lpu rfl rfl ?_; refine Lpu rfl rfl ?_; refine Lpu rfl rfl ?_
 refine L.alloc rfl rfl rfl (fun A5 => ?_)
 refine L.storeA (j := 0) rfl rfl rfl rfl rfl (Nat.zero_lt_succ _) rfl rfl ?_; refine Lpu rfl rfl ?_; refine L.nil (QE.seq (C.seq (C.seq (C.region ?_)))); refine Lpu rfl rfl ?_; refine Lpu rfl rfl ?_; refine Lpu rfl rfl ?_
 refine L.bool 15 rfl (fun hg15 => ?_) (fun hg15 => ?_)
 ·
  replace hg15 := b_ne hg15
  exact absurd rfl hg15
 ·
  replace hg15 := b_eq hg15
  refine L.yes rfl ?_; refine L.step (Ev.loadA (vs := [.bool false, .int .i64 (old.length : Int), .int .i64 (new.length : Int), .slice PA pl.length pc]) rfl rfl rfl (Src.o 0 rfl) rfl rfl (by decide)) rfl ?_; refine L.yes rfl ?_; refine Lpu rfl rfl ?_; refine L.yes rfl ?_; refine Lpu rfl rfl ?_; refine L.yes rfl ?_; refine L.call (js := []) (js' := [0]) (fits_c OA NA oc nc old.length new.length false (old.length : Int) (new.length : Int) pl PA pc (by omega) hmk.chk rfl rfl) rfl rfl rfl (by decide) (Hq [0] rfl) rfl ?_
  rintro _ _ _ ⟨rfl, rfl, rfl⟩
  refine L.norm (H' := [_]) [0] ⟨rfl, trivial⟩ (by decide) ?_; refine L.yes rfl ?_; refine Lpu rfl rfl ?_; refine Lpu rfl rfl ?_; refine Lpu rfl rfl ?_; refine L.yes rfl ?_; refine L.step (Ev.fieldAddr rfl rfl rfl rfl rfl rfl (Src.o 0 rfl) (Nat.zero_lt_succ _) rfl) rfl ?_; refine L.yes rfl ?_; refine L.step (Ev.load rfl rfl rfl (Src.o 0 rfl) rfl) rfl ?_; refine Lpu rfl rfl ?_; refine L.nil (QE.seq ?_)
  refine C.condB 25 rfl (fun hc25 => ?_) (fun hc25 => ?_)
  ·
   cases hc25
  ·
   refine C.skip (QE.seq (C.seq (C.region ?_))); refine L.step (Ev.loadA (vs := [.bool false, .int .i64 (old.length : Int), .int .i64 (new.length : Int), .slice PA pl.length pc]) rfl rfl rfl (Src.o 0 rfl) rfl rfl (by decide)) rfl ?_; refine L.call (js := []) (js' := [0]) (costQ_c false (old.length : Int) (new.length : Int) pl PA pc (by omega) hmk.chk) rfl rfl rfl (by decide) (Hq [0] rfl) rfl ?_
   rintro _ _ _ ⟨rfl, rfl, rfl⟩
   refine L.norm (H' := [_]) [0] ⟨rfl, trivial⟩ (by decide) ?_; refine Lpu rfl rfl ?_; refine L.nil (QE.seq (C.ret ?_)); refine QE.ret (js := []) (hs := []) (vs := [_]) rfl ⟨rfl, trivial⟩ (by decide) ?_
   exact ⟨by rw [hmk.cost]; rfl, rfl, rfl⟩

end Go.Proofs.YtbkmahjhhncfcaaGreat
end
/-
  The reference's loops on two images, as plain facts.
-/
section
namespace Go.Sl

/-- One step of the table: the first store, and the second. -/
def m1 (cs : List Nat) (i k : Nat) : Nat := min (cs.getD k 0) (cs.getD i 0 + 2 + (k - i))
def m2 (cs : List Nat) (i k : Nat) : Nat := min (m1 cs i k) (cs.getD i 0 + 4)
end Go.Sl
end
/-
  The library's proved summaries at this program (printed by a tool of the library).
-/
section
namespace Go.Proofs.YtbkmahjhhncfcaaGreat
open Go.Shelf
def Tryz.laySort_ren : Go.Shelf.Ren := ⟨fun | 189 => 65 | 125 => 101 | 257 => 100 | 128 => 125 | 129 => 126 | 294 => 117 | 295 => 118 | 296 => 119 | 297 => 120 | 298 => 121 | 299 => 122 | 216 => 102 | 300 => 123 | 301 => 124 | 328 => 130 | 329 => 131 | 330 => 132 | 331 => 133 | 332 => 134 | 215 => 127 | 343 => 135 | n => n, fun | 28 => 55 | 3 => 3 | 46 => 114 | 0 => 0 | 51 => 73 | 53 => 194 | 4 => 4 | 183 => 187 | 182 => 186 | 131 => 121 | 5 => 5 | 9 => 9 | 218 => 197 | 222 => 182 | 228 => 202 | 229 => 203 | n => n, fun | n => n⟩
theorem Tryz.laySort : Go.Proofs.Lays.n189 Tryz.prog Tryz.laySort_ren := {
 mixed := by kernel_rfl,
 f125 := Tryz.func101.trans (congrArg some (by kernel_rfl)),
 f128 := Tryz.func125.trans (congrArg some (by kernel_rfl)),
 f129 := Tryz.func126.trans (congrArg some (by kernel_rfl)),
 f189 := Tryz.func65.trans (congrArg some (by kernel_rfl)),
 f215 := Tryz.func127.trans (congrArg some (by kernel_rfl)),
 f216 := Tryz.func102.trans (congrArg some (by kernel_rfl)),
 f257 := Tryz.func100.trans (congrArg some (by kernel_rfl)),
 f294 := Tryz.func117.trans (congrArg some (by kernel_rfl)),
 f295 := Tryz.func118.trans (congrArg some (by kernel_rfl)),
 f296 := Tryz.func119.trans (congrArg some (by kernel_rfl)),
 f297 := Tryz.func120.trans (congrArg some (by kernel_rfl)),
 f298 := Tryz.func121.trans (congrArg some (by kernel_rfl)),
 f299 := Tryz.func122.trans (congrArg some (by kernel_rfl)),
 f300 := Tryz.func123.trans (congrArg some (by kernel_rfl)),
 f301 := Tryz.func124.trans (congrArg some (by kernel_rfl)),
 f328 := Tryz.func130.trans (congrArg some (by kernel_rfl)),
 f329 := Tryz.func131.trans (congrArg some (by kernel_rfl)),
 f330 := Tryz.func132.trans (congrArg some (by kernel_rfl)),
 f331 := Tryz.func133.trans (congrArg some (by kernel_rfl)),
 f332 := Tryz.func134.trans (congrArg some (by kernel_rfl)),
 f343 := Tryz.func135.trans (congrArg some (by kernel_rfl)),
 t0 := Tryz.underlying0,
 a0 := Tryz.isAgg0,
 z0 := Tryz.sizeOf0,
 v0 := Tryz.zeroValue0,
 t3 := Tryz.underlying3,
 a3 := Tryz.isAgg3,
 z3 := Tryz.sizeOf3,
 v3 := Tryz.zeroValue3,
 t4 := Tryz.underlying4,
 a4 := Tryz.isAgg4,
 z4 := Tryz.sizeOf4,
 v4 := Tryz.zeroValue4,
 t5 := Tryz.underlying5,
 a5 := Tryz.isAgg5,
 z5 := Tryz.sizeOf5,
 v5 := Tryz.zeroValue5,
 t9 := Tryz.underlying9,
 a9 := Tryz.isAgg9,
 z9 := Tryz.sizeOf9,
 v9 := Tryz.zeroValue9,
 t28 := Tryz.underlying55,
 a28 := Tryz.isAgg55,
 z28 := Tryz.sizeOf55,
 v28 := Tryz.zeroValue55,
 t46 := Tryz.underlying114,
 a46 := Tryz.isAgg114,
 z46 := Tryz.sizeOf114,
 v46 := Tryz.zeroValue114,
 t51 := Tryz.underlying73,
 a51 := Tryz.isAgg73,
 z51 := Tryz.sizeOf73,
 v51 := Tryz.zeroValue73,
 t53 := Tryz.underlying194,
 a53 := Tryz.isAgg194,
 z53 := Tryz.sizeOf194,
 v53 := Tryz.zeroValue194,
 t131 := Tryz.underlying121,
 a131 := Tryz.isAgg121,
 z131 := Tryz.sizeOf121,
 v131 := Tryz.zeroValue121,
 t182 := Tryz.underlying186,
 a182 := Tryz.isAgg186,
 z182 := Tryz.sizeOf186,
 v182 := Tryz.zeroValue186,
 t183 := Tryz.underlying187,
 a183 := Tryz.isAgg187,
 z183 := Tryz.sizeOf187,
 v183 := Tryz.zeroValue187,
 t218 := Tryz.underlying197,
 a218 := Tryz.isAgg197,
 z218 := Tryz.sizeOf197,
 v218 := Tryz.zeroValue197,
 t222 := Tryz.underlying182,
 a222 := Tryz.isAgg182,
 z222 := Tryz.sizeOf182,
 v222 := Tryz.zeroValue182,
 t228 := Tryz.underlying202,
 a228 := Tryz.isAgg202,
 z228 := Tryz.sizeOf202,
 v228 := Tryz.zeroValue202,
 t229 := Tryz.underlying203,
 a229 := Tryz.isAgg203,
 z229 := Tryz.sizeOf203,
 v229 := Tryz.zeroValue203 }
def Tryz.layCompact_ren : Go.Shelf.Ren := ⟨fun | 20 => 66 | n => n, fun | 22 => 55 | 3 => 3 | 4 => 4 | 0 => 0 | n => n, fun | n => n⟩
theorem Tryz.layCompact : Go.Proofs.Lays2.n20 Tryz.prog Tryz.layCompact_ren := {
 mixed := by kernel_rfl,
 f20 := Tryz.func66.trans (congrArg some (by kernel_rfl)),
 t0 := Tryz.underlying0,
 a0 := Tryz.isAgg0,
 z0 := Tryz.sizeOf0,
 v0 := Tryz.zeroValue0,
 t3 := Tryz.underlying3,
 a3 := Tryz.isAgg3,
 z3 := Tryz.sizeOf3,
 v3 := Tryz.zeroValue3,
 t4 := Tryz.underlying4,
 a4 := Tryz.isAgg4,
 z4 := Tryz.sizeOf4,
 v4 := Tryz.zeroValue4,
 t22 := Tryz.underlying55,
 a22 := Tryz.isAgg55,
 z22 := Tryz.sizeOf55,
 v22 := Tryz.zeroValue55,
 i3 := by kernel_rfl }
def Tryz.laySearch_ren : Go.Shelf.Ren := ⟨fun | 25 => 68 | 31 => 102 | 32 => 103 | 37 => 127 | n => n, fun | 22 => 55 | 3 => 3 | 4 => 4 | 40 => 114 | 0 => 0 | n => n, fun | n => n⟩
theorem Tryz.laySearch : Go.Proofs.Lays2.n25 Tryz.prog Tryz.laySearch_ren := {
 mixed := by kernel_rfl,
 f25 := Tryz.func68.trans (congrArg some (by kernel_rfl)),
 f31 := Tryz.func102.trans (congrArg some (by kernel_rfl)),
 f32 := Tryz.func103.trans (congrArg some (by kernel_rfl)),
 f37 := Tryz.func127.trans (congrArg some (by kernel_rfl)),
 t0 := Tryz.underlying0,
 a0 := Tryz.isAgg0,
 z0 := Tryz.sizeOf0,
 v0 := Tryz.zeroValue0,
 t3 := Tryz.underlying3,
 a3 := Tryz.isAgg3,
 z3 := Tryz.sizeOf3,
 v3 := Tryz.zeroValue3,
 t4 := Tryz.underlying4,
 a4 := Tryz.isAgg4,
 z4 := Tryz.sizeOf4,
 v4 := Tryz.zeroValue4,
 t22 := Tryz.underlying55,
 a22 := Tryz.isAgg55,
 z22 := Tryz.sizeOf55,
 v22 := Tryz.zeroValue55,
 t40 := Tryz.underlying114,
 a40 := Tryz.isAgg114,
 z40 := Tryz.sizeOf114,
 v40 := Tryz.zeroValue114 }
end Go.Proofs.YtbkmahjhhncfcaaGreat
end
/-
  The library's Sort, Compact and BinarySearch at []int, as contracts on rows that are owned.
-/
section
namespace Go.Proofs.YtbkmahjhhncfcaaGreat
open Go.Sl Go.Sort

theorem I64_map (l : List Int) : I64 l = l.map (Value.int .i64) := rfl
theorem zs_shrink {w : World} {e n m c : Nat} {A : Option Addr} {xs ys : List Value} (h : (Own e 1 A n c (xs ++ ys)).p w) (hx : xs.length = m) (hm : m ≤ n) : (Own e 1 A m c xs).p w := by
 refine ⟨by rw [hx, Nat.mul_one], ?_⟩
 rcases h.2 with ⟨hv, h0⟩ | ⟨g, cap, cur, hv, hb, hh, h3, h4, h5, h6⟩
 · injection hv with h7 h8 h9
   subst h7 h9 h0
   obtain rfl : m = 0 := by omega
   exact .inl ⟨rfl, rfl⟩
 · injection hv with h7 h8 h9
   subst h7 h9
   refine .inr ⟨g, c, cur, rfl, hb, hh, by omega, h4, h5, ?_⟩
   rw [Nat.mul_one] at h6 ⊢
   have h8 := congrArg (List.take m) h6
   rwa [List.take_take, Nat.min_eq_left hm, List.take_left' hx] at h8
theorem sort_c (A : Option Addr) (l : List Int) (c : Nat) (hl : l.length ≤ 1000000) :
   Ctr X 65 [.slice A l.length c] [] [Own 3 1 A l.length c (I64 l)] (fun v R' H' => v = .tuple #[] ∧ R' = [] ∧ H' = [Own 3 1 A l.length c (I64 (l.mergeSort fun x y => decide (x ≤ y)))]) := by
 refine ⟨⟨⟨Tryz.f65, Tryz.func65, by kernel_rfl, by kernel_rfl⟩⟩, fun w hs => ?_⟩
 have ho := hs.own 0 _ rfl
 rcases ho.2 with ⟨hv, h0⟩ | ⟨g, cap, cur, hv, _, hh, h3, h4, h5, h6⟩
 · injection hv with h7 h8 h9
   obtain rfl : l = [] := List.length_eq_zero_iff.1 h0
   refine (Any.slices_Sort_int_none Tryz.laySort A c w).mono ?_
   rintro e w' ⟨rfl, rfl⟩
   rw [List.mergeSort_nil]
   exact ⟨_, _, _, ⟨rfl, rfl, rfl⟩, rfl, hs⟩
 · injection hv with h7 h8 h9
   subst h7 h9
   have hg := (Array.getElem?_eq_some_iff.1 hh).1
   rw [Nat.mul_one, I64_map] at h6
   refine (Any.slices_Sort_int Tryz.laySort g 0 c l w (holds_of_blockI hh h6) hg (by omega)).mono ?_
   rintro e w' ⟨rfl, q, os, rfl⟩
   have hml : (l.mergeSort fun x y => decide (x ≤ y)).length = l.length := List.length_mergeSort l
   have hst := Stp.grown (grownBy_sortedI (w := w) (g := g) (n := q) (os := os) (l.mergeSort fun x y => decide (x ≤ y)).toArray)
   have hn := ownsRow_sortedI (base := 0) (n := q) (os := os) hml (Nat.zero_le g) hh h3 h4 h5
   refine ⟨_, _, _, ⟨rfl, rfl, rfl⟩, rfl, hs.upd (j := 0) rfl hst (fun k hk _ => ⟨_, rfl, by injection hk⟩) (Own 3 1 (some ⟨g, 0, none⟩) l.length c (I64 (l.mergeSort fun x y => decide (x ≤ y)))) hn (fun k hk => ?_)⟩
   obtain ⟨a, ha, hk⟩ := hk
   injection ha with ha
   subst ha
   exact ⟨Nat.lt_of_lt_of_le (hk ▸ hg) hst.size, .inr ⟨_, rfl, hk⟩⟩
theorem compact_c (A : Option Addr) (l : List Int) (c : Nat) (hl : l.length ≤ 1000000) :
   Ctr X 66 [.slice A l.length c] [] [Own 3 1 A l.length c (I64 l)] (fun v R' H' => v = .slice A (Lib.compact l).length c ∧ R' = [] ∧ H' = [Own 3 1 A (Lib.compact l).length c (I64 (Lib.compact l))]) := by
 refine ⟨⟨⟨Tryz.f66, Tryz.func66, by kernel_rfl, by kernel_rfl⟩⟩, fun w hs => ?_⟩
 have ho := hs.own 0 _ rfl
 rcases ho.2 with ⟨hv, h0⟩ | ⟨g, cap, cur, hv, _, hh, h3, h4, h5, h6⟩
 · injection hv with h7 h8 h9
   obtain rfl : l = [] := List.length_eq_zero_iff.1 h0
   refine (Any.slices_Compact_int_empty Tryz.layCompact A c w).mono ?_
   rintro e w' ⟨rfl, rfl⟩
   exact ⟨_, _, _, ⟨rfl, rfl, rfl⟩, rfl, hs⟩
 · injection hv with h7 h8 h9
   subst h7 h9
   have hg := (Array.getElem?_eq_some_iff.1 hh).1
   rw [Nat.mul_one, I64_map] at h6
   refine (Any.slices_Compact_int Tryz.layCompact g 0 c l w (holds_of_blockI hh h6) (by omega) h3).mono ?_
   rintro e w' ⟨rfl, q, rfl⟩
   rw [← grow_empty (putRow _ _ _ _ _)]
   have hle := Lib.compact_length_le l
   have hml : (Lib.compact l ++ List.replicate (l.length - (Lib.compact l).length) 0).length = l.length := by rw [List.length_append, List.length_replicate]; omega
   have hst := Stp.grown (grownBy_sortedI (w := w) (g := g) (n := q) (os := #[]) (Lib.compact l ++ List.replicate (l.length - (Lib.compact l).length) 0).toArray)
   have hn := ownsRow_sortedI (base := 0) (n := q) (os := #[]) hml (Nat.zero_le g) hh h3 h4 h5
   rw [List.map_append] at hn
   refine ⟨_, _, _, ⟨rfl, rfl, rfl⟩, rfl, hs.upd (j := 0) rfl hst (fun k hk _ => ⟨_, rfl, by injection hk⟩) (Own 3 1 (some ⟨g, 0, none⟩) (Lib.compact l).length c (I64 (Lib.compact l))) (zs_shrink hn (I64_len _) hle) (fun k hk => ?_)⟩
   obtain ⟨a, ha, hk⟩ := hk
   injection ha with ha
   subst ha
   exact ⟨Nat.lt_of_lt_of_le (hk ▸ hg) hst.size, .inr ⟨_, rfl, hk⟩⟩
theorem search_c (A : Option Addr) (l : List Int) (c : Nat) (n : Int) (hl : l.length ≤ 1000000) (hs : l.Pairwise (· ≤ ·)) :
   Ctr X 68 [.slice A l.length c, .int .i64 n] [] [Own 3 1 A l.length c (I64 l)] (fun v R' H' => v = .tuple #[.int .i64 ((l.countP (· < n) : Nat) : Int), .bool (l.contains n)] ∧ R' = [] ∧ H' = [Own 3 1 A l.length c (I64 l)]) := by
 refine ⟨⟨⟨Tryz.f68, Tryz.func68, by kernel_rfl, by kernel_rfl⟩⟩, fun w hsat => ?_⟩
 have ho := hsat.own 0 _ rfl
 rcases ho.2 with ⟨hv, h0⟩ | ⟨g, cap, cur, hv, _, hh, h3, h4, h5, h6⟩
 · injection hv with h7 h8 h9
   obtain rfl : l = [] := List.length_eq_zero_iff.1 h0
   refine (Any.slices_BinarySearch_int_empty Tryz.laySearch A c n w).mono ?_
   rintro e w' ⟨rfl, rfl⟩
   exact ⟨_, _, _, ⟨rfl, rfl, rfl⟩, rfl, hsat⟩
 · injection hv with h7 h8 h9
   subst h7 h9
   have e1 : l.take l.length = l := List.take_length
   refine (Any.slices_BinarySearch_int Tryz.laySearch g 0 l.length c l n w (Nat.le_refl _) (by omega) (fun j hj => ?_) (by rw [e1]; exact hs)).mono ?_
   · obtain ⟨g', hA, hc, _⟩ := Own.cell ho (I64_get hj)
     injection hA with hA
     injection hA with hA
     subst hA
     rw [Nat.zero_add]
     exact hc
   · rintro e w' ⟨rfl, q, rfl⟩
     rw [e1]
     exact ⟨_, _, _, ⟨rfl, rfl, rfl⟩, rfl, hsat.same ⟨rfl, rfl, rfl, Nat.le_refl _, fun _ _ _ => rfl⟩⟩
end Go.Proofs.YtbkmahjhhncfcaaGreat
end
