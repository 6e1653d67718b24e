/-
  The small separation logic: new bytes of no given content; slices with a given room; lists of rows that grow.
-/
import Derived.Lib.MakeNoZero
import Derived.Laws.Externs
import Derived.Test.YtkjhcjhfegakoaaChecked
import Derived.Shelf.Slices.Cells
import Derived.Shelf.Slices.Empties
import Derived.Shelf.Slices.In.SortNone
import Derived.Sort.OwnSortedInts
import Derived.Shelf.Sort.Plain
import Derived.Scope
import Derived.Test.YtkjhcjhfegakoaaVSlG
section
namespace Go.Sl
section
variable {X : Cx} {β : Base} {n : Nat} {ds : List Deferred} {ops : Array Oper} {Q : Exit → Act → World → Prop} {rest : List Oper} {Γ : Env} {R H : List Pr}

end
end Go.Sl
end
/-
  The small separation logic: one inner slice is taken out of the owned ones; rows of structs; contracts whose results are only read.
-/
section
namespace Go.Sl

section
variable {X : Cx} {β : Base} {n : Nat} {ds : List Deferred} {ops : Array Oper} {Q : Exit → Act → World → Prop} {rest : List Oper} {Γ : Env} {R H : List Pr}

theorem Own.none (e : TypeId) (w : World) : (Own e 1 none 0 0 []).p w := World.ownsRow_nil w 0 e 1

theorem C.cap {x : Code} (j : Nat) {e sz m c : Nat} {A : Option Addr} {xs : List Value} (hj : H[j]? = some (Own e sz A m c xs)) (h : m ≤ c → C X β n ds Q x Γ R H) : C X β n ds Q x Γ R H :=
 fun a w hf hs => h (Own.cap (hs.own j _ hj)).1 a w hf hs
theorem U8_drop (l : List UInt8) (k : Nat) : (U8 l).drop k = U8 (l.drop k) := by simp [U8, List.map_drop]
/-- The cells of a step of a script: the fields and where the bytes lie. -/
structure Stp6 where
 er : Bool
 se : UInt8
 at_ : UInt8
 data : List UInt8
 yA : Option Addr
 yc : Nat
 torn : Bool
 mask : List UInt8
 mA : Option Addr
 mc : Nat
def Stp6.cells (s : Stp6) : List Value := [.bool s.er, .int .u8 (s.se.toNat : Int), .int .u8 (s.at_.toNat : Int), .slice s.yA s.data.length s.yc, .bool s.torn, .slice s.mA s.mask.length s.mc]
def Stp6.zero : Stp6 := ⟨false, 0, 0, [], none, 0, false, [], none, 0⟩
end
end Go.Sl
end
/-
  The library's proved summaries at this program (printed by a tool of the library).
-/
section
namespace Go.Proofs.Ytkjhcjhfegakoaa
open Go.Shelf
def Try.laySort_ren : Go.Shelf.Ren := ⟨fun | 189 => 32 | 125 => 63 | 257 => 62 | 128 => 84 | 129 => 85 | 294 => 76 | 295 => 77 | 296 => 78 | 297 => 79 | 298 => 80 | 299 => 81 | 216 => 64 | 300 => 82 | 301 => 83 | 328 => 89 | 329 => 90 | 330 => 91 | 331 => 92 | 332 => 93 | 215 => 86 | 343 => 96 | n => n, fun | 28 => 30 | 3 => 3 | 46 => 54 | 0 => 0 | 51 => 53 | 53 => 127 | 4 => 4 | 183 => 120 | 182 => 119 | 131 => 77 | 5 => 5 | 9 => 9 | 218 => 128 | 222 => 98 | 228 => 135 | 229 => 136 | n => n, fun | n => n⟩
theorem Try.laySort : Go.Proofs.Lays.n189 Try.prog Try.laySort_ren := {
 mixed := by kernel_rfl,
 f125 := Try.func63.trans (congrArg some (by kernel_rfl)),
 f128 := Try.func84.trans (congrArg some (by kernel_rfl)),
 f129 := Try.func85.trans (congrArg some (by kernel_rfl)),
 f189 := Try.func32.trans (congrArg some (by kernel_rfl)),
 f215 := Try.func86.trans (congrArg some (by kernel_rfl)),
 f216 := Try.func64.trans (congrArg some (by kernel_rfl)),
 f257 := Try.func62.trans (congrArg some (by kernel_rfl)),
 f294 := Try.func76.trans (congrArg some (by kernel_rfl)),
 f295 := Try.func77.trans (congrArg some (by kernel_rfl)),
 f296 := Try.func78.trans (congrArg some (by kernel_rfl)),
 f297 := Try.func79.trans (congrArg some (by kernel_rfl)),
 f298 := Try.func80.trans (congrArg some (by kernel_rfl)),
 f299 := Try.func81.trans (congrArg some (by kernel_rfl)),
 f300 := Try.func82.trans (congrArg some (by kernel_rfl)),
 f301 := Try.func83.trans (congrArg some (by kernel_rfl)),
 f328 := Try.func89.trans (congrArg some (by kernel_rfl)),
 f329 := Try.func90.trans (congrArg some (by kernel_rfl)),
 f330 := Try.func91.trans (congrArg some (by kernel_rfl)),
 f331 := Try.func92.trans (congrArg some (by kernel_rfl)),
 f332 := Try.func93.trans (congrArg some (by kernel_rfl)),
 f343 := Try.func96.trans (congrArg some (by kernel_rfl)),
 t0 := Try.underlying0,
 a0 := Try.isAgg0,
 z0 := Try.sizeOf0,
 v0 := Try.zeroValue0,
 t3 := Try.underlying3,
 a3 := Try.isAgg3,
 z3 := Try.sizeOf3,
 v3 := Try.zeroValue3,
 t4 := Try.underlying4,
 a4 := Try.isAgg4,
 z4 := Try.sizeOf4,
 v4 := Try.zeroValue4,
 t5 := Try.underlying5,
 a5 := Try.isAgg5,
 z5 := Try.sizeOf5,
 v5 := Try.zeroValue5,
 t9 := Try.underlying9,
 a9 := Try.isAgg9,
 z9 := Try.sizeOf9,
 v9 := Try.zeroValue9,
 t28 := Try.underlying30,
 a28 := Try.isAgg30,
 z28 := Try.sizeOf30,
 v28 := Try.zeroValue30,
 t46 := Try.underlying54,
 a46 := Try.isAgg54,
 z46 := Try.sizeOf54,
 v46 := Try.zeroValue54,
 t51 := Try.underlying53,
 a51 := Try.isAgg53,
 z51 := Try.sizeOf53,
 v51 := Try.zeroValue53,
 t53 := Try.underlying127,
 a53 := Try.isAgg127,
 z53 := Try.sizeOf127,
 v53 := Try.zeroValue127,
 t131 := Try.underlying77,
 a131 := Try.isAgg77,
 z131 := Try.sizeOf77,
 v131 := Try.zeroValue77,
 t182 := Try.underlying119,
 a182 := Try.isAgg119,
 z182 := Try.sizeOf119,
 v182 := Try.zeroValue119,
 t183 := Try.underlying120,
 a183 := Try.isAgg120,
 z183 := Try.sizeOf120,
 v183 := Try.zeroValue120,
 t218 := Try.underlying128,
 a218 := Try.isAgg128,
 z218 := Try.sizeOf128,
 v218 := Try.zeroValue128,
 t222 := Try.underlying98,
 a222 := Try.isAgg98,
 z222 := Try.sizeOf98,
 v222 := Try.zeroValue98,
 t228 := Try.underlying135,
 a228 := Try.isAgg135,
 z228 := Try.sizeOf135,
 v228 := Try.zeroValue135,
 t229 := Try.underlying136,
 a229 := Try.isAgg136,
 z229 := Try.sizeOf136,
 v229 := Try.zeroValue136 }
def Try.layCompact_ren : Go.Shelf.Ren := ⟨fun | 20 => 33 | n => n, fun | 22 => 30 | 3 => 3 | 4 => 4 | 0 => 0 | n => n, fun | n => n⟩
theorem Try.layCompact : Go.Proofs.Lays2.n20 Try.prog Try.layCompact_ren := {
 mixed := by kernel_rfl,
 f20 := Try.func33.trans (congrArg some (by kernel_rfl)),
 t0 := Try.underlying0,
 a0 := Try.isAgg0,
 z0 := Try.sizeOf0,
 v0 := Try.zeroValue0,
 t3 := Try.underlying3,
 a3 := Try.isAgg3,
 z3 := Try.sizeOf3,
 v3 := Try.zeroValue3,
 t4 := Try.underlying4,
 a4 := Try.isAgg4,
 z4 := Try.sizeOf4,
 v4 := Try.zeroValue4,
 t22 := Try.underlying30,
 a22 := Try.isAgg30,
 z22 := Try.sizeOf30,
 v22 := Try.zeroValue30,
 i3 := by kernel_rfl }
def Try.laySearch_ren : Go.Shelf.Ren := ⟨fun | 25 => 35 | 31 => 64 | 32 => 65 | 37 => 86 | n => n, fun | 22 => 30 | 3 => 3 | 4 => 4 | 40 => 54 | 0 => 0 | n => n, fun | n => n⟩
theorem Try.laySearch : Go.Proofs.Lays2.n25 Try.prog Try.laySearch_ren := {
 mixed := by kernel_rfl,
 f25 := Try.func35.trans (congrArg some (by kernel_rfl)),
 f31 := Try.func64.trans (congrArg some (by kernel_rfl)),
 f32 := Try.func65.trans (congrArg some (by kernel_rfl)),
 f37 := Try.func86.trans (congrArg some (by kernel_rfl)),
 t0 := Try.underlying0,
 a0 := Try.isAgg0,
 z0 := Try.sizeOf0,
 v0 := Try.zeroValue0,
 t3 := Try.underlying3,
 a3 := Try.isAgg3,
 z3 := Try.sizeOf3,
 v3 := Try.zeroValue3,
 t4 := Try.underlying4,
 a4 := Try.isAgg4,
 z4 := Try.sizeOf4,
 v4 := Try.zeroValue4,
 t22 := Try.underlying30,
 a22 := Try.isAgg30,
 z22 := Try.sizeOf30,
 v22 := Try.zeroValue30,
 t40 := Try.underlying54,
 a40 := Try.isAgg54,
 z40 := Try.sizeOf54,
 v40 := Try.zeroValue54 }
end Go.Proofs.Ytkjhcjhfegakoaa
end
/-
  The library's Sort, Compact and BinarySearch at []int, as contracts on rows that are owned.
-/
section
namespace Go.Proofs.Ytkjhcjhfegakoaa
open Go.Sl Go.Sort

theorem I64_map (l : List Int) : I64 l = l.map (Value.int .i64) := rfl
theorem zs_shrink {w : World} {e n m c : Nat} {A : Option Addr} {xs ys : List Value} (h : (Own e 1 A n c (xs ++ ys)).p w) (hx : xs.length = m) (hm : m ≤ n) : (Own e 1 A m c xs).p w := by
 refine ⟨by rw [hx, Nat.mul_one], ?_⟩
 rcases h.2 with ⟨hv, h0⟩ | ⟨g, cap, cur, hv, hb, hh, h3, h4, h5, h6⟩
 · injection hv with h7 h8 h9
   subst h7 h9 h0
   obtain rfl : m = 0 := by omega
   exact .inl ⟨rfl, rfl⟩
 · injection hv with h7 h8 h9
   subst h7 h9
   refine .inr ⟨g, c, cur, rfl, hb, hh, by omega, h4, h5, ?_⟩
   rw [Nat.mul_one] at h6 ⊢
   have h8 := congrArg (List.take m) h6
   rwa [List.take_take, Nat.min_eq_left hm, List.take_left' hx] at h8
theorem sort_c (A : Option Addr) (l : List Int) (c : Nat) (hl : l.length ≤ 1000000) :
   Ctr X 32 [.slice A l.length c] [] [Own 3 1 A l.length c (I64 l)] (fun v R' H' => v = .tuple #[] ∧ R' = [] ∧ H' = [Own 3 1 A l.length c (I64 (l.mergeSort fun x y => decide (x ≤ y)))]) := by
 refine ⟨⟨⟨Try.f32, Try.func32, by kernel_rfl, by kernel_rfl⟩⟩, fun w hs => ?_⟩
 have ho := hs.own 0 _ rfl
 rcases ho.2 with ⟨hv, h0⟩ | ⟨g, cap, cur, hv, _, hh, h3, h4, h5, h6⟩
 · injection hv with h7 h8 h9
   obtain rfl : l = [] := List.length_eq_zero_iff.1 h0
   refine (Any.slices_Sort_int_none Try.laySort A c w).mono ?_
   rintro e w' ⟨rfl, rfl⟩
   rw [List.mergeSort_nil]
   exact ⟨_, _, _, ⟨rfl, rfl, rfl⟩, rfl, hs⟩
 · injection hv with h7 h8 h9
   subst h7 h9
   have hg := (Array.getElem?_eq_some_iff.1 hh).1
   rw [Nat.mul_one, I64_map] at h6
   refine (Any.slices_Sort_int Try.laySort g 0 c l w (holds_of_blockI hh h6) hg (by omega)).mono ?_
   rintro e w' ⟨rfl, q, os, rfl⟩
   have hml : (l.mergeSort fun x y => decide (x ≤ y)).length = l.length := List.length_mergeSort l
   have hst := Stp.grown (grownBy_sortedI (w := w) (g := g) (n := q) (os := os) (l.mergeSort fun x y => decide (x ≤ y)).toArray)
   have hn := ownsRow_sortedI (base := 0) (n := q) (os := os) hml (Nat.zero_le g) hh h3 h4 h5
   refine ⟨_, _, _, ⟨rfl, rfl, rfl⟩, rfl, hs.upd (j := 0) rfl hst (fun k hk _ => ⟨_, rfl, by injection hk⟩) (Own 3 1 (some ⟨g, 0, none⟩) l.length c (I64 (l.mergeSort fun x y => decide (x ≤ y)))) hn (fun k hk => ?_)⟩
   obtain ⟨a, ha, hk⟩ := hk
   injection ha with ha
   subst ha
   exact ⟨Nat.lt_of_lt_of_le (hk ▸ hg) hst.size, .inr ⟨_, rfl, hk⟩⟩
theorem compact_c (A : Option Addr) (l : List Int) (c : Nat) (hl : l.length ≤ 1000000) :
   Ctr X 33 [.slice A l.length c] [] [Own 3 1 A l.length c (I64 l)] (fun v R' H' => v = .slice A (Lib.compact l).length c ∧ R' = [] ∧ H' = [Own 3 1 A (Lib.compact l).length c (I64 (Lib.compact l))]) := by
 refine ⟨⟨⟨Try.f33, Try.func33, by kernel_rfl, by kernel_rfl⟩⟩, fun w hs => ?_⟩
 have ho := hs.own 0 _ rfl
 rcases ho.2 with ⟨hv, h0⟩ | ⟨g, cap, cur, hv, _, hh, h3, h4, h5, h6⟩
 · injection hv with h7 h8 h9
   obtain rfl : l = [] := List.length_eq_zero_iff.1 h0
   refine (Any.slices_Compact_int_empty Try.layCompact A c w).mono ?_
   rintro e w' ⟨rfl, rfl⟩
   exact ⟨_, _, _, ⟨rfl, rfl, rfl⟩, rfl, hs⟩
 · injection hv with h7 h8 h9
   subst h7 h9
   have hg := (Array.getElem?_eq_some_iff.1 hh).1
   rw [Nat.mul_one, I64_map] at h6
   refine (Any.slices_Compact_int Try.layCompact g 0 c l w (holds_of_blockI hh h6) (by omega) h3).mono ?_
   rintro e w' ⟨rfl, q, rfl⟩
   rw [← grow_empty (putRow _ _ _ _ _)]
   have hle := Lib.compact_length_le l
   have hml : (Lib.compact l ++ List.replicate (l.length - (Lib.compact l).length) 0).length = l.length := by rw [List.length_append, List.length_replicate]; omega
   have hst := Stp.grown (grownBy_sortedI (w := w) (g := g) (n := q) (os := #[]) (Lib.compact l ++ List.replicate (l.length - (Lib.compact l).length) 0).toArray)
   have hn := ownsRow_sortedI (base := 0) (n := q) (os := #[]) hml (Nat.zero_le g) hh h3 h4 h5
   rw [List.map_append] at hn
   refine ⟨_, _, _, ⟨rfl, rfl, rfl⟩, rfl, hs.upd (j := 0) rfl hst (fun k hk _ => ⟨_, rfl, by injection hk⟩) (Own 3 1 (some ⟨g, 0, none⟩) (Lib.compact l).length c (I64 (Lib.compact l))) (zs_shrink hn (I64_len _) hle) (fun k hk => ?_)⟩
   obtain ⟨a, ha, hk⟩ := hk
   injection ha with ha
   subst ha
   exact ⟨Nat.lt_of_lt_of_le (hk ▸ hg) hst.size, .inr ⟨_, rfl, hk⟩⟩
theorem search_c (A : Option Addr) (l : List Int) (c : Nat) (n : Int) (hl : l.length ≤ 1000000) (hs : l.Pairwise (· ≤ ·)) :
   Ctr X 35 [.slice A l.length c, .int .i64 n] [] [Own 3 1 A l.length c (I64 l)] (fun v R' H' => v = .tuple #[.int .i64 ((l.countP (· < n) : Nat) : Int), .bool (l.contains n)] ∧ R' = [] ∧ H' = [Own 3 1 A l.length c (I64 l)]) := by
 refine ⟨⟨⟨Try.f35, Try.func35, by kernel_rfl, by kernel_rfl⟩⟩, fun w hsat => ?_⟩
 have ho := hsat.own 0 _ rfl
 rcases ho.2 with ⟨hv, h0⟩ | ⟨g, cap, cur, hv, _, hh, h3, h4, h5, h6⟩
 · injection hv with h7 h8 h9
   obtain rfl : l = [] := List.length_eq_zero_iff.1 h0
   refine (Any.slices_BinarySearch_int_empty Try.laySearch A c n w).mono ?_
   rintro e w' ⟨rfl, rfl⟩
   exact ⟨_, _, _, ⟨rfl, rfl, rfl⟩, rfl, hsat⟩
 · injection hv with h7 h8 h9
   subst h7 h9
   have e1 : l.take l.length = l := List.take_length
   refine (Any.slices_BinarySearch_int Try.laySearch g 0 l.length c l n w (Nat.le_refl _) (by omega) (fun j hj => ?_) (by rw [e1]; exact hs)).mono ?_
   · obtain ⟨g', hA, hc, _⟩ := Own.cell ho (I64_get hj)
     injection hA with hA
     injection hA with hA
     subst hA
     rw [Nat.zero_add]
     exact hc
   · rintro e w' ⟨rfl, q, rfl⟩
     rw [e1]
     exact ⟨_, _, _, ⟨rfl, rfl, rfl⟩, rfl, hsat.same ⟨rfl, rfl, rfl, Nat.le_refl _, fun _ _ _ => rfl⟩⟩
end Go.Proofs.Ytkjhcjhfegakoaa
end
/-
  The owned things, written out anew: what is nested in choices is told once.
-/
section
namespace Go.Sl
section
variable {X : Cx} {β : Base} {n : Nat} {ds : List Deferred} {ops : Array Oper} {Q : Exit → Act → World → Prop} {Γ : Env} {R H : List Pr} {rest : List Oper}
theorem C.norm {c : Code} {H' : List Pr} (hs : List Nat) (hp : Pk H hs H') (hn : hs.Nodup) (h : C X β n ds Q c Γ R H') : C X β n ds Q c Γ R H := fun a w hf hw => h a w hf (hw.pk hp hn)
theorem L.norm {H' : List Pr} (hs : List Nat) (hp : Pk H hs H') (hn : hs.Nodup) (h : L X β n ds ops Q rest Γ R H') : L X β n ds ops Q rest Γ R H := fun a w hf hw => h a w hf (hw.pk hp hn)
theorem QE.norm {x : Exit} {H' : List Pr} (hs : List Nat) (hp : Pk H hs H') (hn : hs.Nodup) (h : QE β n ds Q x Γ R H') : QE β n ds Q x Γ R H := fun a w hf hw => h a w hf (hw.pk hp hn)
end
end Go.Sl
end
/-
  The small separation logic: methods behind interface values; numbers of 64 bits as sets.
-/
section
namespace Go.Sl

section
variable {X : Cx} {β : Base} {n : Nat} {ds : List Deferred} {ops : Array Oper} {Q : Exit → Act → World → Prop} {Γ : Env} {R H : List Pr} {rest : List Oper}

end

section
variable {X : Cx} {β : Base} {Γ : Env} {R H : List Pr}
end

section
variable {X : Cx} {β : Base} {n : Nat} {ds : List Deferred} {Q : Exit → Act → World → Prop} {Γ : Env} {R H : List Pr}
theorem QE.sX {j : Nat} (h : QE β n ds Q (.exit j) Γ R H) : QE β n ds (Exit.noGoto Q) (.exit j) Γ R H := h
end

section
variable {X : Cx} {β : Base} {n : Nat} {ds : List Deferred} {Q : Exit → Act → World → Prop} {Γ : Env} {R H : List Pr}
end

/-! ### An inner slice is put where none was -/
section
variable {X : Cx} {β : Base} {n : Nat} {ds : List Deferred} {ops : Array Oper} {Q : Exit → Act → World → Prop} {Γ : Env} {R H : List Pr} {rest : List Oper}
theorem Sat.repl {w : World} {c c' : Pr} (h : Sat β w R (c :: H)) (hp : c.p w → c'.p w) (hf : ∀ k, c'.fp k → c.fp k) : Sat β w R (c' :: H) := by
 have idx : ∀ (q : Nat) (d : Pr), (c' :: H)[q]? = some d → ∃ d', (c :: H)[q]? = some d' ∧ (d'.p w → d.p w) ∧ ∀ k, d.fp k → d'.fp k := by
   intro q d hd
   match q with
   | 0 =>
     simp at hd
     subst hd
     exact ⟨c, rfl, hp, hf⟩
   | q + 1 => exact ⟨d, hd, id, fun _ h => h⟩
 refine h.put (Stp.refl w fun _ => False) (fun _ hk => hk.elim) R _ (fun r hr => .inl hr) ?_ ?_ ?_
 · intro q d hd
   obtain ⟨d', hd', h1, h2⟩ := idx q d hd
   exact ⟨h1 (h.own q _ hd'), fun k hk => ⟨(h.ofp q _ hd' k (h2 k hk)).1, .inr ⟨q, _, hd', h2 k hk⟩⟩⟩
 · intro p q x y hx hy hne k hxk hyk
   obtain ⟨x', hx', _, h2⟩ := idx p x hx
   obtain ⟨y', hy', _, h3⟩ := idx q y hy
   exact h.dis p q _ _ hx' hy' hne k (h2 k hxk) (h3 k hyk)
 · intro r hr q d hd k hrk hdk
   obtain ⟨d', hd', _, h2⟩ := idx q d hd
   exact h.sep r hr q _ hd' k hrk (h2 k hdk)
/-- The last inner slice goes to a place where none was. -/
theorem OwnKids.move {w : World} {e i : Nat} {hs : List Hd} {vss : List (List Value)} {g : Hd} {v : List Value} (hl : hs.length = vss.length) (hi : i < vss.length) (h : (OwnKids e (hs ++ [g]) (vss ++ [v])).p w) : (OwnKids e (hs.set i g) (vss.set i v)).p w := by
 have gl : (hs ++ [g])[hs.length]? = some g := by simp
 have vl : (vss ++ [v])[hs.length]? = some v := by rw [hl]; simp
 have low : ∀ {q : Nat} {x : Hd}, hs[q]? = some x → (hs ++ [g])[q]? = some x := fun {q x} hq => by
   rw [List.getElem?_append_left (List.getElem?_eq_some_iff.1 hq).1]; exact hq
 have lov : ∀ {q : Nat} {x : List Value}, vss[q]? = some x → (vss ++ [v])[q]? = some x := fun {q x} hq => by
   rw [List.getElem?_append_left (List.getElem?_eq_some_iff.1 hq).1]; exact hq
 have src : ∀ (q : Nat) (x : Hd), (hs.set i g)[q]? = some x → ∃ q', (hs ++ [g])[q']? = some x ∧ (q' = hs.length ↔ q = i) ∧ (q ≠ i → q' = q) := by
   intro q x hx
   rw [List.getElem?_set] at hx
   by_cases hq : i = q
   · rw [if_pos hq, if_pos (by omega)] at hx
     injection hx with hx
     subst hx
     exact ⟨hs.length, gl, ⟨fun _ => hq.symm, fun _ => rfl⟩, fun h => absurd hq.symm h⟩
   · rw [if_neg hq] at hx
     have := (List.getElem?_eq_some_iff.1 hx).1
     exact ⟨q, low hx, ⟨fun h => by omega, fun h => absurd h.symm hq⟩, fun _ => rfl⟩
 refine ⟨by simp [hl], fun q x y hx hy => ?_, fun a b x y hx hy hab => ?_⟩
 · rw [List.getElem?_set] at hx hy
   by_cases hq : i = q
   · rw [if_pos hq, if_pos (by omega)] at hx
     rw [if_pos hq, if_pos hi] at hy
     injection hx with hx
     injection hy with hy
     subst hx hy
     exact h.2.1 _ _ _ gl vl
   · rw [if_neg hq] at hx hy
     exact h.2.1 _ _ _ (low hx) (lov hy)
 · obtain ⟨a', ha, ha2, ha3⟩ := src a x hx
   obtain ⟨b', hb, hb2, hb3⟩ := src b y hy
   refine h.2.2 a' b' x y ha hb (fun e => ?_)
   by_cases h1 : a = i
   · exact hab (h1.trans (hb2.1 (e ▸ ha2.2 h1)).symm)
   · by_cases h2 : b = i
     · exact h1 (ha2.1 (e ▸ hb2.2 h2))
     · rw [ha3 h1, hb3 h2] at e
       exact hab e
end

section
variable {X : Cx} {β : Base} {n : Nat} {ds : List Deferred} {ops : Array Oper} {Q : Exit → Act → World → Prop} {Γ : Env} {R H : List Pr} {rest : List Oper}
theorem Ev.shr8N {t ty : Nat} {x y : Operand} {yk : IntKind} {m k : Nat} (hx : ev Γ x = some (.int .u8 (m : Int))) (hy : ev Γ y = some (.int yk (k : Int))) (hk : k ≤ 8) : Ev X β Γ R H (.binOp .shr t x y ty) (.int .u8 ((m >>> k : Nat) : Int)) := by
 intro ρ w hρ hw o ho
 have hg : (eqGuard .shr t x y (.int .u8 (m : Int)) (.int yk (k : Int))).run X.P w = .ok () w := by unfold eqGuard; rfl
 have hb : ¬ (k : Int) < 0 := by omega
 have e : (m : Int).fdiv (2 ^ min (k : Int).toNat 8) = ((m >>> k : Nat) : Int) := by
   rw [Int.toNat_natCast, Nat.min_eq_left hk, Int.fdiv_eq_ediv_of_nonneg _ (Int.pow_nonneg (by decide)), Nat.shiftRight_eq_div_pow, Int.natCast_ediv, Int.natCast_pow]
   rfl
 simp only [execOp, ho, hρ _ _ hx, hρ _ _ hy, Sem.run_bind, hg, Result.andThen_ok, binOp_shr, Op.shift, if_neg hb, Sem.run_pure, IntKind.bits]
 rw [← e]
theorem bop8N {a b : Nat} (ha : a < 256) (hb : b < 256) : bop .and .u8 (a : Int) (b : Int) = ((a &&& b : Nat) : Int) := by
 show IntKind.u8.wrap ((BitVec.ofInt 8 (a : Int) &&& BitVec.ofInt 8 (b : Int)).toNat : Int) = _
 rw [BitVec.ofInt_natCast, BitVec.ofInt_natCast, BitVec.toNat_and, BitVec.toNat_ofNat, BitVec.toNat_ofNat, Nat.mod_eq_of_lt ha, Nat.mod_eq_of_lt hb, wrap_u8]
 have := @Nat.and_le_left a b
 omega
end

section
variable {X : Cx} {β : Base} {n : Nat} {ds : List Deferred} {ops : Array Oper} {Q : Exit → Act → World → Prop} {Γ : Env} {R H : List Pr} {rest : List Oper}
end
end Go.Sl
end
/-
  Shifts of a small number.
-/
section
namespace Go.Sl

section
variable {X : Cx} {β : Base} {Γ : Env} {R H : List Pr}
theorem Ev.shl8 {t ty : Nat} {x y : Operand} {yk : IntKind} {m k : Nat} (hx : ev Γ x = some (.int .u8 (m : Int))) (hy : ev Γ y = some (.int yk (k : Int))) (hk : k ≤ 8) (hm : m * 2 ^ k < 256) : Ev X β Γ R H (.binOp .shl t x y ty) (.int .u8 ((m * 2 ^ k : Nat) : Int)) := by
 intro ρ w hρ hw o ho
 have hg : (eqGuard .shl t x y (.int .u8 (m : Int)) (.int yk (k : Int))).run X.P w = .ok () w := by unfold eqGuard; rfl
 have hb : ¬ (k : Int) < 0 := by omega
 have e : IntKind.u8.wrap ((m : Int) * 2 ^ min (k : Int).toNat 8) = ((m * 2 ^ k : Nat) : Int) := by
   rw [Int.toNat_natCast, Nat.min_eq_left hk, wrap_u8, show (m : Int) * 2 ^ k = ((m * 2 ^ k : Nat) : Int) by rw [Int.natCast_mul, Int.natCast_pow]; rfl]
   omega
 simp only [execOp, ho, hρ _ _ hx, hρ _ _ hy, Sem.run_bind, hg, Result.andThen_ok, binOp_shl, Op.shift, if_neg hb, Sem.run_pure, IntKind.bits]
 rw [← e]
end
end Go.Sl
end
