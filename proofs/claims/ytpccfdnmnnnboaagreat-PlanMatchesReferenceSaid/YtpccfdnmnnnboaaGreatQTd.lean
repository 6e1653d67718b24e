/-
  What is a valid plan, as plain data.
-/
import Derived.Test.YtpccfdnmnnnboaaGreatChecked
import Derived.Shelf.Slices.In.SortNone
import Derived.Sort.OwnSortedInts
import Derived.Shelf.Sort.Plain
import Derived.Test.YtpccfdnmnnnboaaGreatQTc
import Derived.Test.YtpccfdnmnnnboaaGreatQWPlC
import Derived.Test.YtpccfdnmnnnboaaGreatQSlR
section
namespace Go.Sl

/-! ### Lists that rise are told by their members -/
theorem rise_eq : ∀ {l m : List Int}, l.Pairwise (· < ·) → m.Pairwise (· < ·) → (∀ x, x ∈ l ↔ x ∈ m) → l = m
 | [], [], _, _, _ => rfl
 | [], b :: m, _, _, h => by have := (h b).2 (by simp); cases this
 | a :: l, [], _, _, h => by have := (h a).1 (by simp); cases this
 | a :: l, b :: m, h1, h2, h => by
   obtain ⟨p1, p2⟩ := List.pairwise_cons.1 h1
   obtain ⟨q1, q2⟩ := List.pairwise_cons.1 h2
   have e : a = b := by
     rcases List.mem_cons.1 ((h a).1 (by simp)) with g | g
     · exact g
     · rcases List.mem_cons.1 ((h b).2 (by simp)) with g' | g'
       · exact g'.symm
       · have := q1 a g
         have := p1 b g'
         omega
   subst e
   congr 1
   refine rise_eq p2 q2 fun x => ?_
   constructor
   · intro hx
     rcases List.mem_cons.1 ((h x).1 (by simp [hx])) with g | g
     · subst g
       have := p1 x hx
       omega
     · exact g
   · intro hx
     rcases List.mem_cons.1 ((h x).2 (by simp [hx])) with g | g
     · subst g
       have := q1 x hx
       omega
     · exact g
theorem perm_sub {α : Type} [DecidableEq α] : ∀ {l m : List α}, l.Nodup → (∀ x ∈ l, x ∈ m) → m.length ≤ l.length → l.Perm m
 | [], m, _, _, h => by
   have : m = [] := List.length_eq_zero_iff.1 (by simpa using h)
   subst this
   exact List.Perm.refl _
 | a :: l, m, h1, h2, h => by
   have ha := h2 a (by simp)
   have h3 := List.nodup_cons.1 h1
   have hp := List.perm_cons_erase ha
   have hl := hp.length_eq
   refine (List.Perm.cons a (perm_sub h3.2 (fun x hx => ?_) (by simp at hl h; omega))).trans hp.symm
   have hne : x ≠ a := fun e => h3.1 (e ▸ hx)
   exact (List.mem_erase_of_ne hne).2 (h2 x (by simp [hx]))
def srtI (l : List Int) : List Int := l.mergeSort fun x y => decide (x ≤ y)
theorem srt_perm (l : List Int) : (srtI l).Perm l := List.mergeSort_perm _ _
theorem srt_rise (l : List Int) : (srtI l).Pairwise (· ≤ ·) := by
 have := List.pairwise_mergeSort (le := fun x y : Int => decide (x ≤ y)) (fun a b c h1 h2 => by simp at *; omega) (fun a b => by simp; omega) l
 exact this.imp fun h => by simpa using h
theorem NI_rise {l : List Nat} (h : l.Pairwise (· < ·)) : (NI l).Pairwise (· < ·) := by
 unfold NI
 rw [List.pairwise_map]
 exact h.imp fun h => by omega
section
variable {chg : List Nat} {seq : List Int}
theorem srt_iff (hc : chg.Pairwise (· < ·)) : srtI seq = NI chg ↔ seq.length = chg.length ∧ ∀ t ∈ chg, (t : Int) ∈ seq := by
 have hr := NI_rise hc
 have hn : (NI chg).Nodup := hr.imp fun h => by omega
 constructor
 · intro h
   have hp := srt_perm seq
   rw [h] at hp
   refine ⟨by rw [← hp.length_eq, NI_len], fun t ht => hp.mem_iff.1 (List.mem_map.2 ⟨t, ht, rfl⟩)⟩
 · rintro ⟨h1, h2⟩
   have hp : (NI chg).Perm seq := perm_sub hn (fun x hx => by
     obtain ⟨t, ht, rfl⟩ := List.mem_map.1 hx
     exact h2 t ht) (by rw [NI_len]; omega)
   have hp2 := (srt_perm seq).trans hp.symm
   refine rise_eq ?_ hr fun x => hp2.mem_iff
   have hnd : (srtI seq).Nodup := hp2.nodup_iff.2 hn
   have := (srt_rise seq).and hnd
   exact this.imp fun h => by omega
theorem srt_nodup (hc : chg.Pairwise (· < ·)) (h : srtI seq = NI chg) : seq.Nodup := by
 have hr := NI_rise hc
 have hn : (NI chg).Nodup := hr.imp fun h => by omega
 have hp := srt_perm seq
 rw [h] at hp
 exact hp.nodup_iff.1 hn
end
/-! ### Places of numbers, in a map -/
def numZ (l : List Int) (i : Nat) : List (Int × Value) := (List.range i).map fun j => (l.getD j 0, .int .i64 (j : Int))
theorem numZ_snoc (l : List Int) (i : Nat) : numZ l (i + 1) = numZ l i ++ [(l.getD i 0, .int .i64 (i : Int))] := by simp [numZ, List.range_succ]
theorem numZ_no {l : List Int} {t : Int} : ∀ {i : Nat}, (∀ j, j < i → l.getD j 0 ≠ t) → mget (numZ l i) t = none
 | 0, _ => rfl
 | i + 1, h => by
   rw [numZ_snoc, mget_app, numZ_no (fun j hj => h j (by omega))]
   have := h i (by omega)
   simp only [mget]
   rw [if_neg this]
theorem numZ_yes {l : List Int} {k : Nat} (hn : ∀ i j, i < j → j < l.length → l.getD i 0 ≠ l.getD j 0) (hk : k < l.length) : ∀ {i : Nat}, k < i → i ≤ l.length → mget (numZ l i) (l.getD k 0) = some (.int .i64 (k : Int))
 | 0, h, _ => absurd h (Nat.not_lt_zero _)
 | i + 1, h, hi => by
   rw [numZ_snoc, mget_app]
   by_cases e : k = i
   · subst e
     rw [numZ_no (fun j hj => hn j k hj hk)]
     simp [mget]
   · rw [numZ_yes hn hk (by omega) (by omega)]
theorem nodupI_ne {l : List Int} (h : l.Nodup) (i j : Nat) (hij : i < j) (hj : j < l.length) : l.getD i 0 ≠ l.getD j 0 := by
 rw [List.getD_eq_getElem?_getD, List.getD_eq_getElem?_getD, List.getElem?_eq_getElem (by omega), List.getElem?_eq_getElem hj]
 intro e
 have := (List.getElem_inj h).1 (by simpa using e)
 omega
theorem idxJ_mem {l : List Int} {t : Int} (h : t ∈ l) : ∃ k : Nat, idxJ l t = (k : Int) ∧ k < l.length ∧ l.getD k 0 = t := by
 have h1 := List.idxOf_lt_length_iff.2 h
 refine ⟨l.idxOf t, ?_, h1, ?_⟩
 · unfold idxJ
   rw [if_pos (List.contains_iff_mem.2 h)]
 · rw [List.getD_eq_getElem?_getD, List.getElem?_eq_getElem h1]
   simp
theorem numZ_idx {l : List Int} {t : Int} (hn : l.Nodup) (h : t ∈ l) : mget (numZ l l.length) t = some (.int .i64 (idxJ l t)) := by
 obtain ⟨k, h1, h2, h3⟩ := idxJ_mem h
 rw [h1, ← h3]
 exact numZ_yes (nodupI_ne hn) h2 h2 (Nat.le_refl _)
theorem idxJ_neg {l : List Int} {t : Int} : idxJ l t < 0 ↔ t ∉ l := by
 constructor
 · intro h hm
   obtain ⟨k, h1, _⟩ := idxJ_mem hm
   omega
 · intro h
   unfold idxJ
   rw [if_neg (fun g => h (List.contains_iff_mem.1 g))]
   decide
/-! ### Valid plans -/
def stT (chg st : List Int) (i : Nat) : Bool := chg.contains (st.getD i 0) && !(decide (0 < i) && decide (st.getD (i - 1) 0 ≥ st.getD i 0))
def stB (chg st : List Int) : Bool := (List.range st.length).all (stT chg st)
section
variable {l : List Sy} {inn : Int} {S n u t : Nat} {seq st chg : List Int}
def okT (seq st : List Int) (u t : Nat) : Bool := st.contains (t : Int) || decide (idxJ seq u ≤ idxJ seq t)
def okU (l : List Sy) (inn : Int) (S n : Nat) (seq st : List Int) (u : Nat) : Bool := (List.range n).all fun t => !rdsB l inn S u t || okT seq st u t
def plB (l : List Sy) (inn : Int) (S n : Nat) (seq st : List Int) : Bool := (List.range n).all (okU l inn S n seq st)
theorem all_yes {n : Nat} {p : Nat → Bool} (h : ∀ k, k < n → p k = true) : (List.range n).all p = true := List.all_eq_true.2 fun k hk => h k (List.mem_range.1 hk)
theorem all_no {n k : Nat} {p : Nat → Bool} (hk : k < n) (h : p k = false) : (List.range n).all p = false := by
 cases hb : (List.range n).all p with
 | false => rfl
 | true =>
   have := List.all_eq_true.1 hb k (List.mem_range.2 hk)
   rw [h] at this
   cases this
theorem okU_yes (h : ∀ j, j < ((rdsL l inn S n n).getD u []).length → ∀ t : Nat, ((rdsL l inn S n n).getD u []).getD j 0 = (t : Int) → okT seq st u t = true) (hu : u < n) : okU l inn S n seq st u = true := by
 refine all_yes fun t ht => ?_
 cases hr : rdsB l inn S u t with
 | false => rfl
 | true =>
   have hc := rdsL_has (l := l) (inn := inn) (S := S) hu ht
   rw [hr, List.contains_iff_mem] at hc
   obtain ⟨k, _, h2, h3⟩ := idxJ_mem hc
   rw [h k h2 t h3]
   rfl
theorem okU_no (hr : rdsB l inn S u t = true) (ht : t < n) (h : okT seq st u t = false) : okU l inn S n seq st u = false := by
 refine all_no (k := t) ht ?_
 rw [hr, h]
 rfl
end
theorem okU_hi {l : List Sy} {inn : Int} {S n u : Nat} {seq st : List Int} (h : chgB l inn S u = false) : okU l inn S n seq st u = true := all_yes fun t _ => by rw [rdsB_no1 h]; rfl
theorem idxJ_has {l : List Int} {t : Int} : decide (idxJ l t < 0) = !l.contains t := by
 rw [Bool.eq_iff_iff, decide_eq_true_eq, idxJ_neg, Bool.not_eq_true', ← Bool.not_eq_true, List.contains_iff_mem]
theorem stT_no1 {chg st : List Int} {i : Nat} (h : chg.contains (st.getD i 0) = false) : stT chg st i = false := by unfold stT; rw [h]; rfl
theorem stT_no2 {chg st : List Int} {i : Nat} (h : 0 < i) (h2 : st.getD (i - 1) 0 ≥ st.getD i 0) : stT chg st i = false := by unfold stT; rw [decide_eq_true h, decide_eq_true h2]; simp
theorem stT_yes1 {chg st : List Int} {i : Nat} (h : chg.contains (st.getD i 0) = true) (h2 : ¬0 < i) : stT chg st i = true := by unfold stT; rw [h, decide_eq_false h2]; rfl
theorem stT_yes2 {chg st : List Int} {i : Nat} (h : chg.contains (st.getD i 0) = true) (h2 : ¬st.getD (i - 1) 0 ≥ st.getD i 0) : stT chg st i = true := by unfold stT; rw [h, decide_eq_false h2]; simp
theorem okT_no {seq st : List Int} {u t : Nat} (h : st.contains (t : Int) = false) (h2 : idxJ seq t < idxJ seq u) : okT seq st u t = false := by unfold okT; rw [h, decide_eq_false (by omega)]; rfl
theorem okT_yes1 {seq st : List Int} {u t : Nat} (h : st.contains (t : Int) = true) : okT seq st u t = true := by unfold okT; rw [h]; rfl
theorem okT_yes2 {seq st : List Int} {u t : Nat} (h2 : ¬idxJ seq t < idxJ seq u) : okT seq st u t = true := by unfold okT; rw [decide_eq_true (by omega)]; simp
def vldB (lf : Bool) (sz n inn out : Int) (ops : List Po) (seq st : List Int) : Bool :=
 decide (chkE inn out ops = 0) && !lf && sizB sz n inn out && decide (srtI seq = NI (chgL (symL ops) inn sz.toNat n.toNat)) && stB (NI (chgL (symL ops) inn sz.toNat n.toNat)) st && plB (symL ops) inn sz.toNat n.toNat seq st
section
variable {lf : Bool} {sz n inn out : Int} {ops : List Po} {seq st : List Int}
theorem val_iff : vldB lf sz n inn out ops seq st = true ↔ chkE inn out ops = 0 ∧ lf = false ∧ sizB sz n inn out = true ∧ srtI seq = NI (chgL (symL ops) inn sz.toNat n.toNat) ∧ stB (NI (chgL (symL ops) inn sz.toNat n.toNat)) st = true ∧ plB (symL ops) inn sz.toNat n.toNat seq st = true := by
 unfold vldB
 simp only [Bool.and_eq_true, decide_eq_true_eq, Bool.not_eq_true']
 constructor
 · rintro ⟨⟨⟨⟨⟨a, b⟩, c⟩, d⟩, e⟩, f⟩
   exact ⟨a, b, c, d, e, f⟩
 · rintro ⟨a, b, c, d, e, f⟩
   exact ⟨⟨⟨⟨⟨a, b⟩, c⟩, d⟩, e⟩, f⟩
theorem val_no (h : ¬(chkE inn out ops = 0 ∧ lf = false ∧ sizB sz n inn out = true ∧ srtI seq = NI (chgL (symL ops) inn sz.toNat n.toNat) ∧ stB (NI (chgL (symL ops) inn sz.toNat n.toNat)) st = true ∧ plB (symL ops) inn sz.toNat n.toNat seq st = true)) : vldB lf sz n inn out ops seq st = false := by
 cases hb : vldB lf sz n inn out ops seq st with
 | false => rfl
 | true => exact absurd (val_iff.1 hb) h
end
end Go.Sl
end
/-
  The library's proved summaries at this program (printed by a tool of the library).
-/
section
namespace Go.Proofs.YtpccfdnmnnnboaaGreat
open Go.Shelf
def Tryz.laySort_ren : Go.Shelf.Ren := ⟨fun | 189 => 101 | 125 => 139 | 257 => 138 | 128 => 165 | 129 => 166 | 294 => 157 | 295 => 158 | 296 => 159 | 297 => 160 | 298 => 161 | 299 => 162 | 216 => 143 | 300 => 163 | 301 => 164 | 328 => 170 | 329 => 171 | 330 => 172 | 331 => 173 | 332 => 174 | 215 => 154 | 343 => 177 | n => n, fun | 28 => 34 | 3 => 3 | 46 => 181 | 0 => 0 | 51 => 172 | 53 => 150 | 4 => 4 | 183 => 225 | 182 => 224 | 131 => 173 | 5 => 5 | 9 => 9 | 218 => 236 | 222 => 232 | 228 => 242 | 229 => 243 | n => n, fun | n => n⟩
theorem Tryz.laySort : Go.Proofs.Lays.n189 Tryz.prog Tryz.laySort_ren := {
 mixed := by kernel_rfl,
 f125 := Tryz.func139.trans (congrArg some (by kernel_rfl)),
 f128 := Tryz.func165.trans (congrArg some (by kernel_rfl)),
 f129 := Tryz.func166.trans (congrArg some (by kernel_rfl)),
 f189 := Tryz.func101.trans (congrArg some (by kernel_rfl)),
 f215 := Tryz.func154.trans (congrArg some (by kernel_rfl)),
 f216 := Tryz.func143.trans (congrArg some (by kernel_rfl)),
 f257 := Tryz.func138.trans (congrArg some (by kernel_rfl)),
 f294 := Tryz.func157.trans (congrArg some (by kernel_rfl)),
 f295 := Tryz.func158.trans (congrArg some (by kernel_rfl)),
 f296 := Tryz.func159.trans (congrArg some (by kernel_rfl)),
 f297 := Tryz.func160.trans (congrArg some (by kernel_rfl)),
 f298 := Tryz.func161.trans (congrArg some (by kernel_rfl)),
 f299 := Tryz.func162.trans (congrArg some (by kernel_rfl)),
 f300 := Tryz.func163.trans (congrArg some (by kernel_rfl)),
 f301 := Tryz.func164.trans (congrArg some (by kernel_rfl)),
 f328 := Tryz.func170.trans (congrArg some (by kernel_rfl)),
 f329 := Tryz.func171.trans (congrArg some (by kernel_rfl)),
 f330 := Tryz.func172.trans (congrArg some (by kernel_rfl)),
 f331 := Tryz.func173.trans (congrArg some (by kernel_rfl)),
 f332 := Tryz.func174.trans (congrArg some (by kernel_rfl)),
 f343 := Tryz.func177.trans (congrArg some (by kernel_rfl)),
 t0 := Tryz.underlying0,
 a0 := Tryz.isAgg0,
 z0 := Tryz.sizeOf0,
 v0 := Tryz.zeroValue0,
 t3 := Tryz.underlying3,
 a3 := Tryz.isAgg3,
 z3 := Tryz.sizeOf3,
 v3 := Tryz.zeroValue3,
 t4 := Tryz.underlying4,
 a4 := Tryz.isAgg4,
 z4 := Tryz.sizeOf4,
 v4 := Tryz.zeroValue4,
 t5 := Tryz.underlying5,
 a5 := Tryz.isAgg5,
 z5 := Tryz.sizeOf5,
 v5 := Tryz.zeroValue5,
 t9 := Tryz.underlying9,
 a9 := Tryz.isAgg9,
 z9 := Tryz.sizeOf9,
 v9 := Tryz.zeroValue9,
 t28 := Tryz.underlying34,
 a28 := Tryz.isAgg34,
 z28 := Tryz.sizeOf34,
 v28 := Tryz.zeroValue34,
 t46 := Tryz.underlying181,
 a46 := Tryz.isAgg181,
 z46 := Tryz.sizeOf181,
 v46 := Tryz.zeroValue181,
 t51 := Tryz.underlying172,
 a51 := Tryz.isAgg172,
 z51 := Tryz.sizeOf172,
 v51 := Tryz.zeroValue172,
 t53 := Tryz.underlying150,
 a53 := Tryz.isAgg150,
 z53 := Tryz.sizeOf150,
 v53 := Tryz.zeroValue150,
 t131 := Tryz.underlying173,
 a131 := Tryz.isAgg173,
 z131 := Tryz.sizeOf173,
 v131 := Tryz.zeroValue173,
 t182 := Tryz.underlying224,
 a182 := Tryz.isAgg224,
 z182 := Tryz.sizeOf224,
 v182 := Tryz.zeroValue224,
 t183 := Tryz.underlying225,
 a183 := Tryz.isAgg225,
 z183 := Tryz.sizeOf225,
 v183 := Tryz.zeroValue225,
 t218 := Tryz.underlying236,
 a218 := Tryz.isAgg236,
 z218 := Tryz.sizeOf236,
 v218 := Tryz.zeroValue236,
 t222 := Tryz.underlying232,
 a222 := Tryz.isAgg232,
 z222 := Tryz.sizeOf232,
 v222 := Tryz.zeroValue232,
 t228 := Tryz.underlying242,
 a228 := Tryz.isAgg242,
 z228 := Tryz.sizeOf242,
 v228 := Tryz.zeroValue242,
 t229 := Tryz.underlying243,
 a229 := Tryz.isAgg243,
 z229 := Tryz.sizeOf243,
 v229 := Tryz.zeroValue243 }
end Go.Proofs.YtpccfdnmnnnboaaGreat
end
/-
  The library Sort at []int; Sorted of Values, Equal.
-/
section
namespace Go.Proofs.YtpccfdnmnnnboaaGreat
open Go.Sl Go.Sort

theorem I64_map (l : List Int) : I64 l = l.map (Value.int .i64) := rfl
theorem sort_c (A : Option Addr) (l : List Int) (c : Nat) (hl : l.length ≤ 1000000) :
   Ctr X 101 [.slice A l.length c] [] [Own 3 1 A l.length c (I64 l)] (fun v R' H' => v = .tuple #[] ∧ R' = [] ∧ H' = [Own 3 1 A l.length c (I64 (l.mergeSort fun x y => decide (x ≤ y)))]) := by
 refine ⟨⟨⟨Tryz.f101, Tryz.func101, by kernel_rfl, by kernel_rfl⟩⟩, fun w hs => ?_⟩
 have ho := hs.own 0 _ rfl
 rcases ho.2 with ⟨hv, h0⟩ | ⟨g, cap, cur, hv, _, hh, h3, h4, h5, h6⟩
 · injection hv with h7 h8 h9
   obtain rfl : l = [] := List.length_eq_zero_iff.1 h0
   refine (Any.slices_Sort_int_none Tryz.laySort A c w).mono ?_
   rintro e w' ⟨rfl, rfl⟩
   rw [List.mergeSort_nil]
   exact ⟨_, _, _, ⟨rfl, rfl, rfl⟩, rfl, hs⟩
 · injection hv with h7 h8 h9
   subst h7 h9
   have hg := (Array.getElem?_eq_some_iff.1 hh).1
   rw [Nat.mul_one, I64_map] at h6
   refine (Any.slices_Sort_int Tryz.laySort g 0 c l w (holds_of_blockI hh h6) hg (by omega)).mono ?_
   rintro e w' ⟨rfl, q, os, rfl⟩
   have hml : (l.mergeSort fun x y => decide (x ≤ y)).length = l.length := List.length_mergeSort l
   have hst := Stp.grown (grownBy_sortedI (w := w) (g := g) (n := q) (os := os) (l.mergeSort fun x y => decide (x ≤ y)).toArray)
   have hn := ownsRow_sortedI (base := 0) (n := q) (os := os) hml (Nat.zero_le g) hh h3 h4 h5
   refine ⟨_, _, _, ⟨rfl, rfl, rfl⟩, rfl, hs.upd (j := 0) rfl hst (fun k hk _ => ⟨_, rfl, by injection hk⟩) (Own 3 1 (some ⟨g, 0, none⟩) l.length c (I64 (l.mergeSort fun x y => decide (x ≤ y)))) hn (fun k hk => ?_)⟩
   obtain ⟨a, ha, hk⟩ := hk
   injection ha with ha
   subst ha
   exact ⟨Nat.lt_of_lt_of_le (hk ▸ hg) hst.size, .inr ⟨_, rfl, hk⟩⟩
def StI (A2 : Option Addr) (s : List Int × Option Addr × Nat) : List Pr := [Own 34 1 A2 1 1 [.slice s.2.1 s.1.length s.2.2], Own 3 1 s.2.1 s.1.length s.2.2 (I64 s.1)]
def encI (x : Int) : List Value := [.int .i64 x]
def nxtI (s : List Int × Option Addr × Nat) (x : Int) (s2 : List Int × Option Addr × Nat) : Prop := s2.1 = s.1 ++ [x]
def goodI (s : List Int × Option Addr × Nat) (_x : Int) : Prop := s.1.length ≤ 1000000

set_option maxHeartbeats 1000000 in
theorem vals_c (b : Nat) (r : Loop) (PA : Option Addr) (SA : Option Addr) (l : List Int) (ca : Nat) (hll : l.length ≤ 1000000) (A2 : Option Addr) (hy : YieldOk X b r encI (StI A2) nxtI goodI) :
   Ctr X 102 [.func (.yield b) #[] #[], ptrOf PA 0] [Rd PA [.slice SA l.length ca], Rd SA (I64 l)] [LoopP b r, Own 34 1 A2 1 1 [.slice none ([] : List Int).length 0], Own 3 1 none ([] : List Int).length 0 (I64 ([] : List Int))] (fun _ R' H' => R' = [] ∧ ∃ (O : Option Addr) (c : Nat), H' = LoopP b r :: StI A2 (l, O, c)) := by
 refine Ctr.of (X := X) (fn := Tryz.f102) Tryz.func102 rfl (by kernel_rfl) rfl ?_
 intro β
 refine C.seq (C.region ?_); refine L.step (Ev.load rfl rfl rfl (Src.r 0 rfl) rfl) rfl ?_; refine Lpu rfl rfl ?_; refine Lpu rfl rfl ?_; refine L.nil (QE.seq (C.block ?_)); refine C.loop (fun q : Nat × Option Addr × Nat => [(0, .func (.yield b) #[] #[]), (5, .slice SA l.length ca), (6, .int .i64 (l.length : Int)), (7, .int .i64 (q.1 : Int))]) (fun q : Nat × Option Addr × Nat => [Rd PA [.slice SA l.length ca], Rd SA (I64 l)]) (fun q : Nat × Option Addr × Nat => [LoopP b r, Own 34 1 A2 1 1 [.slice q.2.1 (l.take q.1).length q.2.2], Own 3 1 q.2.1 (l.take q.1).length q.2.2 (I64 (l.take q.1))]) (fun q : Nat × Option Addr × Nat => q.1 ≤ l.length) (fun q : Nat × Option Addr × Nat => l.length - q.1) (0, none, 0) (Nat.zero_le _) (by exact Le.mk' (rs := [0, 1]) (hs := [0, 1, 2]) ⟨rfl, rfl, rfl, rfl, trivial⟩ ⟨rfl, rfl, trivial⟩ ⟨rfl, rfl, rfl, trivial⟩ (by decide)) ?_
 rintro ⟨k, O, c⟩ hk
 dsimp only at hk ⊢
 refine C.seq (C.region ?_); refine Lpu rfl rfl ?_; refine L.nil (QE.seq (C.seq ?_))
 refine C.condB 8 rfl (fun hc8 => ?_) (fun hc8 => ?_)
 ·
  replace hc8 := of_decide_eq_true hc8
  refine C.skip (QE.seq (C.seq (C.block (C.seq (C.region ?_))))); refine L.step (Ev.idx1 (k := k) rfl rfl rfl rfl rfl rfl rfl (by omega) (Src.r 1 rfl) (by rw [I64_len]; omega)) rfl ?_; refine L.step (Ev.load rfl rfl rfl (Src.r 1 rfl) (I64_get (by omega))) rfl ?_; refine Lpu rfl rfl ?_; refine L.nil (QE.seq (C.seq ?_)); refine C.regionY ?_; refine LY.step (Ev.pure rfl) rfl ?_; refine LY.step (Ev.pure rfl) rfl ?_; refine LY.yield (js := [0, 1, 2]) (js' := []) hy (l.take k, O, c) (l.getD k 0) (show (l.take k).length ≤ 1000000 by rw [List.length_take]; omega) rfl rfl rfl rfl (by decide) rfl ?_
  rintro ⟨s2, O2, c2⟩ hnx
  have hnx2 : s2 = l.take k ++ [l.getD k 0] := hnx
  rw [← take_snoc' l 0 k (by omega)] at hnx2
  subst hnx2
  refine LY.step (Ev.pure rfl) rfl ?_; refine LY.nil ?_; refine QE.seq ?_
  refine C.cond rfl (fun h => by cases h) (fun _ => ?_)
  refine C.skip ?_; refine QE.blkN ?_; refine QE.seq (C.region ?_); refine L.step (Ev.add rfl rfl (by omega) (by omega)) rfl ?_; refine Lpu rfl rfl ?_; refine L.nil ?_
  refine QE.round (i := (k, O, c)) ((k + 1, O2, c2)) (by dsimp only; omega) (by dsimp only; omega) (by exact Le.mk' (rs := [0, 1]) (hs := [0, 1, 2]) ⟨rfl, rfl, rfl, rfl, trivial⟩ ⟨rfl, rfl, trivial⟩ ⟨rfl, rfl, rfl, trivial⟩ (by decide))
 ·
  replace hc8 := of_decide_eq_false hc8
  refine C.exit ?_; refine QE.tX ?_; refine QE.tX ?_; refine QE.blk ?_; refine QE.retN ?_; refine QE.ret (js := []) (hs := [0, 1, 2]) (vs := []) rfl trivial (by decide) ?_
  obtain rfl : k = l.length := by omega
  rw [List.take_length]
  exact ⟨rfl, O, c, rfl⟩

theorem values_c (SA : Option Addr) (n ca : Nat) :
   Ctr X 61 [.slice SA n ca] [] [] (fun v R' H' => ∃ PA : Option Addr, v = .func (.func 102) #[] #[ptrOf PA 0] ∧ R' = [Rd PA [.slice SA n ca]] ∧ H' = []) := by
 refine Ctr.of (X := X) (fn := Tryz.f61) Tryz.func61 rfl (by kernel_rfl) rfl ?_
 intro β
 refine C.seq (C.region ?_)
 refine L.box rfl rfl rfl (fun A1 => ?_)
 refine Lpu rfl rfl ?_; refine L.nil (QE.seq (C.seq (C.region ?_))); refine Lpu rfl rfl ?_; refine Lpu rfl rfl ?_; refine L.nil (QE.seq (C.ret ?_)); refine QE.freeze 0 rfl [] (by decide) (by decide) ?_; refine QE.ret (js := [0]) (hs := []) (vs := [_]) rfl ⟨rfl, trivial⟩ (by decide) ?_
 exact ⟨A1, rfl, rfl, rfl⟩

set_option maxHeartbeats 1000000 in
theorem appSeq_c (PA : Option Addr) (SA : Option Addr) (ls : List Int) (ca : Nat) (hll : ls.length ≤ 1000000) :
   Ctr X 137 [.slice none 0 0, .func (.func 102) #[] #[ptrOf PA 0]] [Rd PA [.slice SA ls.length ca], Rd SA (I64 ls)] [] (fun v R' H' => ∃ (O : Option Addr) (c : Nat), v = .slice O ls.length c ∧ R' = [] ∧ H' = [Own 3 1 O ls.length c (I64 ls)]) := by
 refine Ctr.ofM (X := X) (fn := Tryz.f137) Tryz.func137 rfl (by kernel_rfl) rfl ?_
 intro β
 refine C.seq (C.region ?_)
 refine L.box rfl rfl rfl (fun A2 => ?_)
 refine Lpu rfl rfl ?_; refine L.nil (QE.seq (C.seq (C.seq ?_))); refine C.own0 3 1 ?_; refine C.region ?_; refine Lpu rfl rfl ?_; refine L.nil (QE.seq (C.block ?_))
 refine C.rangeF (Rf := [Rd PA [.slice SA ls.length ca], Rd SA (I64 ls)]) (js := [0, 1]) (js' := []) (He := fun i : Option Addr × Nat => StI A2 (ls, i.1, i.2)) rfl rfl rfl (by decide) (Hq [0, 1] rfl) (fun l d fn tmps hfr => ?_) (fun d i => ?_)
 ·
  refine (vals_c l _ PA SA ls ca hll A2 ?_).mono ?_
  ·
   intro β2 w2 s x hg hs2
   obtain ⟨xs, O, c⟩ := s
   have hrl : xs.length ≤ 1000000 := hg
   refine round_ok (He := StI A2) (good := nxtI (xs, O, c) x) hfr (by decide) rfl rfl rfl rfl rfl rfl rfl hs2 ?_; refine Lpu rfl rfl ?_; refine L.nil ?_
   refine fun a1 w1 hf1 hs1 => ⟨rfl, _, _, hf1, hs1, ?_⟩
   refine L.step (Ev.load rfl rfl rfl (Src.o 1 rfl) rfl) rfl ?_; refine Lpu rfl rfl ?_
   refine L.lit rfl rfl rfl rfl rfl (by rfl) (by rfl) (by rfl) rfl rfl (fun A10 => ?_)
   refine L.append (j := 2) rfl rfl rfl rfl (by decide) rfl rfl rfl rfl (Src.o 3 rfl) rfl (allOne rfl) (by show xs.length + 1 ≤ _; omega) (by show (xs.length + 1) * 8 ≤ _; omega) rfl (fun A11 c11 => ?_)
   refine L.store (j := 1) rfl rfl rfl rfl rfl rfl rfl rfl ?_; refine L.nil ?_
   refine fun a2 w3 hf2 hs3 => ⟨rfl, (xs ++ [x], A11, c11), rfl, ?_⟩
   have h3 := hs3.sel (js := [0, 1, 2]) (by decide)
   have e1 : (xs ++ [x]).length = xs.length + 1 := by simp
   unfold StI
   dsimp only
   rw [e1, ← I64_app]
   exact h3
  · rintro v R' H' ⟨rfl, O, c, rfl⟩
    exact ⟨rfl, (O, c), rfl⟩
 ·
  obtain ⟨O, c⟩ := i
  dsimp only [StI]
  refine QE.blkN ?_; refine QE.seq (C.seq (C.region ?_)); refine L.step (Ev.load rfl rfl rfl (Src.o 1 rfl) rfl) rfl ?_; refine Lpu rfl rfl ?_; refine L.nil (QE.seq (C.ret ?_)); refine QE.retM (j := 0) (js := []) (hs := [2]) (vs := [_]) rfl rfl ⟨rfl, trivial⟩ (by decide) ?_
  exact ⟨O, c, rfl, rfl, rfl⟩

theorem collect_c (PA : Option Addr) (SA : Option Addr) (l : List Int) (ca : Nat) (hll : l.length ≤ 1000000) :
   Ctr X 100 [.func (.func 102) #[] #[ptrOf PA 0]] [Rd PA [.slice SA l.length ca], Rd SA (I64 l)] [] (fun v R' H' => ∃ (O : Option Addr) (c : Nat), v = .slice O l.length c ∧ R' = [] ∧ H' = [Own 3 1 O l.length c (I64 l)]) := by
 refine Ctr.of (X := X) (fn := Tryz.f100) Tryz.func100 rfl (by kernel_rfl) rfl ?_
 intro β
 refine C.seq (C.region ?_); refine Lpu rfl rfl ?_; refine L.nil (QE.seq (C.seq (C.region ?_))); refine Lpu rfl rfl ?_; refine L.call (js := []) (js' := []) (appSeq_c PA SA l ca hll) rfl rfl rfl (by decide) (Hq [0, 1] rfl) rfl ?_
 rintro _ _ _ ⟨O, c, rfl, rfl, rfl⟩
 refine Lpu rfl rfl ?_; refine L.nil (QE.seq (C.ret ?_)); refine QE.ret (js := []) (hs := [0]) (vs := [_]) rfl ⟨rfl, trivial⟩ (by decide) ?_
 exact ⟨O, c, rfl, rfl, rfl⟩

theorem sorted_c (PA : Option Addr) (SA : Option Addr) (l : List Int) (ca : Nat) (hll : l.length ≤ 1000000) :
   Ctr X 60 [.func (.func 102) #[] #[ptrOf PA 0]] [Rd PA [.slice SA l.length ca], Rd SA (I64 l)] [] (fun v R' H' => ∃ (O : Option Addr) (c : Nat), v = .slice O l.length c ∧ R' = [] ∧ H' = [Own 3 1 O l.length c (I64 (srtI l))]) := by
 refine Ctr.of (X := X) (fn := Tryz.f60) Tryz.func60 rfl (by kernel_rfl) rfl ?_
 intro β
 refine C.seq (C.region ?_); refine Lpu rfl rfl ?_; refine L.nil (QE.seq (C.seq (C.region ?_))); refine Lpu rfl rfl ?_; refine L.call (js := []) (js' := []) (collect_c PA SA l ca hll) rfl rfl rfl (by decide) (Hq [0, 1] rfl) rfl ?_
 rintro _ _ _ ⟨O, c, rfl, rfl, rfl⟩
 refine Lpu rfl rfl ?_; refine L.nil (QE.seq (C.seq (C.region ?_))); refine Lpu rfl rfl ?_; refine L.call (js := [0]) (js' := []) (sort_c O l c hll) rfl rfl rfl (by decide) trivial rfl ?_
 rintro _ _ _ ⟨rfl, rfl, rfl⟩
 refine L.nil (QE.seq (C.seq (C.region ?_))); refine Lpu rfl rfl ?_; refine Lpu rfl rfl ?_; refine L.nil (QE.seq (C.ret ?_)); refine QE.ret (js := []) (hs := [0]) (vs := [_]) rfl ⟨rfl, trivial⟩ (by decide) ?_
 exact ⟨O, c, rfl, rfl, rfl⟩

theorem equal_c (A : Option Addr) (a : List Int) (c : Nat) (B : Option Addr) (b : List Int) (d : Nat) (m k : Nat) (hm : a.length = m) (hk0 : b.length = k) (ha : a.length ≤ 9223372036854775807) (_hb : b.length ≤ 9223372036854775807) :
   Ctr X 59 [.slice A m c, .slice B k d] [Rd A (I64 a), Rd B (I64 b)] [] (fun v R' H' => v = .bool (decide (a = b)) ∧ R' = [] ∧ H' = []) := by
 refine Ctr.of (X := X) (fn := Tryz.f59) Tryz.func59 rfl (by kernel_rfl) rfl ?_
 intro β
 subst hm hk0
 refine C.seq (C.region ?_); refine Lpu rfl rfl ?_; refine L.nil (QE.seq (C.seq (C.seq (C.region ?_)))); refine Lpu rfl rfl ?_; refine Lpu rfl rfl ?_; refine Lpu rfl rfl ?_; refine Lpu rfl rfl ?_; refine Lpu rfl rfl ?_; refine L.nil (QE.seq ?_)
 refine C.condB 10 rfl (fun hc10 => ?_) (fun hc10 => ?_)
 ·
  replace hc10 := b_ne hc10
  refine C.seq (C.region ?_); refine Lpu rfl rfl ?_; refine L.nil (QE.seq (C.ret (QE.tR ?_))); refine QE.ret (js := []) (hs := []) (vs := [_]) rfl ⟨rfl, trivial⟩ (by decide) ?_
  exact ⟨congrArg Value.bool ((decide_eq_false (fun e => hc10 (by rw [e]))).symm), rfl, rfl⟩
 ·
  replace hc10 := b_eq hc10
  refine C.skip (QE.seq (C.seq (C.seq (C.region ?_)))); refine Lpu rfl rfl ?_; refine Lpu rfl rfl ?_; refine Lpu rfl rfl ?_; refine L.nil (QE.seq (C.block ?_)); refine C.loop (fun k : Nat => [(0, .slice A a.length c), (1, .slice B b.length d), (12, .int .i64 (a.length : Int)), (13, .int .i64 (k : Int))]) (fun k : Nat => [Rd A (I64 a), Rd B (I64 b)]) (fun k : Nat => []) (fun k : Nat => k ≤ a.length ∧ ∀ i, i < k → a.getD i 0 = b.getD i 0) (fun k : Nat => a.length - k) 0 ⟨Nat.zero_le _, all_zero⟩ (by exact Le.mk' (rs := [0, 1]) (hs := []) ⟨rfl, rfl, rfl, rfl, trivial⟩ ⟨rfl, rfl, trivial⟩ trivial (by decide)) ?_
  rintro k ⟨hk, heq⟩
  refine C.seq (C.region ?_); refine Lpu rfl rfl ?_; refine L.nil (QE.seq (C.seq ?_))
  refine C.condB 14 rfl (fun hc14 => ?_) (fun hc14 => ?_)
  ·
   replace hc14 := of_decide_eq_true hc14
   refine C.skip (QE.seq (C.seq (C.block (C.seq (C.region ?_))))); refine Lpu rfl rfl ?_; refine Lpu rfl rfl ?_; refine L.nil (QE.seq (C.seq ?_)); refine C.regionQ (by kernel_rfl) ?_; refine LQ.step (Ev.pure rfl) rfl ?_; refine LQ.step (Ev.pure rfl) rfl ?_; refine LQ.step (Ev.idx1 (k := k) rfl rfl rfl rfl rfl rfl rfl (by omega) (Src.r 0 rfl) (by rw [I64_len]; omega)) rfl ?_; refine LQ.step (Ev.load rfl rfl rfl (Src.r 0 rfl) (I64_get (by omega))) rfl ?_; refine LQ.step (Ev.pure rfl) rfl ?_; refine LQ.step (Ev.pure rfl) rfl ?_; refine LQ.step (Ev.idx1 (k := k) rfl rfl rfl rfl rfl rfl rfl (by omega) (Src.r 1 rfl) (by rw [I64_len]; omega)) rfl ?_; refine LQ.step (Ev.load rfl rfl rfl (Src.r 1 rfl) (I64_get (by omega))) rfl ?_; refine LQ.step (Ev.pure rfl) rfl ?_; refine LQ.nil ?_; refine QE.seq ?_
   refine C.condB 24 rfl (fun hc24 => ?_) (fun hc24 => ?_)
   ·
    replace hc24 := b_ne hc24
    refine C.seq (C.region ?_); refine Lpu rfl rfl ?_; refine L.nil (QE.seq (C.ret (QE.bR (QE.tR (QE.tR (QE.bR (QE.tR ?_))))))); refine QE.ret (js := []) (hs := []) (vs := [_]) rfl ⟨rfl, trivial⟩ (by decide) ?_
    exact ⟨congrArg Value.bool ((decide_eq_false (fun e => hc24 (by rw [e]))).symm), rfl, rfl⟩
   ·
    replace hc24 := b_eq hc24
    refine C.skip ?_; refine QE.blkN ?_; refine QE.seq (C.region ?_); refine L.step (Ev.add rfl rfl (by omega) (by omega)) rfl ?_; refine Lpu rfl rfl ?_; refine L.nil ?_
    refine QE.round (k + 1) (by exact ⟨by omega, all_step heq hc24⟩) (by omega) (by exact Le.mk' (rs := [0, 1]) (hs := []) ⟨rfl, rfl, rfl, rfl, trivial⟩ ⟨rfl, rfl, trivial⟩ trivial (by decide))
  ·
   replace hc14 := of_decide_eq_false hc14
   refine C.exit ?_; refine QE.tX ?_; refine QE.tX ?_; refine QE.blk ?_; refine QE.seq (C.seq (C.region ?_)); refine Lpu rfl rfl ?_; refine L.nil (QE.seq (C.ret ?_)); refine QE.ret (js := []) (hs := []) (vs := [_]) rfl ⟨rfl, trivial⟩ (by decide) ?_
   exact ⟨congrArg Value.bool ((decide_eq_true (ext_getD (d := 0) (by omega) (fun i hi => heq i (by omega)))).symm), rfl, rfl⟩

end Go.Proofs.YtpccfdnmnnnboaaGreat
end
