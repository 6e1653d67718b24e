/-
  BinarySearch, Insert at the end, Whole.
-/
import Derived.Test.YtdkilfnbilohmaaVWOrG
namespace Go.Proofs.Ytdkilfnbilohmaa
open Go.Sl

theorem Ev.toU64 {β : Base} {Γ : Env} {R H : List Pr} {s d m : Nat} {x : Operand} {k : IntKind} {i j : Ti} (hs : tlook s X.tab = some i) (hd : tlook d X.tab = some j) (hj : j.desc = .int .u64) (hx : ev Γ x = some (.int k (m : Int))) (hm : m < 18446744073709551616) :
   Ev X β Γ R H (.convert s d x) (.int .u64 (m : Int)) :=
 (Ev.pure (v := .int .u64 (IntKind.u64.wrap (m : Int))) (by simp [pev, hs, hd, hj, hx])).cast (by rw [wrap_u64 hm])
theorem bsearch_c (A : Option Addr) (x : List Int) (c : Nat) (t : Int) (hl : x.length ≤ 1000000) (hs : ∀ i j, i < j → j < x.length → x.getD i 0 < x.getD j 0) :
   Ctr X 17 [.slice A x.length c, .int .i64 t] [Rd A (I64 x)] [] (fun v R' H' => ∃ k : Nat, v = .tuple #[.int .i64 (k : Int), .bool (x.contains t)] ∧ R' = [] ∧ H' = [] ∧ k ≤ x.length ∧ (∀ q, q < k → x.getD q 0 < t) ∧ (∀ q, k ≤ q → q < x.length → t ≤ x.getD q 0)) := by
 refine Ctr.of (X := X) (fn := Try.f17) Try.func17 rfl (by kernel_rfl) rfl ?_
 intro β
 refine C.seq (C.region ?_); refine Lpu rfl rfl ?_; refine Lpu rfl rfl ?_; refine L.nil (QE.seq (C.seq (C.region ?_))); refine Lpu rfl rfl ?_; refine Lpu rfl rfl ?_; refine Lpu rfl rfl ?_; refine L.nil (QE.seq (C.seq (C.region ?_))); refine Lpu rfl rfl ?_; refine Lpu rfl rfl ?_; refine Lpu rfl rfl ?_; refine L.nil (QE.seq (C.seq (C.block ?_))); refine C.loop (fun q : Nat × Nat => [(0, .slice A x.length c), (1, .int .i64 t), (6, .int .i64 (x.length : Int)), (7, .int .i64 (q.1 : Int)), (8, .int .i64 (q.2 : Int))]) (fun q : Nat × Nat => [Rd A (I64 x)]) (fun q : Nat × Nat => []) (fun q : Nat × Nat => q.1 ≤ q.2 ∧ q.2 ≤ x.length ∧ (∀ a, a < q.1 → x.getD a 0 < t) ∧ (∀ a, q.2 ≤ a → a < x.length → t ≤ x.getD a 0)) (fun q : Nat × Nat => q.2 - q.1) (0, x.length) ⟨Nat.zero_le _, Nat.le_refl _, all_zero, fun a h1 h2 => absurd h1 (by dsimp only; omega)⟩ (by exact Le.mk' (rs := [0]) (hs := []) ⟨rfl, rfl, rfl, rfl, rfl, trivial⟩ ⟨rfl, trivial⟩ trivial (by decide)) ?_
 rintro ⟨i, j⟩ ⟨hij, hjl, h1, h2⟩
 dsimp only at hij hjl h1 h2 ⊢
 refine C.seq (C.seq (C.region ?_)); refine Lpu rfl rfl ?_; refine Lpu rfl rfl ?_; refine Lpu rfl rfl ?_; refine L.nil (QE.seq ?_)
 refine C.condB 15 rfl (fun hc15 => ?_) (fun hc15 => ?_)
 ·
  replace hc15 := of_decide_eq_true hc15
  refine C.skip (QE.seq (C.block (C.seq ?_)))
  have hsh : (i + j) >>> 1 = (i + j) / 2 := by rw [Nat.shiftRight_eq_div_pow]
  have hhj : (i + j) >>> 1 < x.length := by omega
  refine C.region ?_; refine Lpu rfl rfl ?_; refine Lpu rfl rfl ?_; refine L.step (Ev.cast (u := .int .i64 ((i + j : Nat) : Int)) (Ev.add rfl rfl (by omega) (by omega)) (congrArg (Value.int .i64) (by omega))) rfl ?_; refine L.step (Ev.toU64 (m := i + j) rfl rfl rfl rfl (by omega)) rfl ?_; refine L.step (Ev.shrU (k := 1) rfl rfl (by decide)) rfl ?_; refine L.step (Ev.toInt rfl rfl rfl rfl (by omega) (by omega)) rfl ?_; refine Lpu rfl rfl ?_; refine L.nil (QE.seq (C.seq (C.region ?_))); refine Lpu rfl rfl ?_; refine Lpu rfl rfl ?_; refine L.step (Ev.idx1 (k := ((i + j) >>> 1)) rfl rfl rfl rfl rfl rfl rfl hhj (Src.r 0 rfl) (by rw [I64_len]; omega)) rfl ?_; refine L.step (Ev.load rfl rfl rfl (Src.r 0 rfl) (I64_get hhj)) rfl ?_; refine Lpu rfl rfl ?_; refine L.call (js := []) (js' := []) (less_c _ _) rfl rfl rfl (by decide) trivial rfl ?_
  rintro _ _ _ ⟨rfl, rfl, rfl⟩
  refine L.nil (QE.seq ?_)
  refine C.condB 27 rfl (fun hc27 => ?_) (fun hc27 => ?_)
  ·
   have hlt : x.getD ((i + j) >>> 1) 0 < t := of_decide_eq_true hc27
   refine C.region ?_; refine Lpu rfl rfl ?_; refine L.step (Ev.add rfl rfl (by omega) (by omega)) rfl ?_; refine Lpu rfl rfl ?_; refine L.nil ?_; refine QE.blkN ?_
   refine QE.round (i := (i, j)) (((i + j) >>> 1 + 1, j)) (by exact ⟨by dsimp only; omega, hjl, fun a ha => by
     rcases Nat.lt_or_ge a ((i + j) >>> 1) with h | h
     · have := hs a _ h hhj
       omega
     · obtain rfl : a = (i + j) >>> 1 := by dsimp only at ha; omega
       exact hlt, h2⟩) (by dsimp only; omega) (by exact Le.mk' (rs := [0]) (hs := []) ⟨rfl, rfl, rfl, rfl, rfl, trivial⟩ ⟨rfl, trivial⟩ trivial (by decide))
  ·
   have hge : ¬x.getD ((i + j) >>> 1) 0 < t := of_decide_eq_false hc27
   refine C.region ?_; refine Lpu rfl rfl ?_; refine Lpu rfl rfl ?_; refine L.nil ?_; refine QE.blkN ?_
   refine QE.round (i := (i, j)) ((i, (i + j) >>> 1)) (by exact ⟨by dsimp only; omega, by dsimp only; omega, h1, fun a ha hal => by
     rcases Nat.eq_or_lt_of_le ha with h | h
     · dsimp only at h; rw [← h]; omega
     · have := hs _ a h hal
       dsimp only at this; omega⟩) (by dsimp only; omega) (by exact Le.mk' (rs := [0]) (hs := []) ⟨rfl, rfl, rfl, rfl, rfl, trivial⟩ ⟨rfl, trivial⟩ trivial (by decide))
 ·
  replace hc15 := of_decide_eq_false hc15
  refine C.exit ?_; refine QE.tX ?_; refine QE.tX ?_; refine QE.blk ?_; refine QE.seq (C.seq (C.region ?_)); refine Lpu rfl rfl ?_; refine Lpu rfl rfl ?_; refine Lpu rfl rfl ?_; refine Lpu rfl rfl ?_; refine Lpu rfl rfl ?_
  refine L.bool 35 rfl (fun hg35 => ?_) (fun hg35 => ?_)
  ·
   replace hg35 := of_decide_eq_true hg35
   refine L.yes rfl ?_; refine Lpu rfl rfl ?_; refine L.yes rfl ?_; refine Lpu rfl rfl ?_; refine L.yes rfl ?_; refine L.step (Ev.idx1 (k := i) rfl rfl rfl rfl rfl rfl rfl (by omega) (Src.r 0 rfl) (by rw [I64_len]; omega)) rfl ?_; refine L.yes rfl ?_; refine L.step (Ev.load rfl rfl rfl (Src.r 0 rfl) (I64_get (by omega))) rfl ?_; refine L.yes rfl ?_; refine Lpu rfl rfl ?_; refine L.yes rfl ?_; refine Lpu rfl rfl ?_; refine L.yes rfl ?_; refine Lpu rfl rfl ?_
   refine L.bool 42 rfl (fun hg42 => ?_) (fun hg42 => ?_)
   ·
    replace hg42 := i_eq hg42
    have hx : x.contains t = true := has_yes (by omega) hg42
    refine L.no rfl rfl rfl ?_; refine L.no rfl rfl rfl ?_; refine L.no rfl rfl rfl ?_; refine L.no rfl rfl rfl ?_; refine L.no rfl rfl rfl ?_; refine L.no rfl rfl rfl ?_; refine L.no rfl rfl rfl ?_; refine L.no rfl rfl rfl ?_; refine L.no rfl rfl rfl ?_; refine L.yes rfl ?_; refine Lpu rfl rfl ?_; refine Lpu rfl rfl ?_; refine Lpu rfl rfl ?_; refine Lpu rfl rfl ?_; refine L.nil (QE.seq (C.ret ?_)); refine QE.ret (js := []) (hs := []) (vs := [_, _]) rfl ⟨rfl, rfl, trivial⟩ (by decide) ?_
    exact ⟨i, by rw [hx]; rfl, rfl, rfl, by omega, h1, fun q hq hq2 => h2 q (by omega) hq2⟩
   ·
    replace hg42 := i_ne hg42
    have hx : x.contains t = false := has_no (fun q hq e => by
      rcases Nat.lt_trichotomy q i with h | h | h
      · have := h1 q h; omega
      · subst h; exact hg42 e
      · have a1 := hs i q h hq
        have a2 := h2 i (by omega) (by omega)
        omega)
    refine L.yes rfl ?_; refine Lpu rfl rfl ?_; refine L.yes rfl ?_; refine Lpu rfl rfl ?_; refine L.yes rfl ?_; refine L.step (Ev.idx1 (k := i) rfl rfl rfl rfl rfl rfl rfl (by omega) (Src.r 0 rfl) (by rw [I64_len]; omega)) rfl ?_; refine L.yes rfl ?_; refine L.step (Ev.load rfl rfl rfl (Src.r 0 rfl) (I64_get (by omega))) rfl ?_; refine L.yes rfl ?_; refine L.call (js := []) (js' := []) (nan2_c _) rfl rfl rfl (by decide) trivial rfl ?_
    rintro _ _ _ ⟨rfl, rfl, rfl⟩
    refine L.yes rfl ?_; refine Lpu rfl rfl ?_; refine L.no rfl rfl rfl ?_; refine L.no rfl rfl rfl ?_; refine L.yes rfl ?_; refine Lpu rfl rfl ?_; refine L.yes rfl ?_; refine Lpu rfl rfl ?_; refine Lpu rfl rfl ?_; refine Lpu rfl rfl ?_; refine Lpu rfl rfl ?_; refine L.nil (QE.seq (C.ret ?_)); refine QE.ret (js := []) (hs := []) (vs := [_, _]) rfl ⟨rfl, rfl, trivial⟩ (by decide) ?_
    exact ⟨i, by rw [hx]; rfl, rfl, rfl, by omega, h1, fun q hq hq2 => h2 q (by omega) hq2⟩
  ·
   replace hg35 := of_decide_eq_false hg35
   have hx : x.contains t = false := has_no (fun q hq => by have := h1 q (by omega); omega)
   refine L.no rfl rfl rfl ?_; refine L.no rfl rfl rfl ?_; refine L.no rfl rfl rfl ?_; refine L.no rfl rfl rfl ?_; refine L.no rfl rfl rfl ?_; refine L.no rfl rfl rfl ?_; refine L.no rfl rfl rfl ?_; refine L.no rfl rfl rfl ?_; refine L.no rfl rfl rfl ?_; refine L.no rfl rfl rfl ?_; refine L.no rfl rfl rfl ?_; refine L.no rfl rfl rfl ?_; refine L.no rfl rfl rfl ?_; refine L.no rfl rfl rfl ?_; refine L.no rfl rfl rfl ?_; refine L.no rfl rfl rfl ?_; refine L.no rfl rfl rfl ?_; refine Lpu rfl rfl ?_; refine Lpu rfl rfl ?_; refine Lpu rfl rfl ?_; refine L.nil (QE.seq (C.ret ?_)); refine QE.ret (js := []) (hs := []) (vs := [_, _]) rfl ⟨rfl, rfl, trivial⟩ (by decide) ?_
   exact ⟨i, by rw [hx]; rfl, rfl, rfl, by omega, h1, fun q hq hq2 => h2 q (by omega) hq2⟩

theorem insertE_c (A : Option Addr) (x : List Int) (c : Nat) (t : Int) (V : Option Addr) (vc : Nat) (hl : x.length ≤ 1000000) :
   Ctr X 18 [.slice A x.length c, .int .i64 (x.length : Int), .slice V 1 vc] [Rd V [.int .i64 t]] [Own 3 1 A x.length c (I64 x)] (fun v R' H' => ∃ (A' : Option Addr) (c' : Nat), v = .slice A' (x.length + 1) c' ∧ R' = [] ∧ H' = [Own 3 1 A' (x.length + 1) c' (I64 (x ++ [t]))]) := by
 refine Ctr.of (X := X) (fn := Try.f18) Try.func18 rfl (by kernel_rfl) rfl ?_
 intro β
 refine C.seq (C.region ?_); refine Lpu rfl rfl ?_; refine L.nil (QE.seq (C.seq (C.region ?_))); refine Lpu rfl rfl ?_; refine Lpu rfl rfl ?_; refine L.step (Ev.sliceL (l := x.length) rfl rfl rfl rfl rfl rfl (by omega)) rfl ?_; refine L.nil (QE.seq (C.seq (C.region ?_))); refine Lpu rfl rfl ?_; refine Lpu rfl rfl ?_; refine Lpu rfl rfl ?_; refine L.nil (QE.seq (C.seq (C.seq (C.region ?_)))); refine Lpu rfl rfl ?_; refine Lpu rfl rfl ?_; refine L.nil (QE.seq ?_)
 refine C.condB 16 rfl (fun hc16 => ?_) (fun hc16 => ?_)
 ·
  replace hc16 := i_eq hc16
  omega
 ·
  replace hc16 := i_ne hc16
  refine C.skip (QE.seq (C.seq (C.region ?_))); refine Lpu rfl rfl ?_; refine Lpu rfl rfl ?_; refine Lpu rfl rfl ?_; refine L.nil (QE.seq (C.seq (C.seq (C.region ?_)))); refine Lpu rfl rfl ?_; refine Lpu rfl rfl ?_; refine Lpu rfl rfl ?_; refine L.nil (QE.seq ?_)
  refine C.condB 22 rfl (fun hc22 => ?_) (fun hc22 => ?_)
  ·
   replace hc22 := i_eq hc22
   refine C.seq (C.region ?_); refine Lpu rfl rfl ?_; refine Lpu rfl rfl ?_
   refine L.append (j := 0) rfl rfl rfl rfl (by decide) rfl rfl rfl rfl (Src.r 0 rfl) rfl (allOne rfl) (by omega) (by show _ * 8 ≤ _; omega) rfl (fun A25 cc25 => ?_)
   refine Lpu rfl rfl ?_; refine L.nil (QE.seq (C.ret (QE.tR ?_))); refine QE.ret (js := []) (hs := [0]) (vs := [_]) rfl ⟨rfl, trivial⟩ (by decide) ?_
   refine ⟨A25, cc25, rfl, rfl, ?_⟩
   rw [← I64_app]
   rfl
  ·
   replace hc22 := i_ne hc22
   exact (hc22 rfl).elim

theorem whole_c (n : Nat) (hn0 : 1 ≤ n) :
   Ctr X 13 [.int .i64 (n : Int)] [] [] (fun v R' H' => ∃ (A : Option Addr) (c : Nat), v = .agg (List.toArray [.bool false, .int .i64 (n : Int), .int .i64 (n : Int), .slice A 1 c]) ∧ R' = [Rd A (opsV [⟨1, 0, (n : Int), 0⟩])] ∧ H' = []) := by
 refine Ctr.of (X := X) (fn := Try.f13) Try.func13 rfl (by kernel_rfl) rfl ?_
 intro β
 refine C.seq (C.region ?_)
 refine L.alloc rfl rfl rfl (fun A2 => ?_)
 refine L.nil (QE.seq (C.seq (C.region ?_))); refine Lpu rfl rfl ?_; refine Lpu rfl rfl ?_; refine L.step (Ev.build rfl rfl rfl rfl rfl rfl rfl) rfl ?_
 refine L.alloc rfl rfl rfl (fun A3 => ?_)
 refine L.storeA (j := 1) rfl rfl rfl rfl rfl (Nat.zero_lt_succ _) rfl rfl ?_; refine L.nil (QE.seq (C.seq (C.seq (C.region ?_)))); refine Lpu rfl rfl ?_; refine Lpu rfl rfl ?_; refine L.nil (QE.seq ?_)
 refine C.condB 8 rfl (fun hc8 => ?_) (fun hc8 => ?_)
 ·
  replace hc8 := of_decide_eq_true hc8
  refine C.region ?_; refine Lpu rfl rfl ?_; refine L.step (Ev.build rfl rfl rfl rfl rfl rfl rfl) rfl ?_
  refine L.lit1S (cs := [.int .i64 1, .int .i64 0, .int .i64 (n : Int), .int .u8 0, .slice none 0 0]) rfl rfl rfl rfl (Nat.zero_lt_succ _) rfl rfl rfl (fun A11 => ?_)
  refine L.step (Ev.fieldAddr rfl rfl rfl rfl rfl rfl (Src.o 1 rfl) (Nat.zero_lt_succ _) rfl) rfl ?_; refine L.store (j := 1) rfl rfl rfl rfl rfl rfl rfl rfl ?_; refine L.nil (QE.seq (C.seq (C.region ?_))); refine L.step (Ev.loadA rfl rfl rfl (Src.o 1 rfl) rfl rfl (by decide)) rfl ?_; refine L.storeA (j := 0) rfl rfl rfl rfl rfl (Nat.zero_lt_succ _) rfl rfl ?_; refine L.nil (QE.seq (C.ret ?_)); refine QE.freeze 2 rfl [0, 1] (by decide) (by decide) ?_; refine QE.ret (js := [0]) (hs := []) (vs := [_]) rfl ⟨⟨_, _, 0, _, rfl, rfl, Src.o 0 rfl, .inl ⟨rfl, by decide, _, rfl, rfl, rfl⟩⟩, trivial⟩ (by decide) ?_
  exact ⟨A11, 1, rfl, rfl, rfl⟩
 ·
  replace hc8 := of_decide_eq_false hc8
  omega

end Go.Proofs.Ytdkilfnbilohmaa
