/-
  The contracts of the reference functions In and Blank.
-/
import Derived.Test.YtmbjknampholjaaESlT
import Derived.Test.YtmbjknampholjaaEPl
section
namespace Go.Proofs.Ytmbjknampholjaa
open Go.Sl

theorem repl_step (x y : UInt8) (k n : Nat) (h : k < n) : (List.replicate k x ++ List.replicate (n - k) y).set k x = List.replicate (k + 1) x ++ List.replicate (n - (k + 1)) y := by
 obtain ⟨m, rfl⟩ : ∃ m, n = k + 1 + m := ⟨n - (k + 1), by omega⟩
 rw [show k + 1 + m - k = m + 1 from by omega, show k + 1 + m - (k + 1) = m from by omega, List.set_append_right _ _ (by simp), List.replicate_succ (n := m)]
 simp [List.replicate_succ']

theorem in_c (a lo hi : Int) :
   Ctr X 60 [.int .i64 a, .int .i64 lo, .int .i64 hi] [] [] (fun v R' H' => v = .bool (decide (lo ≤ a) && decide (a ≤ hi)) ∧ R' = [] ∧ H' = []) := by
 refine Ctr.of (X := X) (fn := Try.f60) Try.func60 rfl (by kernel_rfl) rfl ?_
 intro β
 refine C.seq (C.region ?_); refine Lpu rfl rfl ?_; refine L.nil (QE.seq (C.seq (C.region ?_))); refine Lpu rfl rfl ?_; refine Lpu rfl rfl ?_; refine Lpu rfl rfl ?_; refine Lpu rfl rfl ?_
 refine L.bool 10 rfl (fun hg10 => ?_) (fun hg10 => ?_)
 ·
  replace hg10 := of_decide_eq_true hg10
  refine L.yes rfl ?_; refine Lpu rfl rfl ?_; refine L.yes rfl ?_; refine Lpu rfl rfl ?_; refine L.yes rfl ?_; refine Lpu rfl rfl ?_; refine Lpu rfl rfl ?_; refine Lpu rfl rfl ?_; refine L.nil (QE.seq (C.ret ?_)); refine QE.ret (js := []) (hs := []) (vs := [_]) rfl ⟨rfl, trivial⟩ (by decide) ?_
  refine ⟨?_, rfl, rfl⟩
  simp [tup, hg10]
  try omega
 ·
  replace hg10 := of_decide_eq_false hg10
  refine L.no rfl rfl rfl ?_; refine L.no rfl rfl rfl ?_; refine L.no rfl rfl rfl ?_; refine Lpu rfl rfl ?_; refine Lpu rfl rfl ?_; refine L.nil (QE.seq (C.ret ?_)); refine QE.ret (js := []) (hs := []) (vs := [_]) rfl ⟨rfl, trivial⟩ (by decide) ?_
  refine ⟨?_, rfl, rfl⟩
  simp [tup, hg10]
  try omega

theorem blank_c (n : Nat) (hn : n ≤ 1000000) :
   Ctr X 26 [.int .i64 (n : Int)] [] [] (fun v R' H' => ∃ A, v = .slice A n n ∧ R' = [] ∧ H' = [Own 5 1 A n n (U8 (List.replicate n 255))]) := by
 refine Ctr.of (X := X) (fn := Try.f26) Try.func26 rfl (by kernel_rfl) rfl ?_
 intro β
 refine C.seq (C.region ?_); refine Lpu rfl rfl ?_; refine L.nil (QE.seq (C.seq (C.region ?_))); refine Lpu rfl rfl ?_
 refine L.make rfl rfl rfl rfl rfl rfl rfl rfl rfl (by show 1 * _ ≤ _; omega) (by omega) rfl (fun A6 => ?_)
 refine Lpu rfl rfl ?_; refine L.nil (QE.seq (C.seq (C.seq (C.region ?_)))); refine Lpu rfl rfl ?_; refine L.nil (QE.seq (C.block ?_)); refine C.loop (fun k : Nat => [(0, .int .i64 (n : Int)), (3, .slice A6 n n), (4, .int .i64 (k : Int))]) (fun k : Nat => []) (fun k : Nat => [Own 5 1 A6 n n (U8 (List.replicate k 255 ++ List.replicate (n - k) 0))]) (fun k : Nat => k ≤ n) (fun k : Nat => n - k) 0 (by omega) (by exact Le.mk' (rs := []) (hs := [0]) ⟨rfl, rfl, rfl, trivial⟩ trivial ⟨(by simp [U8, ti5]), trivial⟩ (by decide)) ?_
 intro k hk
 refine C.seq (C.seq (C.region ?_)); refine Lpu rfl rfl ?_; refine Lpu rfl rfl ?_; refine Lpu rfl rfl ?_; refine L.nil (QE.seq ?_)
 refine C.condB 9 rfl (fun hc9 => ?_) (fun hc9 => ?_)
 ·
  replace hc9 := of_decide_eq_true hc9
  refine C.skip (QE.seq (C.seq (C.block (C.region ?_)))); refine Lpu rfl rfl ?_; refine Lpu rfl rfl ?_; refine L.step (Ev.idx1 (k := k) rfl rfl rfl rfl rfl rfl rfl (by omega) (Src.o 0 rfl) (by rw [U8_len]; simp; omega)) rfl ?_; refine L.store (j := 0) (v := .int .u8 ((255 : UInt8).toNat : Int)) rfl rfl rfl rfl rfl rfl rfl (U8_get (by simp; omega)) ?_; refine L.nil ?_; refine QE.blkN ?_; refine QE.seq (C.region ?_); refine Lpu rfl rfl ?_; refine L.step (Ev.add rfl rfl (by omega) (by omega)) rfl ?_; refine Lpu rfl rfl ?_; refine L.nil ?_
  refine QE.round (k + 1) (by omega) (by omega) (by exact Le.mk' (rs := []) (hs := [0]) ⟨rfl, rfl, rfl, trivial⟩ trivial ⟨(by simp only [List.set_cons_zero, List.getElem?_cons_zero]; rw [U8_set]; congr 3; exact repl_step _ _ k n (by omega)), trivial⟩ (by decide))
 ·
  replace hc9 := of_decide_eq_false hc9
  refine C.exit ?_; refine QE.tX ?_; refine QE.tX ?_; refine QE.blk ?_; refine QE.seq (C.seq (C.region ?_)); refine Lpu rfl rfl ?_; refine Lpu rfl rfl ?_; refine L.nil (QE.seq (C.ret ?_)); refine QE.ret (js := []) (hs := [0]) (vs := [_]) rfl ⟨rfl, trivial⟩ (by decide) ?_
  obtain rfl : k = n := by omega
  refine ⟨A6, rfl, rfl, ?_⟩
  simp [sel]

end Go.Proofs.Ytmbjknampholjaa
end
/-
  The contract of the reference function New.
-/
section
namespace Go.Proofs.Ytmbjknampholjaa
open Go.Sl

def flO (f : Fl) (a : Fa) : List Pr := [Own 45 1 a.D f.data.length a.cD (rowsV a.hs (B8 f.data)), OwnKids 5 a.hs (B8 f.data), Own 3 1 a.W f.wear.length a.cW (I64 f.wear), Own 4 1 a.E f.dead.length a.cE (Bs f.dead)]
def flR (f : Fl) (a : Fa) : List Pr := [Rd a.D (rowsV a.hs (B8 f.data)), KidsR a.hs (B8 f.data), Rd a.W (I64 f.wear), Rd a.E (Bs f.dead)]
def fl0 (s m : Nat) (l : Int) : Fl := ⟨s, List.replicate m (List.replicate s 255), List.replicate m 0, l, List.replicate m false⟩

theorem in_yes (a lo hi : Int) (h1 : lo ≤ a) (h2 : a ≤ hi) : Ctr X 60 [.int .i64 a, .int .i64 lo, .int .i64 hi] [] [] (fun v R' H' => v = .bool true ∧ R' = [] ∧ H' = []) :=
 (in_c a lo hi).mono fun v R' H' h => ⟨by rw [h.1]; simp [h1, h2], h.2⟩

theorem new17_c (s m : Nat) (l : Int) (hs1 : 1 ≤ s) (hs2 : s ≤ 4096) (hm1 : 1 ≤ m) (hm2 : m ≤ 64) (hl1 : 1 ≤ l) (hl2 : l ≤ 100000) :
   Ctr X 33 [.int .i64 (s : Int), .int .i64 (m : Int), .int .i64 l] [] [] (fun v R' H' => ∃ a : Fa, v = .tuple #[flV (fl0 s m l) a, .int .i64 0] ∧ R' = [] ∧ H' = flO (fl0 s m l) a ∧ a.hs.length = m) := by
 refine Ctr.of (X := X) (fn := Try.f33) Try.func33 rfl (by kernel_rfl) rfl ?_
 intro β
 refine C.seq (C.region ?_)
 refine L.alloc rfl rfl rfl (fun A6 => ?_)
 refine Lpu rfl rfl ?_; refine L.nil (QE.seq (C.seq (C.seq (C.region ?_)))); refine Lpu rfl rfl ?_; refine L.call (js := []) (js' := [0]) (in_yes _ _ _ (by omega) (by omega)) rfl rfl rfl (by decide) trivial rfl ?_
 rintro _ _ _ ⟨rfl, rfl, rfl⟩
 refine Lpu rfl rfl ?_; refine Lpu rfl rfl ?_; refine L.yes rfl ?_; refine Lpu rfl rfl ?_; refine L.yes rfl ?_; refine L.call (js := []) (js' := [0]) (in_yes _ _ _ (by omega) (by omega)) rfl rfl rfl (by decide) trivial rfl ?_
 rintro _ _ _ ⟨rfl, rfl, rfl⟩
 refine L.yes rfl ?_; refine Lpu rfl rfl ?_; refine Lpu rfl rfl ?_; refine Lpu rfl rfl ?_; refine L.yes rfl ?_; refine Lpu rfl rfl ?_; refine L.yes rfl ?_; refine L.call (js := []) (js' := [0]) (in_yes _ _ _ (by omega) (by omega)) rfl rfl rfl (by decide) trivial rfl ?_
 rintro _ _ _ ⟨rfl, rfl, rfl⟩
 refine L.yes rfl ?_; refine Lpu rfl rfl ?_; refine Lpu rfl rfl ?_; refine L.nil (QE.seq ?_)
 refine C.cond rfl (fun h => by cases h) (fun _ => ?_)
 refine C.skip (QE.seq (C.seq ?_)); refine C.join (fun q : Option Addr × Option Addr × Option Addr => [(0, .int .i64 (s : Int)), (1, .int .i64 (m : Int)), (6, ptrOf A6 0), (8, ptrOf q.1 0)]) (fun q : Option Addr × Option Addr × Option Addr => []) (fun q : Option Addr × Option Addr × Option Addr => [Own 35 5 A6 1 1 [.int .i64 0, .slice none 0 0, .slice none 0 0, .int .i64 0, .slice none 0 0], Own 35 5 q.1 1 1 [.int .i64 (s : Int), .slice none 0 0, .slice q.2.1 m m, .int .i64 l, .slice q.2.2 m m], Own 3 1 q.2.1 m m (List.replicate m (.int .i64 0)), Own 4 1 q.2.2 m m (List.replicate m (.bool false))]) (fun q : Option Addr × Option Addr × Option Addr => True) ?_ ?_
 ·
  refine C.regionM [] trivial ?_; refine LM.q 0 rfl (by kernel_rfl) (Ev.pure rfl) rfl trivial ?_; refine LM.q 1 rfl (by kernel_rfl) (Ev.pure rfl) rfl trivial ?_; refine LM.q 2 rfl (by kernel_rfl) (Ev.pure rfl) rfl trivial ?_; refine LM.q 4 rfl (by kernel_rfl) (Ev.pure rfl) rfl trivial ?_
  refine LM.alt [3, 5, 7] (by kernel_rfl) (by decide) trivial ⟨⟨_, rfl, ?_⟩, ⟨_, rfl, ?_⟩, ⟨_, rfl, ?_⟩, trivial⟩
  ·
   refine L.make rfl rfl rfl rfl rfl rfl rfl rfl rfl (by show 8 * _ ≤ _; omega) (by omega) rfl (fun A27 => ?_)
   refine L.nil (QE.m (by kernel_rfl) ?_)
   refine LM.alt [5, 7] (by kernel_rfl) (by decide) trivial ⟨⟨_, rfl, ?_⟩, ⟨_, rfl, ?_⟩, trivial⟩
   ·
    refine L.make rfl rfl rfl rfl rfl rfl rfl rfl rfl (by show 1 * _ ≤ _; omega) (by omega) rfl (fun A29 => ?_)
    refine L.nil (QE.m (by kernel_rfl) ?_)
    refine LM.q 6 rfl (by kernel_rfl) (Ev.build rfl rfl rfl rfl rfl rfl rfl) rfl trivial ?_; refine LM.f 7 rfl (by kernel_rfl) trivial ?_
    refine L.alloc rfl rfl rfl (fun A8 => ?_)
    refine L.nil (QE.m (by kernel_rfl) ?_)
    refine LM.f 8 rfl (by kernel_rfl) trivial ?_; refine L.storeA (j := 3) rfl rfl rfl rfl rfl (Nat.zero_lt_succ _) rfl rfl ?_
    refine L.nil (QE.m (by kernel_rfl) ?_)
    refine LM.nil (by kernel_rfl) trivial ?_
    refine QE.joined ((A8, A27, A29)) (by exact trivial) (by exact Le.mk' (rs := []) (hs := [0, 3, 1, 2]) ⟨rfl, rfl, rfl, rfl, trivial⟩ trivial ⟨rfl, rfl, rfl, rfl, trivial⟩ (by decide))
   ·
    refine L.alloc rfl rfl rfl (fun A8 => ?_)
    refine L.nil (QE.m (by kernel_rfl) ?_)
    refine LM.f 5 rfl (by kernel_rfl) trivial ?_
    refine L.make rfl rfl rfl rfl rfl rfl rfl rfl rfl (by show 1 * _ ≤ _; omega) (by omega) rfl (fun A29 => ?_)
    refine L.nil (QE.m (by kernel_rfl) ?_)
    refine LM.f 6 rfl (by kernel_rfl) trivial ?_; refine L.step (Ev.build rfl rfl rfl rfl rfl rfl rfl) rfl ?_
    refine L.nil (QE.m (by kernel_rfl) ?_)
    refine LM.f 8 rfl (by kernel_rfl) trivial ?_; refine L.storeA (j := 2) rfl rfl rfl rfl rfl (Nat.zero_lt_succ _) rfl rfl ?_
    refine L.nil (QE.m (by kernel_rfl) ?_)
    refine LM.nil (by kernel_rfl) trivial ?_
    refine QE.joined ((A8, A27, A29)) (by exact trivial) (by exact Le.mk' (rs := []) (hs := [0, 2, 1, 3]) ⟨rfl, rfl, rfl, rfl, trivial⟩ trivial ⟨rfl, rfl, rfl, rfl, trivial⟩ (by decide))
  ·
   refine L.make rfl rfl rfl rfl rfl rfl rfl rfl rfl (by show 1 * _ ≤ _; omega) (by omega) rfl (fun A29 => ?_)
   refine L.nil (QE.m (by kernel_rfl) ?_)
   refine LM.alt [3, 7] (by kernel_rfl) (by decide) trivial ⟨⟨_, rfl, ?_⟩, ⟨_, rfl, ?_⟩, trivial⟩
   ·
    refine L.make rfl rfl rfl rfl rfl rfl rfl rfl rfl (by show 8 * _ ≤ _; omega) (by omega) rfl (fun A27 => ?_)
    refine L.nil (QE.m (by kernel_rfl) ?_)
    refine LM.q 6 rfl (by kernel_rfl) (Ev.build rfl rfl rfl rfl rfl rfl rfl) rfl trivial ?_; refine LM.f 7 rfl (by kernel_rfl) trivial ?_
    refine L.alloc rfl rfl rfl (fun A8 => ?_)
    refine L.nil (QE.m (by kernel_rfl) ?_)
    refine LM.f 8 rfl (by kernel_rfl) trivial ?_; refine L.storeA (j := 3) rfl rfl rfl rfl rfl (Nat.zero_lt_succ _) rfl rfl ?_
    refine L.nil (QE.m (by kernel_rfl) ?_)
    refine LM.nil (by kernel_rfl) trivial ?_
    refine QE.joined ((A8, A27, A29)) (by exact trivial) (by exact Le.mk' (rs := []) (hs := [0, 3, 2, 1]) ⟨rfl, rfl, rfl, rfl, trivial⟩ trivial ⟨rfl, rfl, rfl, rfl, trivial⟩ (by decide))
   ·
    refine L.alloc rfl rfl rfl (fun A8 => ?_)
    refine L.nil (QE.m (by kernel_rfl) ?_)
    refine LM.f 3 rfl (by kernel_rfl) trivial ?_
    refine L.make rfl rfl rfl rfl rfl rfl rfl rfl rfl (by show 8 * _ ≤ _; omega) (by omega) rfl (fun A27 => ?_)
    refine L.nil (QE.m (by kernel_rfl) ?_)
    refine LM.f 6 rfl (by kernel_rfl) trivial ?_; refine L.step (Ev.build rfl rfl rfl rfl rfl rfl rfl) rfl ?_
    refine L.nil (QE.m (by kernel_rfl) ?_)
    refine LM.f 8 rfl (by kernel_rfl) trivial ?_; refine L.storeA (j := 2) rfl rfl rfl rfl rfl (Nat.zero_lt_succ _) rfl rfl ?_
    refine L.nil (QE.m (by kernel_rfl) ?_)
    refine LM.nil (by kernel_rfl) trivial ?_
    refine QE.joined ((A8, A27, A29)) (by exact trivial) (by exact Le.mk' (rs := []) (hs := [0, 2, 3, 1]) ⟨rfl, rfl, rfl, rfl, trivial⟩ trivial ⟨rfl, rfl, rfl, rfl, trivial⟩ (by decide))
  ·
   refine L.alloc rfl rfl rfl (fun A8 => ?_)
   refine L.nil (QE.m (by kernel_rfl) ?_)
   refine LM.alt [3, 5] (by kernel_rfl) (by decide) trivial ⟨⟨_, rfl, ?_⟩, ⟨_, rfl, ?_⟩, trivial⟩
   ·
    refine L.make rfl rfl rfl rfl rfl rfl rfl rfl rfl (by show 8 * _ ≤ _; omega) (by omega) rfl (fun A27 => ?_)
    refine L.nil (QE.m (by kernel_rfl) ?_)
    refine LM.f 5 rfl (by kernel_rfl) trivial ?_
    refine L.make rfl rfl rfl rfl rfl rfl rfl rfl rfl (by show 1 * _ ≤ _; omega) (by omega) rfl (fun A29 => ?_)
    refine L.nil (QE.m (by kernel_rfl) ?_)
    refine LM.f 6 rfl (by kernel_rfl) trivial ?_; refine L.step (Ev.build rfl rfl rfl rfl rfl rfl rfl) rfl ?_
    refine L.nil (QE.m (by kernel_rfl) ?_)
    refine LM.f 8 rfl (by kernel_rfl) trivial ?_; refine L.storeA (j := 1) rfl rfl rfl rfl rfl (Nat.zero_lt_succ _) rfl rfl ?_
    refine L.nil (QE.m (by kernel_rfl) ?_)
    refine LM.nil (by kernel_rfl) trivial ?_
    refine QE.joined ((A8, A27, A29)) (by exact trivial) (by exact Le.mk' (rs := []) (hs := [0, 1, 2, 3]) ⟨rfl, rfl, rfl, rfl, trivial⟩ trivial ⟨rfl, rfl, rfl, rfl, trivial⟩ (by decide))
   ·
    refine L.make rfl rfl rfl rfl rfl rfl rfl rfl rfl (by show 1 * _ ≤ _; omega) (by omega) rfl (fun A29 => ?_)
    refine L.nil (QE.m (by kernel_rfl) ?_)
    refine LM.f 3 rfl (by kernel_rfl) trivial ?_
    refine L.make rfl rfl rfl rfl rfl rfl rfl rfl rfl (by show 8 * _ ≤ _; omega) (by omega) rfl (fun A27 => ?_)
    refine L.nil (QE.m (by kernel_rfl) ?_)
    refine LM.f 6 rfl (by kernel_rfl) trivial ?_; refine L.step (Ev.build rfl rfl rfl rfl rfl rfl rfl) rfl ?_
    refine L.nil (QE.m (by kernel_rfl) ?_)
    refine LM.f 8 rfl (by kernel_rfl) trivial ?_; refine L.storeA (j := 1) rfl rfl rfl rfl rfl (Nat.zero_lt_succ _) rfl rfl ?_
    refine L.nil (QE.m (by kernel_rfl) ?_)
    refine LM.nil (by kernel_rfl) trivial ?_
    refine QE.joined ((A8, A27, A29)) (by exact trivial) (by exact Le.mk' (rs := []) (hs := [0, 1, 3, 2]) ⟨rfl, rfl, rfl, rfl, trivial⟩ trivial ⟨rfl, rfl, rfl, rfl, trivial⟩ (by decide))
 ·
  rintro ⟨A8, A27, A29⟩ _
  dsimp only
  refine QE.seq (C.seq (C.seq (C.region ?_))); refine Lpu rfl rfl ?_; refine L.nil (QE.seq (C.block ?_)); refine C.nil_own 45 1 ?_; refine C.kids0 5 ?_; refine C.loop (fun q : Nat × Option Addr × Nat × List Hd => [(0, .int .i64 (s : Int)), (1, .int .i64 (m : Int)), (6, ptrOf A6 0), (8, ptrOf A8 0), (9, .int .i64 (q.1 : Int))]) (fun q : Nat × Option Addr × Nat × List Hd => []) (fun q : Nat × Option Addr × Nat × List Hd => [Own 35 5 A6 1 1 [.int .i64 0, .slice none 0 0, .slice none 0 0, .int .i64 0, .slice none 0 0], Own 35 5 A8 1 1 [.int .i64 (s : Int), .slice q.2.1 q.1 q.2.2.1, .slice A27 m m, .int .i64 l, .slice A29 m m], Own 3 1 A27 m m (List.replicate m (.int .i64 0)), Own 4 1 A29 m m (List.replicate m (.bool false)), Own 45 1 q.2.1 q.1 q.2.2.1 (rowsV q.2.2.2 (B8 (List.replicate q.1 (List.replicate s 255)))), OwnKids 5 q.2.2.2 (B8 (List.replicate q.1 (List.replicate s 255)))]) (fun q : Nat × Option Addr × Nat × List Hd => q.1 ≤ m ∧ q.2.2.2.length = q.1) (fun q : Nat × Option Addr × Nat × List Hd => m - q.1) (0, none, 0, []) ⟨by simp, rfl⟩ (by exact Le.mk' (rs := []) (hs := [0, 1, 2, 3, 4, 5]) ⟨rfl, rfl, rfl, rfl, rfl, trivial⟩ trivial ⟨rfl, rfl, rfl, rfl, rfl, rfl, trivial⟩ (by decide)) ?_
  rintro ⟨k, D, cD, hs⟩ ⟨hk, hh⟩
  dsimp only at hk hh ⊢
  refine C.seq (C.seq (C.region ?_)); refine Lpu rfl rfl ?_; refine Lpu rfl rfl ?_; refine Lpu rfl rfl ?_; refine L.nil (QE.seq ?_)
  refine C.condB 33 rfl (fun hc33 => ?_) (fun hc33 => ?_)
  ·
   replace hc33 := of_decide_eq_true hc33
   refine C.skip (QE.seq (C.seq (C.block ?_))); refine C.regionM [Rd A8 [.int .i64 (s : Int), .slice D k cD, .slice A27 m m, .int .i64 l, .slice A29 m m]] ⟨Has.o 1 rfl, trivial⟩ ?_; refine LM.q 0 rfl (by kernel_rfl) (Ev.fieldAddr rfl rfl rfl rfl rfl rfl (Src.r 0 rfl) (Nat.zero_lt_succ _) rfl) rfl ⟨Has.o 1 rfl, trivial⟩ ?_; refine LM.q 1 rfl (by kernel_rfl) (Ev.load rfl rfl rfl (Src.r 0 rfl) rfl) rfl ⟨Has.o 1 rfl, trivial⟩ ?_; refine LM.f 2 rfl (by kernel_rfl) ⟨Has.o 1 rfl, trivial⟩ ?_; refine Lpu rfl rfl ?_
   refine L.nil (QE.m (by kernel_rfl) ?_)
   refine LM.f 3 rfl (by kernel_rfl) ⟨Has.o 1 rfl, trivial⟩ ?_; refine L.call (js := []) (js' := [0, 1, 2, 3, 4, 5]) (blank_c s (by omega)) rfl rfl rfl (by decide) trivial rfl ?_
   rintro _ _ _ ⟨A39, rfl, rfl, rfl⟩
   refine L.nil (QE.m (by kernel_rfl) ?_)
   refine LM.f 4 rfl (by kernel_rfl) ⟨Has.o 2 rfl, trivial⟩ ?_
   refine L.lit rfl rfl rfl rfl rfl (by rfl) (by rfl) (by rfl) rfl rfl (fun A40 => ?_)
   refine L.nil (QE.m (by kernel_rfl) ?_)
   refine LM.cut [] (by kernel_rfl) ⟨Has.o 2 rfl, trivial⟩ ?_; refine LM.f 5 rfl (by kernel_rfl) trivial ?_
   refine L.append (j := 5) rfl rfl rfl rfl (by decide) rfl rfl rfl rfl (Src.o 7 rfl) rfl (by intro v hv; simp at hv; subst hv; rfl) (by omega) (by show _ * 24 ≤ _; omega) rfl (fun A41 cc41 => ?_)
   refine L.nil (QE.m (by kernel_rfl) ?_)
   refine LM.f 6 rfl (by kernel_rfl) trivial ?_; refine L.step (Ev.fieldAddr rfl rfl rfl rfl rfl rfl (Src.o 2 rfl) (Nat.zero_lt_succ _) rfl) rfl ?_
   refine L.nil (QE.m (by kernel_rfl) ?_)
   refine LM.f 7 rfl (by kernel_rfl) trivial ?_; refine L.store (j := 2) rfl rfl rfl rfl rfl rfl rfl rfl ?_
   refine L.nil (QE.m (by kernel_rfl) ?_)
   refine LM.nil (by kernel_rfl) trivial ?_; refine QE.blkN ?_; refine QE.seq (C.region ?_); refine Lpu rfl rfl ?_; refine L.step (Ev.add rfl rfl (by omega) (by omega)) rfl ?_; refine Lpu rfl rfl ?_; refine L.nil ?_; refine QE.absorb 6 0 rfl rfl [1, 2, 3, 4, 5, 7] (by decide) ?_
   refine QE.round (i := (k, D, cD, hs)) ((k + 1, A41, cc41, hs ++ [(A39, s)])) (by exact ⟨by dsimp only; omega, by simp [hh]⟩) (by dsimp only; omega) (by exact Le.mk' (rs := []) (hs := [1, 2, 3, 4, 5, 0]) ⟨rfl, rfl, rfl, rfl, rfl, trivial⟩ trivial ⟨rfl, rfl, rfl, rfl, (congrArg some (own_eq rfl (by rw [List.replicate_succ', ← rows8_app (by simp [hh])]; simp))), (congrArg some (by rw [List.replicate_succ', ← B8_snoc])), trivial⟩ (by decide))
  ·
   replace hc33 := of_decide_eq_false hc33
   refine C.exit ?_; refine QE.tX ?_; refine QE.tX ?_; refine QE.blk ?_; refine QE.seq (C.seq (C.region ?_)); refine L.step (Ev.loadA rfl rfl rfl (Src.o 1 rfl) rfl rfl (by decide)) rfl ?_; refine L.storeA (j := 0) rfl rfl rfl rfl rfl (Nat.zero_lt_succ _) rfl rfl ?_; refine Lpu rfl rfl ?_; refine L.nil (QE.seq (C.ret ?_)); refine QE.ret (js := []) (hs := [4, 5, 2, 3]) (vs := [_, _]) rfl ⟨⟨_, _, 0, _, rfl, rfl, Src.o 0 rfl, .inl ⟨rfl, by decide, _, rfl, rfl, rfl⟩⟩, rfl, trivial⟩ (by decide) ?_
   obtain rfl : m = k := by omega
   refine ⟨⟨D, cD, hs, A27, m, A29, m⟩, ?_, rfl, ?_, hh⟩
   · show Value.tuple #[.agg (List.toArray [.int .i64 (s : Int), .slice D m cD, .slice A27 m m, .int .i64 l, .slice A29 m m]), .int .i64 0] = _
     simp [flV, flL, fl0]
   · simp [sel, flO, fl0, I64_rep, Bs_rep]
     done

end Go.Proofs.Ytmbjknampholjaa
end
