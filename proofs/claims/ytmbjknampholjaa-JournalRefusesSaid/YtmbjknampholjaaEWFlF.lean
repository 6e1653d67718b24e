/-
  The contracts of the reference functions Copied, Asked, Cut, Do.
-/
import Derived.Test.YtmbjknampholjaaEWBase
namespace Go.Proofs.Ytmbjknampholjaa
open Go.Sl

theorem copied_c (f : Fl) (a : Fa) (ok : f.Ok) (hh : a.hs.length = f.data.length) :
   Ctr X 34 [.agg (List.toArray [.int .i64 (f.size : Int), .slice a.D f.data.length a.cD, .slice a.W f.wear.length a.cW, .int .i64 f.limit, .slice a.E f.dead.length a.cE])] [Rd a.D (rowsV a.hs (B8 f.data)), KidsR a.hs (B8 f.data), Rd a.W (I64 f.wear), Rd a.E (Bs f.dead)] [] (fun v R' H' => ∃ b : Fa, v = flV f b ∧ R' = [] ∧ H' = flO f b ∧ b.hs.length = f.data.length) := by
 obtain ⟨os1, os2, on1, on2, owl, odl, orows, ol1, ol2, owear⟩ := ok
 refine Ctr.of (X := X) (fn := Try.f34) Try.func34 rfl (by kernel_rfl) rfl ?_
 intro β
 refine C.seq (C.region ?_)
 refine L.boxA rfl rfl (fun A1 => ?_)
 refine L.alloc rfl rfl rfl (fun A2 => ?_)
 refine L.nil (QE.seq (C.seq ?_)); refine C.freeze 0 rfl [1] (by decide) (by decide) ?_; refine C.join (fun q : Option Addr × Option Addr × Nat × Option Addr × Nat => [(0, .agg (List.toArray [.int .i64 (f.size : Int), .slice a.D f.data.length a.cD, .slice a.W f.wear.length a.cW, .int .i64 f.limit, .slice a.E f.dead.length a.cE])), (1, ptrOf A1 0), (2, ptrOf A2 0), (3, ptrOf q.1 0)]) (fun q : Option Addr × Option Addr × Nat × Option Addr × Nat => [Rd A1 [.int .i64 (f.size : Int), .slice a.D f.data.length a.cD, .slice a.W f.wear.length a.cW, .int .i64 f.limit, .slice a.E f.dead.length a.cE], Rd a.D (rowsV a.hs (B8 f.data)), KidsR a.hs (B8 f.data), Rd a.W (I64 f.wear), Rd a.E (Bs f.dead)]) (fun q : Option Addr × Option Addr × Nat × Option Addr × Nat => [Own 35 5 A2 1 1 [.int .i64 0, .slice none 0 0, .slice none 0 0, .int .i64 0, .slice none 0 0], Own 35 5 q.1 1 1 [.int .i64 (f.size : Int), .slice none 0 0, .slice q.2.1 f.wear.length q.2.2.1, .int .i64 f.limit, .slice q.2.2.2.1 f.dead.length q.2.2.2.2], Own 3 1 q.2.1 f.wear.length q.2.2.1 (I64 f.wear), Own 4 1 q.2.2.2.1 f.dead.length q.2.2.2.2 (Bs f.dead)]) (fun q : Option Addr × Option Addr × Nat × Option Addr × Nat => True) ?_ ?_
 ·
  refine C.regionM [Rd A1 [.int .i64 (f.size : Int), .slice a.D f.data.length a.cD, .slice a.W f.wear.length a.cW, .int .i64 f.limit, .slice a.E f.dead.length a.cE], Rd a.D (rowsV a.hs (B8 f.data)), KidsR a.hs (B8 f.data), Rd a.W (I64 f.wear), Rd a.E (Bs f.dead)] (Hq [0, 1, 2, 3, 4] rfl) ?_; refine LM.q 0 rfl (by kernel_rfl) (Ev.fieldAddr rfl rfl rfl rfl rfl rfl (Src.r 0 rfl) (Nat.zero_lt_succ _) rfl) rfl (Hq [0, 1, 2, 3, 4] rfl) ?_; refine LM.q 1 rfl (by kernel_rfl) (Ev.load rfl rfl rfl (Src.r 0 rfl) rfl) rfl (Hq [0, 1, 2, 3, 4] rfl) ?_; refine LM.q 2 rfl (by kernel_rfl) (Ev.fieldAddr rfl rfl rfl rfl rfl rfl (Src.r 0 rfl) (Nat.zero_lt_succ _) rfl) rfl (Hq [0, 1, 2, 3, 4] rfl) ?_; refine LM.q 3 rfl (by kernel_rfl) (Ev.load rfl rfl rfl (Src.r 0 rfl) rfl) rfl (Hq [0, 1, 2, 3, 4] rfl) ?_; refine LM.q 5 rfl (by kernel_rfl) (Ev.fieldAddr rfl rfl rfl rfl rfl rfl (Src.r 0 rfl) (Nat.zero_lt_succ _) rfl) rfl (Hq [0, 1, 2, 3, 4] rfl) ?_; refine LM.q 6 rfl (by kernel_rfl) (Ev.load rfl rfl rfl (Src.r 0 rfl) rfl) rfl (Hq [0, 1, 2, 3, 4] rfl) ?_; refine LM.q 9 rfl (by kernel_rfl) (Ev.fieldAddr rfl rfl rfl rfl rfl rfl (Src.r 0 rfl) (Nat.zero_lt_succ _) rfl) rfl (Hq [0, 1, 2, 3, 4] rfl) ?_; refine LM.q 10 rfl (by kernel_rfl) (Ev.load rfl rfl rfl (Src.r 0 rfl) rfl) rfl (Hq [0, 1, 2, 3, 4] rfl) ?_
  refine LM.alt [4, 8, 13] (by kernel_rfl) (by decide) (Hq [0, 1, 2, 3, 4] rfl) ⟨⟨_, rfl, ?_⟩, ⟨_, rfl, ?_⟩, ⟨_, rfl, ?_⟩, trivial⟩
  ·
   refine L.lit rfl rfl rfl rfl rfl (by rfl) (by rfl) (by rfl) rfl rfl (fun A9 => ?_)
   refine L.nil (QE.m (by kernel_rfl) ?_)
   refine LM.alt [7, 8, 13] (by kernel_rfl) (by decide) (Hq [0, 1, 2, 3, 4] rfl) ⟨⟨_, rfl, ?_⟩, ⟨_, rfl, ?_⟩, ⟨_, rfl, ?_⟩, trivial⟩
   ·
    refine L.append (j := 1) rfl rfl rfl rfl (by decide) rfl rfl rfl rfl (Src.r 3 rfl) (by rw [I64_len]; exact (Nat.mul_one _).symm) (I64_one _) (by omega) (by show _ * 8 ≤ _; omega) rfl (fun A12 cc12 => ?_)
    refine L.nil (QE.m (by kernel_rfl) ?_)
    refine LM.alt [8, 13] (by kernel_rfl) (by decide) (Hq [0, 1, 2, 3, 4] rfl) ⟨⟨_, rfl, ?_⟩, ⟨_, rfl, ?_⟩, trivial⟩
    ·
     refine L.lit rfl rfl rfl rfl rfl (by rfl) (by rfl) (by rfl) rfl rfl (fun A13 => ?_)
     refine L.nil (QE.m (by kernel_rfl) ?_)
     refine LM.alt [11, 13] (by kernel_rfl) (by decide) (Hq [0, 1, 2, 3, 4] rfl) ⟨⟨_, rfl, ?_⟩, ⟨_, rfl, ?_⟩, trivial⟩
     ·
      refine L.append (j := 2) rfl rfl rfl rfl (by decide) rfl rfl rfl rfl (Src.r 4 rfl) (by rw [Bs_len]; exact (Nat.mul_one _).symm) (Bs_one _) (by omega) (by show _ * 1 ≤ _; omega) rfl (fun A16 cc16 => ?_)
      refine L.nil (QE.m (by kernel_rfl) ?_)
      refine LM.q 12 rfl (by kernel_rfl) (Ev.build rfl rfl rfl rfl rfl rfl rfl) rfl (Hq [0, 1, 2, 3, 4] rfl) ?_; refine LM.f 13 rfl (by kernel_rfl) (Hq [0, 1, 2, 3, 4] rfl) ?_
      refine L.alloc rfl rfl rfl (fun A3 => ?_)
      refine L.nil (QE.m (by kernel_rfl) ?_)
      refine LM.cut [] (by kernel_rfl) (Hq [0, 1, 2, 3, 4] rfl) ?_; refine LM.f 14 rfl (by kernel_rfl) trivial ?_; refine L.storeA (j := 3) rfl rfl rfl rfl rfl (Nat.zero_lt_succ _) rfl rfl ?_
      refine L.nil (QE.m (by kernel_rfl) ?_)
      refine LM.nil (by kernel_rfl) trivial ?_
      refine QE.joined ((A3, A12, cc12, A16, cc16)) (by exact trivial) (by exact Le.mk' (rs := [0, 1, 2, 3, 4]) (hs := [0, 3, 1, 2]) ⟨rfl, rfl, rfl, rfl, trivial⟩ ⟨rfl, rfl, rfl, rfl, rfl, trivial⟩ ⟨rfl, (by simp only [Nat.zero_add]; rfl), (by simp only [Nat.zero_add]; rfl), (by simp only [Nat.zero_add]; rfl), trivial⟩ (by decide))
     ·
      refine L.alloc rfl rfl rfl (fun A3 => ?_)
      refine L.nil (QE.m (by kernel_rfl) ?_)
      refine LM.f 11 rfl (by kernel_rfl) (Hq [0, 1, 2, 3, 4] rfl) ?_
      refine L.append (j := 2) rfl rfl rfl rfl (by decide) rfl rfl rfl rfl (Src.r 4 rfl) (by rw [Bs_len]; exact (Nat.mul_one _).symm) (Bs_one _) (by omega) (by show _ * 1 ≤ _; omega) rfl (fun A16 cc16 => ?_)
      refine L.nil (QE.m (by kernel_rfl) ?_)
      refine LM.f 12 rfl (by kernel_rfl) (Hq [0, 1, 2, 3, 4] rfl) ?_; refine L.step (Ev.build rfl rfl rfl rfl rfl rfl rfl) rfl ?_
      refine L.nil (QE.m (by kernel_rfl) ?_)
      refine LM.cut [] (by kernel_rfl) (Hq [0, 1, 2, 3, 4] rfl) ?_; refine LM.f 14 rfl (by kernel_rfl) trivial ?_; refine L.storeA (j := 3) rfl rfl rfl rfl rfl (Nat.zero_lt_succ _) rfl rfl ?_
      refine L.nil (QE.m (by kernel_rfl) ?_)
      refine LM.nil (by kernel_rfl) trivial ?_
      refine QE.joined ((A3, A12, cc12, A16, cc16)) (by exact trivial) (by exact Le.mk' (rs := [0, 1, 2, 3, 4]) (hs := [0, 3, 1, 2]) ⟨rfl, rfl, rfl, rfl, trivial⟩ ⟨rfl, rfl, rfl, rfl, rfl, trivial⟩ ⟨rfl, (by simp only [Nat.zero_add]; rfl), (by simp only [Nat.zero_add]; rfl), (by simp only [Nat.zero_add]; rfl), trivial⟩ (by decide))
    ·
     refine L.alloc rfl rfl rfl (fun A3 => ?_)
     refine L.nil (QE.m (by kernel_rfl) ?_)
     refine LM.f 8 rfl (by kernel_rfl) (Hq [0, 1, 2, 3, 4] rfl) ?_
     refine L.lit rfl rfl rfl rfl rfl (by rfl) (by rfl) (by rfl) rfl rfl (fun A13 => ?_)
     refine L.nil (QE.m (by kernel_rfl) ?_)
     refine LM.f 11 rfl (by kernel_rfl) (Hq [0, 1, 2, 3, 4] rfl) ?_
     refine L.append (j := 3) rfl rfl rfl rfl (by decide) rfl rfl rfl rfl (Src.r 4 rfl) (by rw [Bs_len]; exact (Nat.mul_one _).symm) (Bs_one _) (by omega) (by show _ * 1 ≤ _; omega) rfl (fun A16 cc16 => ?_)
     refine L.nil (QE.m (by kernel_rfl) ?_)
     refine LM.f 12 rfl (by kernel_rfl) (Hq [0, 1, 2, 3, 4] rfl) ?_; refine L.step (Ev.build rfl rfl rfl rfl rfl rfl rfl) rfl ?_
     refine L.nil (QE.m (by kernel_rfl) ?_)
     refine LM.cut [] (by kernel_rfl) (Hq [0, 1, 2, 3, 4] rfl) ?_; refine LM.f 14 rfl (by kernel_rfl) trivial ?_; refine L.storeA (j := 2) rfl rfl rfl rfl rfl (Nat.zero_lt_succ _) rfl rfl ?_
     refine L.nil (QE.m (by kernel_rfl) ?_)
     refine LM.nil (by kernel_rfl) trivial ?_
     refine QE.joined ((A3, A12, cc12, A16, cc16)) (by exact trivial) (by exact Le.mk' (rs := [0, 1, 2, 3, 4]) (hs := [0, 2, 1, 3]) ⟨rfl, rfl, rfl, rfl, trivial⟩ ⟨rfl, rfl, rfl, rfl, rfl, trivial⟩ ⟨rfl, (by simp only [Nat.zero_add]; rfl), (by simp only [Nat.zero_add]; rfl), (by simp only [Nat.zero_add]; rfl), trivial⟩ (by decide))
   ·
    refine L.lit rfl rfl rfl rfl rfl (by rfl) (by rfl) (by rfl) rfl rfl (fun A13 => ?_)
    refine L.nil (QE.m (by kernel_rfl) ?_)
    refine LM.alt [7, 13] (by kernel_rfl) (by decide) (Hq [0, 1, 2, 3, 4] rfl) ⟨⟨_, rfl, ?_⟩, ⟨_, rfl, ?_⟩, trivial⟩
    ·
     refine L.append (j := 1) rfl rfl rfl rfl (by decide) rfl rfl rfl rfl (Src.r 3 rfl) (by rw [I64_len]; exact (Nat.mul_one _).symm) (I64_one _) (by omega) (by show _ * 8 ≤ _; omega) rfl (fun A12 cc12 => ?_)
     refine L.nil (QE.m (by kernel_rfl) ?_)
     refine LM.alt [11, 13] (by kernel_rfl) (by decide) (Hq [0, 1, 2, 3, 4] rfl) ⟨⟨_, rfl, ?_⟩, ⟨_, rfl, ?_⟩, trivial⟩
     ·
      refine L.append (j := 2) rfl rfl rfl rfl (by decide) rfl rfl rfl rfl (Src.r 4 rfl) (by rw [Bs_len]; exact (Nat.mul_one _).symm) (Bs_one _) (by omega) (by show _ * 1 ≤ _; omega) rfl (fun A16 cc16 => ?_)
      refine L.nil (QE.m (by kernel_rfl) ?_)
      refine LM.q 12 rfl (by kernel_rfl) (Ev.build rfl rfl rfl rfl rfl rfl rfl) rfl (Hq [0, 1, 2, 3, 4] rfl) ?_; refine LM.f 13 rfl (by kernel_rfl) (Hq [0, 1, 2, 3, 4] rfl) ?_
      refine L.alloc rfl rfl rfl (fun A3 => ?_)
      refine L.nil (QE.m (by kernel_rfl) ?_)
      refine LM.cut [] (by kernel_rfl) (Hq [0, 1, 2, 3, 4] rfl) ?_; refine LM.f 14 rfl (by kernel_rfl) trivial ?_; refine L.storeA (j := 3) rfl rfl rfl rfl rfl (Nat.zero_lt_succ _) rfl rfl ?_
      refine L.nil (QE.m (by kernel_rfl) ?_)
      refine LM.nil (by kernel_rfl) trivial ?_
      refine QE.joined ((A3, A12, cc12, A16, cc16)) (by exact trivial) (by exact Le.mk' (rs := [0, 1, 2, 3, 4]) (hs := [0, 3, 1, 2]) ⟨rfl, rfl, rfl, rfl, trivial⟩ ⟨rfl, rfl, rfl, rfl, rfl, trivial⟩ ⟨rfl, (by simp only [Nat.zero_add]; rfl), (by simp only [Nat.zero_add]; rfl), (by simp only [Nat.zero_add]; rfl), trivial⟩ (by decide))
     ·
      refine L.alloc rfl rfl rfl (fun A3 => ?_)
      refine L.nil (QE.m (by kernel_rfl) ?_)
      refine LM.f 11 rfl (by kernel_rfl) (Hq [0, 1, 2, 3, 4] rfl) ?_
      refine L.append (j := 2) rfl rfl rfl rfl (by decide) rfl rfl rfl rfl (Src.r 4 rfl) (by rw [Bs_len]; exact (Nat.mul_one _).symm) (Bs_one _) (by omega) (by show _ * 1 ≤ _; omega) rfl (fun A16 cc16 => ?_)
      refine L.nil (QE.m (by kernel_rfl) ?_)
      refine LM.f 12 rfl (by kernel_rfl) (Hq [0, 1, 2, 3, 4] rfl) ?_; refine L.step (Ev.build rfl rfl rfl rfl rfl rfl rfl) rfl ?_
      refine L.nil (QE.m (by kernel_rfl) ?_)
      refine LM.cut [] (by kernel_rfl) (Hq [0, 1, 2, 3, 4] rfl) ?_; refine LM.f 14 rfl (by kernel_rfl) trivial ?_; refine L.storeA (j := 3) rfl rfl rfl rfl rfl (Nat.zero_lt_succ _) rfl rfl ?_
      refine L.nil (QE.m (by kernel_rfl) ?_)
      refine LM.nil (by kernel_rfl) trivial ?_
      refine QE.joined ((A3, A12, cc12, A16, cc16)) (by exact trivial) (by exact Le.mk' (rs := [0, 1, 2, 3, 4]) (hs := [0, 3, 1, 2]) ⟨rfl, rfl, rfl, rfl, trivial⟩ ⟨rfl, rfl, rfl, rfl, rfl, trivial⟩ ⟨rfl, (by simp only [Nat.zero_add]; rfl), (by simp only [Nat.zero_add]; rfl), (by simp only [Nat.zero_add]; rfl), trivial⟩ (by decide))
    ·
     refine L.alloc rfl rfl rfl (fun A3 => ?_)
     refine L.nil (QE.m (by kernel_rfl) ?_)
     refine LM.f 7 rfl (by kernel_rfl) (Hq [0, 1, 2, 3, 4] rfl) ?_
     refine L.append (j := 1) rfl rfl rfl rfl (by decide) rfl rfl rfl rfl (Src.r 3 rfl) (by rw [I64_len]; exact (Nat.mul_one _).symm) (I64_one _) (by omega) (by show _ * 8 ≤ _; omega) rfl (fun A12 cc12 => ?_)
     refine L.nil (QE.m (by kernel_rfl) ?_)
     refine LM.f 11 rfl (by kernel_rfl) (Hq [0, 1, 2, 3, 4] rfl) ?_
     refine L.append (j := 2) rfl rfl rfl rfl (by decide) rfl rfl rfl rfl (Src.r 4 rfl) (by rw [Bs_len]; exact (Nat.mul_one _).symm) (Bs_one _) (by omega) (by show _ * 1 ≤ _; omega) rfl (fun A16 cc16 => ?_)
     refine L.nil (QE.m (by kernel_rfl) ?_)
     refine LM.f 12 rfl (by kernel_rfl) (Hq [0, 1, 2, 3, 4] rfl) ?_; refine L.step (Ev.build rfl rfl rfl rfl rfl rfl rfl) rfl ?_
     refine L.nil (QE.m (by kernel_rfl) ?_)
     refine LM.cut [] (by kernel_rfl) (Hq [0, 1, 2, 3, 4] rfl) ?_; refine LM.f 14 rfl (by kernel_rfl) trivial ?_; refine L.storeA (j := 3) rfl rfl rfl rfl rfl (Nat.zero_lt_succ _) rfl rfl ?_
     refine L.nil (QE.m (by kernel_rfl) ?_)
     refine LM.nil (by kernel_rfl) trivial ?_
     refine QE.joined ((A3, A12, cc12, A16, cc16)) (by exact trivial) (by exact Le.mk' (rs := [0, 1, 2, 3, 4]) (hs := [0, 3, 1, 2]) ⟨rfl, rfl, rfl, rfl, trivial⟩ ⟨rfl, rfl, rfl, rfl, rfl, trivial⟩ ⟨rfl, (by simp only [Nat.zero_add]; rfl), (by simp only [Nat.zero_add]; rfl), (by simp only [Nat.zero_add]; rfl), trivial⟩ (by decide))
   ·
    refine L.alloc rfl rfl rfl (fun A3 => ?_)
    refine L.nil (QE.m (by kernel_rfl) ?_)
    refine LM.alt [7, 8] (by kernel_rfl) (by decide) (Hq [0, 1, 2, 3, 4] rfl) ⟨⟨_, rfl, ?_⟩, ⟨_, rfl, ?_⟩, trivial⟩
    ·
     refine L.append (j := 1) rfl rfl rfl rfl (by decide) rfl rfl rfl rfl (Src.r 3 rfl) (by rw [I64_len]; exact (Nat.mul_one _).symm) (I64_one _) (by omega) (by show _ * 8 ≤ _; omega) rfl (fun A12 cc12 => ?_)
     refine L.nil (QE.m (by kernel_rfl) ?_)
     refine LM.f 8 rfl (by kernel_rfl) (Hq [0, 1, 2, 3, 4] rfl) ?_
     refine L.lit rfl rfl rfl rfl rfl (by rfl) (by rfl) (by rfl) rfl rfl (fun A13 => ?_)
     refine L.nil (QE.m (by kernel_rfl) ?_)
     refine LM.f 11 rfl (by kernel_rfl) (Hq [0, 1, 2, 3, 4] rfl) ?_
     refine L.append (j := 3) rfl rfl rfl rfl (by decide) rfl rfl rfl rfl (Src.r 4 rfl) (by rw [Bs_len]; exact (Nat.mul_one _).symm) (Bs_one _) (by omega) (by show _ * 1 ≤ _; omega) rfl (fun A16 cc16 => ?_)
     refine L.nil (QE.m (by kernel_rfl) ?_)
     refine LM.f 12 rfl (by kernel_rfl) (Hq [0, 1, 2, 3, 4] rfl) ?_; refine L.step (Ev.build rfl rfl rfl rfl rfl rfl rfl) rfl ?_
     refine L.nil (QE.m (by kernel_rfl) ?_)
     refine LM.cut [] (by kernel_rfl) (Hq [0, 1, 2, 3, 4] rfl) ?_; refine LM.f 14 rfl (by kernel_rfl) trivial ?_; refine L.storeA (j := 2) rfl rfl rfl rfl rfl (Nat.zero_lt_succ _) rfl rfl ?_
     refine L.nil (QE.m (by kernel_rfl) ?_)
     refine LM.nil (by kernel_rfl) trivial ?_
     refine QE.joined ((A3, A12, cc12, A16, cc16)) (by exact trivial) (by exact Le.mk' (rs := [0, 1, 2, 3, 4]) (hs := [0, 2, 1, 3]) ⟨rfl, rfl, rfl, rfl, trivial⟩ ⟨rfl, rfl, rfl, rfl, rfl, trivial⟩ ⟨rfl, (by simp only [Nat.zero_add]; rfl), (by simp only [Nat.zero_add]; rfl), (by simp only [Nat.zero_add]; rfl), trivial⟩ (by decide))
    ·
     refine L.lit rfl rfl rfl rfl rfl (by rfl) (by rfl) (by rfl) rfl rfl (fun A13 => ?_)
     refine L.nil (QE.m (by kernel_rfl) ?_)
     refine LM.f 7 rfl (by kernel_rfl) (Hq [0, 1, 2, 3, 4] rfl) ?_
     refine L.append (j := 1) rfl rfl rfl rfl (by decide) rfl rfl rfl rfl (Src.r 3 rfl) (by rw [I64_len]; exact (Nat.mul_one _).symm) (I64_one _) (by omega) (by show _ * 8 ≤ _; omega) rfl (fun A12 cc12 => ?_)
     refine L.nil (QE.m (by kernel_rfl) ?_)
     refine LM.f 11 rfl (by kernel_rfl) (Hq [0, 1, 2, 3, 4] rfl) ?_
     refine L.append (j := 3) rfl rfl rfl rfl (by decide) rfl rfl rfl rfl (Src.r 4 rfl) (by rw [Bs_len]; exact (Nat.mul_one _).symm) (Bs_one _) (by omega) (by show _ * 1 ≤ _; omega) rfl (fun A16 cc16 => ?_)
     refine L.nil (QE.m (by kernel_rfl) ?_)
     refine LM.f 12 rfl (by kernel_rfl) (Hq [0, 1, 2, 3, 4] rfl) ?_; refine L.step (Ev.build rfl rfl rfl rfl rfl rfl rfl) rfl ?_
     refine L.nil (QE.m (by kernel_rfl) ?_)
     refine LM.cut [] (by kernel_rfl) (Hq [0, 1, 2, 3, 4] rfl) ?_; refine LM.f 14 rfl (by kernel_rfl) trivial ?_; refine L.storeA (j := 2) rfl rfl rfl rfl rfl (Nat.zero_lt_succ _) rfl rfl ?_
     refine L.nil (QE.m (by kernel_rfl) ?_)
     refine LM.nil (by kernel_rfl) trivial ?_
     refine QE.joined ((A3, A12, cc12, A16, cc16)) (by exact trivial) (by exact Le.mk' (rs := [0, 1, 2, 3, 4]) (hs := [0, 2, 1, 3]) ⟨rfl, rfl, rfl, rfl, trivial⟩ ⟨rfl, rfl, rfl, rfl, rfl, trivial⟩ ⟨rfl, (by simp only [Nat.zero_add]; rfl), (by simp only [Nat.zero_add]; rfl), (by simp only [Nat.zero_add]; rfl), trivial⟩ (by decide))
  ·
   refine L.lit rfl rfl rfl rfl rfl (by rfl) (by rfl) (by rfl) rfl rfl (fun A13 => ?_)
   refine L.nil (QE.m (by kernel_rfl) ?_)
   refine LM.alt [4, 13] (by kernel_rfl) (by decide) (Hq [0, 1, 2, 3, 4] rfl) ⟨⟨_, rfl, ?_⟩, ⟨_, rfl, ?_⟩, trivial⟩
   ·
    refine L.lit rfl rfl rfl rfl rfl (by rfl) (by rfl) (by rfl) rfl rfl (fun A9 => ?_)
    refine L.nil (QE.m (by kernel_rfl) ?_)
    refine LM.alt [7, 13] (by kernel_rfl) (by decide) (Hq [0, 1, 2, 3, 4] rfl) ⟨⟨_, rfl, ?_⟩, ⟨_, rfl, ?_⟩, trivial⟩
    ·
     refine L.append (j := 2) rfl rfl rfl rfl (by decide) rfl rfl rfl rfl (Src.r 3 rfl) (by rw [I64_len]; exact (Nat.mul_one _).symm) (I64_one _) (by omega) (by show _ * 8 ≤ _; omega) rfl (fun A12 cc12 => ?_)
     refine L.nil (QE.m (by kernel_rfl) ?_)
     refine LM.alt [11, 13] (by kernel_rfl) (by decide) (Hq [0, 1, 2, 3, 4] rfl) ⟨⟨_, rfl, ?_⟩, ⟨_, rfl, ?_⟩, trivial⟩
     ·
      refine L.append (j := 1) rfl rfl rfl rfl (by decide) rfl rfl rfl rfl (Src.r 4 rfl) (by rw [Bs_len]; exact (Nat.mul_one _).symm) (Bs_one _) (by omega) (by show _ * 1 ≤ _; omega) rfl (fun A16 cc16 => ?_)
      refine L.nil (QE.m (by kernel_rfl) ?_)
      refine LM.q 12 rfl (by kernel_rfl) (Ev.build rfl rfl rfl rfl rfl rfl rfl) rfl (Hq [0, 1, 2, 3, 4] rfl) ?_; refine LM.f 13 rfl (by kernel_rfl) (Hq [0, 1, 2, 3, 4] rfl) ?_
      refine L.alloc rfl rfl rfl (fun A3 => ?_)
      refine L.nil (QE.m (by kernel_rfl) ?_)
      refine LM.cut [] (by kernel_rfl) (Hq [0, 1, 2, 3, 4] rfl) ?_; refine LM.f 14 rfl (by kernel_rfl) trivial ?_; refine L.storeA (j := 3) rfl rfl rfl rfl rfl (Nat.zero_lt_succ _) rfl rfl ?_
      refine L.nil (QE.m (by kernel_rfl) ?_)
      refine LM.nil (by kernel_rfl) trivial ?_
      refine QE.joined ((A3, A12, cc12, A16, cc16)) (by exact trivial) (by exact Le.mk' (rs := [0, 1, 2, 3, 4]) (hs := [0, 3, 2, 1]) ⟨rfl, rfl, rfl, rfl, trivial⟩ ⟨rfl, rfl, rfl, rfl, rfl, trivial⟩ ⟨rfl, (by simp only [Nat.zero_add]; rfl), (by simp only [Nat.zero_add]; rfl), (by simp only [Nat.zero_add]; rfl), trivial⟩ (by decide))
     ·
      refine L.alloc rfl rfl rfl (fun A3 => ?_)
      refine L.nil (QE.m (by kernel_rfl) ?_)
      refine LM.f 11 rfl (by kernel_rfl) (Hq [0, 1, 2, 3, 4] rfl) ?_
      refine L.append (j := 1) rfl rfl rfl rfl (by decide) rfl rfl rfl rfl (Src.r 4 rfl) (by rw [Bs_len]; exact (Nat.mul_one _).symm) (Bs_one _) (by omega) (by show _ * 1 ≤ _; omega) rfl (fun A16 cc16 => ?_)
      refine L.nil (QE.m (by kernel_rfl) ?_)
      refine LM.f 12 rfl (by kernel_rfl) (Hq [0, 1, 2, 3, 4] rfl) ?_; refine L.step (Ev.build rfl rfl rfl rfl rfl rfl rfl) rfl ?_
      refine L.nil (QE.m (by kernel_rfl) ?_)
      refine LM.cut [] (by kernel_rfl) (Hq [0, 1, 2, 3, 4] rfl) ?_; refine LM.f 14 rfl (by kernel_rfl) trivial ?_; refine L.storeA (j := 3) rfl rfl rfl rfl rfl (Nat.zero_lt_succ _) rfl rfl ?_
      refine L.nil (QE.m (by kernel_rfl) ?_)
      refine LM.nil (by kernel_rfl) trivial ?_
      refine QE.joined ((A3, A12, cc12, A16, cc16)) (by exact trivial) (by exact Le.mk' (rs := [0, 1, 2, 3, 4]) (hs := [0, 3, 2, 1]) ⟨rfl, rfl, rfl, rfl, trivial⟩ ⟨rfl, rfl, rfl, rfl, rfl, trivial⟩ ⟨rfl, (by simp only [Nat.zero_add]; rfl), (by simp only [Nat.zero_add]; rfl), (by simp only [Nat.zero_add]; rfl), trivial⟩ (by decide))
    ·
     refine L.alloc rfl rfl rfl (fun A3 => ?_)
     refine L.nil (QE.m (by kernel_rfl) ?_)
     refine LM.f 7 rfl (by kernel_rfl) (Hq [0, 1, 2, 3, 4] rfl) ?_
     refine L.append (j := 2) rfl rfl rfl rfl (by decide) rfl rfl rfl rfl (Src.r 3 rfl) (by rw [I64_len]; exact (Nat.mul_one _).symm) (I64_one _) (by omega) (by show _ * 8 ≤ _; omega) rfl (fun A12 cc12 => ?_)
     refine L.nil (QE.m (by kernel_rfl) ?_)
     refine LM.f 11 rfl (by kernel_rfl) (Hq [0, 1, 2, 3, 4] rfl) ?_
     refine L.append (j := 1) rfl rfl rfl rfl (by decide) rfl rfl rfl rfl (Src.r 4 rfl) (by rw [Bs_len]; exact (Nat.mul_one _).symm) (Bs_one _) (by omega) (by show _ * 1 ≤ _; omega) rfl (fun A16 cc16 => ?_)
     refine L.nil (QE.m (by kernel_rfl) ?_)
     refine LM.f 12 rfl (by kernel_rfl) (Hq [0, 1, 2, 3, 4] rfl) ?_; refine L.step (Ev.build rfl rfl rfl rfl rfl rfl rfl) rfl ?_
     refine L.nil (QE.m (by kernel_rfl) ?_)
     refine LM.cut [] (by kernel_rfl) (Hq [0, 1, 2, 3, 4] rfl) ?_; refine LM.f 14 rfl (by kernel_rfl) trivial ?_; refine L.storeA (j := 3) rfl rfl rfl rfl rfl (Nat.zero_lt_succ _) rfl rfl ?_
     refine L.nil (QE.m (by kernel_rfl) ?_)
     refine LM.nil (by kernel_rfl) trivial ?_
     refine QE.joined ((A3, A12, cc12, A16, cc16)) (by exact trivial) (by exact Le.mk' (rs := [0, 1, 2, 3, 4]) (hs := [0, 3, 2, 1]) ⟨rfl, rfl, rfl, rfl, trivial⟩ ⟨rfl, rfl, rfl, rfl, rfl, trivial⟩ ⟨rfl, (by simp only [Nat.zero_add]; rfl), (by simp only [Nat.zero_add]; rfl), (by simp only [Nat.zero_add]; rfl), trivial⟩ (by decide))
   ·
    refine L.alloc rfl rfl rfl (fun A3 => ?_)
    refine L.nil (QE.m (by kernel_rfl) ?_)
    refine LM.f 4 rfl (by kernel_rfl) (Hq [0, 1, 2, 3, 4] rfl) ?_
    refine L.lit rfl rfl rfl rfl rfl (by rfl) (by rfl) (by rfl) rfl rfl (fun A9 => ?_)
    refine L.nil (QE.m (by kernel_rfl) ?_)
    refine LM.f 7 rfl (by kernel_rfl) (Hq [0, 1, 2, 3, 4] rfl) ?_
    refine L.append (j := 3) rfl rfl rfl rfl (by decide) rfl rfl rfl rfl (Src.r 3 rfl) (by rw [I64_len]; exact (Nat.mul_one _).symm) (I64_one _) (by omega) (by show _ * 8 ≤ _; omega) rfl (fun A12 cc12 => ?_)
    refine L.nil (QE.m (by kernel_rfl) ?_)
    refine LM.f 11 rfl (by kernel_rfl) (Hq [0, 1, 2, 3, 4] rfl) ?_
    refine L.append (j := 1) rfl rfl rfl rfl (by decide) rfl rfl rfl rfl (Src.r 4 rfl) (by rw [Bs_len]; exact (Nat.mul_one _).symm) (Bs_one _) (by omega) (by show _ * 1 ≤ _; omega) rfl (fun A16 cc16 => ?_)
    refine L.nil (QE.m (by kernel_rfl) ?_)
    refine LM.f 12 rfl (by kernel_rfl) (Hq [0, 1, 2, 3, 4] rfl) ?_; refine L.step (Ev.build rfl rfl rfl rfl rfl rfl rfl) rfl ?_
    refine L.nil (QE.m (by kernel_rfl) ?_)
    refine LM.cut [] (by kernel_rfl) (Hq [0, 1, 2, 3, 4] rfl) ?_; refine LM.f 14 rfl (by kernel_rfl) trivial ?_; refine L.storeA (j := 2) rfl rfl rfl rfl rfl (Nat.zero_lt_succ _) rfl rfl ?_
    refine L.nil (QE.m (by kernel_rfl) ?_)
    refine LM.nil (by kernel_rfl) trivial ?_
    refine QE.joined ((A3, A12, cc12, A16, cc16)) (by exact trivial) (by exact Le.mk' (rs := [0, 1, 2, 3, 4]) (hs := [0, 2, 3, 1]) ⟨rfl, rfl, rfl, rfl, trivial⟩ ⟨rfl, rfl, rfl, rfl, rfl, trivial⟩ ⟨rfl, (by simp only [Nat.zero_add]; rfl), (by simp only [Nat.zero_add]; rfl), (by simp only [Nat.zero_add]; rfl), trivial⟩ (by decide))
  ·
   refine L.alloc rfl rfl rfl (fun A3 => ?_)
   refine L.nil (QE.m (by kernel_rfl) ?_)
   refine LM.alt [4, 8] (by kernel_rfl) (by decide) (Hq [0, 1, 2, 3, 4] rfl) ⟨⟨_, rfl, ?_⟩, ⟨_, rfl, ?_⟩, trivial⟩
   ·
    refine L.lit rfl rfl rfl rfl rfl (by rfl) (by rfl) (by rfl) rfl rfl (fun A9 => ?_)
    refine L.nil (QE.m (by kernel_rfl) ?_)
    refine LM.alt [7, 8] (by kernel_rfl) (by decide) (Hq [0, 1, 2, 3, 4] rfl) ⟨⟨_, rfl, ?_⟩, ⟨_, rfl, ?_⟩, trivial⟩
    ·
     refine L.append (j := 2) rfl rfl rfl rfl (by decide) rfl rfl rfl rfl (Src.r 3 rfl) (by rw [I64_len]; exact (Nat.mul_one _).symm) (I64_one _) (by omega) (by show _ * 8 ≤ _; omega) rfl (fun A12 cc12 => ?_)
     refine L.nil (QE.m (by kernel_rfl) ?_)
     refine LM.f 8 rfl (by kernel_rfl) (Hq [0, 1, 2, 3, 4] rfl) ?_
     refine L.lit rfl rfl rfl rfl rfl (by rfl) (by rfl) (by rfl) rfl rfl (fun A13 => ?_)
     refine L.nil (QE.m (by kernel_rfl) ?_)
     refine LM.f 11 rfl (by kernel_rfl) (Hq [0, 1, 2, 3, 4] rfl) ?_
     refine L.append (j := 3) rfl rfl rfl rfl (by decide) rfl rfl rfl rfl (Src.r 4 rfl) (by rw [Bs_len]; exact (Nat.mul_one _).symm) (Bs_one _) (by omega) (by show _ * 1 ≤ _; omega) rfl (fun A16 cc16 => ?_)
     refine L.nil (QE.m (by kernel_rfl) ?_)
     refine LM.f 12 rfl (by kernel_rfl) (Hq [0, 1, 2, 3, 4] rfl) ?_; refine L.step (Ev.build rfl rfl rfl rfl rfl rfl rfl) rfl ?_
     refine L.nil (QE.m (by kernel_rfl) ?_)
     refine LM.cut [] (by kernel_rfl) (Hq [0, 1, 2, 3, 4] rfl) ?_; refine LM.f 14 rfl (by kernel_rfl) trivial ?_; refine L.storeA (j := 1) rfl rfl rfl rfl rfl (Nat.zero_lt_succ _) rfl rfl ?_
     refine L.nil (QE.m (by kernel_rfl) ?_)
     refine LM.nil (by kernel_rfl) trivial ?_
     refine QE.joined ((A3, A12, cc12, A16, cc16)) (by exact trivial) (by exact Le.mk' (rs := [0, 1, 2, 3, 4]) (hs := [0, 1, 2, 3]) ⟨rfl, rfl, rfl, rfl, trivial⟩ ⟨rfl, rfl, rfl, rfl, rfl, trivial⟩ ⟨rfl, (by simp only [Nat.zero_add]; rfl), (by simp only [Nat.zero_add]; rfl), (by simp only [Nat.zero_add]; rfl), trivial⟩ (by decide))
    ·
     refine L.lit rfl rfl rfl rfl rfl (by rfl) (by rfl) (by rfl) rfl rfl (fun A13 => ?_)
     refine L.nil (QE.m (by kernel_rfl) ?_)
     refine LM.f 7 rfl (by kernel_rfl) (Hq [0, 1, 2, 3, 4] rfl) ?_
     refine L.append (j := 2) rfl rfl rfl rfl (by decide) rfl rfl rfl rfl (Src.r 3 rfl) (by rw [I64_len]; exact (Nat.mul_one _).symm) (I64_one _) (by omega) (by show _ * 8 ≤ _; omega) rfl (fun A12 cc12 => ?_)
     refine L.nil (QE.m (by kernel_rfl) ?_)
     refine LM.f 11 rfl (by kernel_rfl) (Hq [0, 1, 2, 3, 4] rfl) ?_
     refine L.append (j := 3) rfl rfl rfl rfl (by decide) rfl rfl rfl rfl (Src.r 4 rfl) (by rw [Bs_len]; exact (Nat.mul_one _).symm) (Bs_one _) (by omega) (by show _ * 1 ≤ _; omega) rfl (fun A16 cc16 => ?_)
     refine L.nil (QE.m (by kernel_rfl) ?_)
     refine LM.f 12 rfl (by kernel_rfl) (Hq [0, 1, 2, 3, 4] rfl) ?_; refine L.step (Ev.build rfl rfl rfl rfl rfl rfl rfl) rfl ?_
     refine L.nil (QE.m (by kernel_rfl) ?_)
     refine LM.cut [] (by kernel_rfl) (Hq [0, 1, 2, 3, 4] rfl) ?_; refine LM.f 14 rfl (by kernel_rfl) trivial ?_; refine L.storeA (j := 1) rfl rfl rfl rfl rfl (Nat.zero_lt_succ _) rfl rfl ?_
     refine L.nil (QE.m (by kernel_rfl) ?_)
     refine LM.nil (by kernel_rfl) trivial ?_
     refine QE.joined ((A3, A12, cc12, A16, cc16)) (by exact trivial) (by exact Le.mk' (rs := [0, 1, 2, 3, 4]) (hs := [0, 1, 2, 3]) ⟨rfl, rfl, rfl, rfl, trivial⟩ ⟨rfl, rfl, rfl, rfl, rfl, trivial⟩ ⟨rfl, (by simp only [Nat.zero_add]; rfl), (by simp only [Nat.zero_add]; rfl), (by simp only [Nat.zero_add]; rfl), trivial⟩ (by decide))
   ·
    refine L.lit rfl rfl rfl rfl rfl (by rfl) (by rfl) (by rfl) rfl rfl (fun A13 => ?_)
    refine L.nil (QE.m (by kernel_rfl) ?_)
    refine LM.f 4 rfl (by kernel_rfl) (Hq [0, 1, 2, 3, 4] rfl) ?_
    refine L.lit rfl rfl rfl rfl rfl (by rfl) (by rfl) (by rfl) rfl rfl (fun A9 => ?_)
    refine L.nil (QE.m (by kernel_rfl) ?_)
    refine LM.f 7 rfl (by kernel_rfl) (Hq [0, 1, 2, 3, 4] rfl) ?_
    refine L.append (j := 3) rfl rfl rfl rfl (by decide) rfl rfl rfl rfl (Src.r 3 rfl) (by rw [I64_len]; exact (Nat.mul_one _).symm) (I64_one _) (by omega) (by show _ * 8 ≤ _; omega) rfl (fun A12 cc12 => ?_)
    refine L.nil (QE.m (by kernel_rfl) ?_)
    refine LM.f 11 rfl (by kernel_rfl) (Hq [0, 1, 2, 3, 4] rfl) ?_
    refine L.append (j := 2) rfl rfl rfl rfl (by decide) rfl rfl rfl rfl (Src.r 4 rfl) (by rw [Bs_len]; exact (Nat.mul_one _).symm) (Bs_one _) (by omega) (by show _ * 1 ≤ _; omega) rfl (fun A16 cc16 => ?_)
    refine L.nil (QE.m (by kernel_rfl) ?_)
    refine LM.f 12 rfl (by kernel_rfl) (Hq [0, 1, 2, 3, 4] rfl) ?_; refine L.step (Ev.build rfl rfl rfl rfl rfl rfl rfl) rfl ?_
    refine L.nil (QE.m (by kernel_rfl) ?_)
    refine LM.cut [] (by kernel_rfl) (Hq [0, 1, 2, 3, 4] rfl) ?_; refine LM.f 14 rfl (by kernel_rfl) trivial ?_; refine L.storeA (j := 1) rfl rfl rfl rfl rfl (Nat.zero_lt_succ _) rfl rfl ?_
    refine L.nil (QE.m (by kernel_rfl) ?_)
    refine LM.nil (by kernel_rfl) trivial ?_
    refine QE.joined ((A3, A12, cc12, A16, cc16)) (by exact trivial) (by exact Le.mk' (rs := [0, 1, 2, 3, 4]) (hs := [0, 1, 3, 2]) ⟨rfl, rfl, rfl, rfl, trivial⟩ ⟨rfl, rfl, rfl, rfl, rfl, trivial⟩ ⟨rfl, (by simp only [Nat.zero_add]; rfl), (by simp only [Nat.zero_add]; rfl), (by simp only [Nat.zero_add]; rfl), trivial⟩ (by decide))
 ·
  rintro ⟨A3, A12, c12, A16, c16⟩ _
  dsimp only
  refine QE.seq (C.seq (C.seq (C.region ?_))); refine Lpu rfl rfl ?_; refine L.nil (QE.seq (C.block ?_)); refine C.nil_own 45 1 ?_; refine C.kids0 5 ?_; refine C.loop (fun q : Nat × Option Addr × Nat × List Hd => [(0, .agg (List.toArray [.int .i64 (f.size : Int), .slice a.D f.data.length a.cD, .slice a.W f.wear.length a.cW, .int .i64 f.limit, .slice a.E f.dead.length a.cE])), (1, ptrOf A1 0), (2, ptrOf A2 0), (3, ptrOf A3 0), (4, .int .i64 (q.1 : Int))]) (fun q : Nat × Option Addr × Nat × List Hd => [Rd A1 [.int .i64 (f.size : Int), .slice a.D f.data.length a.cD, .slice a.W f.wear.length a.cW, .int .i64 f.limit, .slice a.E f.dead.length a.cE], Rd a.D (rowsV a.hs (B8 f.data)), KidsR a.hs (B8 f.data), Rd a.W (I64 f.wear), Rd a.E (Bs f.dead)]) (fun q : Nat × Option Addr × Nat × List Hd => [Own 35 5 A2 1 1 [.int .i64 0, .slice none 0 0, .slice none 0 0, .int .i64 0, .slice none 0 0], Own 35 5 A3 1 1 [.int .i64 (f.size : Int), .slice q.2.1 q.1 q.2.2.1, .slice A12 f.wear.length c12, .int .i64 f.limit, .slice A16 f.dead.length c16], Own 3 1 A12 f.wear.length c12 (I64 f.wear), Own 4 1 A16 f.dead.length c16 (Bs f.dead), Own 45 1 q.2.1 q.1 q.2.2.1 (rowsV q.2.2.2 (B8 (f.data.take q.1))), OwnKids 5 q.2.2.2 (B8 (f.data.take q.1))]) (fun q : Nat × Option Addr × Nat × List Hd => q.1 ≤ f.data.length ∧ q.2.2.2.length = q.1) (fun q : Nat × Option Addr × Nat × List Hd => f.data.length - q.1) (0, none, 0, []) ⟨by simp, rfl⟩ (by exact Le.mk' (rs := [0, 1, 2, 3, 4]) (hs := [0, 1, 2, 3, 4, 5]) ⟨rfl, rfl, rfl, rfl, rfl, trivial⟩ ⟨rfl, rfl, rfl, rfl, rfl, trivial⟩ ⟨rfl, rfl, rfl, rfl, rfl, rfl, trivial⟩ (by decide)) ?_
  rintro ⟨k, D, cD, hs⟩ ⟨hk, hl⟩
  dsimp only at hk hl ⊢
  refine C.seq (C.seq (C.region ?_)); refine Lpu rfl rfl ?_; refine L.step (Ev.fieldAddr rfl rfl rfl rfl rfl rfl (Src.r 0 rfl) (Nat.zero_lt_succ _) rfl) rfl ?_; refine L.step (Ev.load rfl rfl rfl (Src.r 0 rfl) rfl) rfl ?_; refine Lpu rfl rfl ?_; refine Lpu rfl rfl ?_; refine L.nil (QE.seq ?_)
  refine C.condB 22 rfl (fun hc22 => ?_) (fun hc22 => ?_)
  ·
   replace hc22 := of_decide_eq_true hc22
   refine C.skip (QE.seq (C.seq (C.block ?_)))
   have hrow := orows k (by omega)
   refine C.regionM [Rd A1 [.int .i64 (f.size : Int), .slice a.D f.data.length a.cD, .slice a.W f.wear.length a.cW, .int .i64 f.limit, .slice a.E f.dead.length a.cE], Rd a.D (rowsV a.hs (B8 f.data)), KidsR a.hs (B8 f.data), Rd a.W (I64 f.wear), Rd a.E (Bs f.dead), Rd A3 [.int .i64 (f.size : Int), .slice D k cD, .slice A12 f.wear.length c12, .int .i64 f.limit, .slice A16 f.dead.length c16]] ⟨Has.r 0 rfl, Has.r 1 rfl, Has.r 2 rfl, Has.r 3 rfl, Has.r 4 rfl, Has.o 1 rfl, trivial⟩ ?_; refine LM.q 0 rfl (by kernel_rfl) (Ev.fieldAddr rfl rfl rfl rfl rfl rfl (Src.r 5 rfl) (Nat.zero_lt_succ _) rfl) rfl ⟨Has.r 0 rfl, Has.r 1 rfl, Has.r 2 rfl, Has.r 3 rfl, Has.r 4 rfl, Has.o 1 rfl, trivial⟩ ?_; refine LM.q 1 rfl (by kernel_rfl) (Ev.load rfl rfl rfl (Src.r 5 rfl) rfl) rfl ⟨Has.r 0 rfl, Has.r 1 rfl, Has.r 2 rfl, Has.r 3 rfl, Has.r 4 rfl, Has.o 1 rfl, trivial⟩ ?_; refine LM.q 3 rfl (by kernel_rfl) (Ev.fieldAddr rfl rfl rfl rfl rfl rfl (Src.r 0 rfl) (Nat.zero_lt_succ _) rfl) rfl ⟨Has.r 0 rfl, Has.r 1 rfl, Has.r 2 rfl, Has.r 3 rfl, Has.r 4 rfl, Has.o 1 rfl, trivial⟩ ?_; refine LM.q 4 rfl (by kernel_rfl) (Ev.load rfl rfl rfl (Src.r 0 rfl) rfl) rfl ⟨Has.r 0 rfl, Has.r 1 rfl, Has.r 2 rfl, Has.r 3 rfl, Has.r 4 rfl, Has.o 1 rfl, trivial⟩ ?_; refine LM.q 5 rfl (by kernel_rfl) (Ev.pure rfl) rfl ⟨Has.r 0 rfl, Has.r 1 rfl, Has.r 2 rfl, Has.r 3 rfl, Has.r 4 rfl, Has.o 1 rfl, trivial⟩ ?_; refine LM.q 6 rfl (by kernel_rfl) (Ev.idx1 (k := k) rfl rfl rfl rfl rfl rfl rfl (by omega) (Src.r 1 rfl) (by rw [rowsV_len (by rw [B8_len]; exact hh), B8_len]; omega)) rfl ⟨Has.r 0 rfl, Has.r 1 rfl, Has.r 2 rfl, Has.r 3 rfl, Has.r 4 rfl, Has.o 1 rfl, trivial⟩ ?_; refine LM.q 7 rfl (by kernel_rfl) (Ev.load rfl rfl rfl (Src.r 1 rfl) (rows8_get hh (by omega))) rfl ⟨Has.r 0 rfl, Has.r 1 rfl, Has.r 2 rfl, Has.r 3 rfl, Has.r 4 rfl, Has.o 1 rfl, trivial⟩ ?_; refine LM.f 2 rfl (by kernel_rfl) ⟨Has.r 0 rfl, Has.r 1 rfl, Has.r 2 rfl, Has.r 3 rfl, Has.r 4 rfl, Has.o 1 rfl, trivial⟩ ?_
   refine L.lit rfl rfl rfl rfl rfl (by rfl) (by rfl) (by rfl) rfl rfl (fun A27 => ?_)
   refine L.nil (QE.m (by kernel_rfl) ?_)
   refine LM.f 8 rfl (by kernel_rfl) ⟨Has.r 0 rfl, Has.r 1 rfl, Has.r 2 rfl, Has.r 3 rfl, Has.r 4 rfl, Has.o 1 rfl, trivial⟩ ?_
   refine L.append (j := 6) rfl rfl rfl rfl (by decide) rfl rfl rfl rfl ((Src.kid 2 rfl (by rw [B8_len]; exact hh) (k) (by rw [B8_len]; omega)).cast (B8_get _)) (by rw [U8_len]; exact (Nat.mul_one _).symm) (U8_one _) (by omega) (by show _ * 1 ≤ _; omega) rfl (fun A33 cc33 => ?_)
   refine L.nil (QE.m (by kernel_rfl) ?_)
   refine LM.f 9 rfl (by kernel_rfl) ⟨Has.r 0 rfl, Has.r 1 rfl, Has.r 2 rfl, Has.r 3 rfl, Has.r 4 rfl, Has.o 1 rfl, trivial⟩ ?_
   refine L.lit rfl rfl rfl rfl rfl (by rfl) (by rfl) (by rfl) rfl rfl (fun A34 => ?_)
   refine L.nil (QE.m (by kernel_rfl) ?_)
   refine LM.cut [] (by kernel_rfl) ⟨Has.r 0 rfl, Has.r 1 rfl, Has.r 2 rfl, Has.r 3 rfl, Has.r 4 rfl, Has.o 1 rfl, trivial⟩ ?_; refine LM.f 10 rfl (by kernel_rfl) trivial ?_
   refine L.append (j := 4) rfl rfl rfl rfl (by decide) rfl rfl rfl rfl (Src.o 7 rfl) rfl (by intro v hv; simp at hv; subst hv; rfl) (by omega) (by show _ * 24 ≤ _; omega) rfl (fun A35 cc35 => ?_)
   refine L.nil (QE.m (by kernel_rfl) ?_)
   refine LM.f 11 rfl (by kernel_rfl) trivial ?_; refine L.step (Ev.fieldAddr rfl rfl rfl rfl rfl rfl (Src.o 1 rfl) (Nat.zero_lt_succ _) rfl) rfl ?_
   refine L.nil (QE.m (by kernel_rfl) ?_)
   refine LM.f 12 rfl (by kernel_rfl) trivial ?_; refine L.store (j := 1) rfl rfl rfl rfl rfl rfl rfl rfl ?_
   refine L.nil (QE.m (by kernel_rfl) ?_)
   refine LM.nil (by kernel_rfl) trivial ?_; refine QE.blkN ?_; refine QE.seq (C.region ?_); refine Lpu rfl rfl ?_; refine L.step (Ev.add rfl rfl (by omega) (by omega)) rfl ?_; refine Lpu rfl rfl ?_; refine L.nil ?_; refine QE.absorb 5 6 rfl rfl [0, 1, 2, 3, 4, 7] (by decide) ?_
   have hrow := orows k (by omega)
   refine QE.round (i := (k, D, cD, hs)) ((k + 1, A35, cc35, hs ++ [(A33, cc33)])) (by exact ⟨by dsimp only; omega, by simp [hl]⟩) (by dsimp only; omega) (by exact Le.mk' (rs := [0, 1, 2, 3, 4]) (hs := [1, 2, 3, 4, 5, 0]) ⟨rfl, rfl, rfl, rfl, rfl, trivial⟩ ⟨rfl, rfl, rfl, rfl, rfl, trivial⟩ ⟨rfl, rfl, rfl, rfl, (congrArg some (own_eq rfl (by rw [take_snoc' f.data [] k (by omega), ← rows8_app (by rw [List.length_take]; omega), Nat.zero_add]))), (congrArg some (by rw [take_snoc' f.data [] k (by omega), ← B8_snoc]; rfl)), trivial⟩ (by decide))
  ·
   replace hc22 := of_decide_eq_false hc22
   refine C.exit ?_; refine QE.tX ?_; refine QE.tX ?_; refine QE.blk ?_; refine QE.seq (C.seq (C.region ?_)); refine L.step (Ev.loadA rfl rfl rfl (Src.o 1 rfl) rfl rfl (by decide)) rfl ?_; refine L.storeA (j := 0) rfl rfl rfl rfl rfl (Nat.zero_lt_succ _) rfl rfl ?_; refine L.nil (QE.seq (C.ret ?_)); refine QE.ret (js := []) (hs := [4, 5, 2, 3]) (vs := [_]) rfl ⟨⟨_, _, 0, _, rfl, rfl, Src.o 0 rfl, .inl ⟨rfl, by decide, _, rfl, rfl, rfl⟩⟩, trivial⟩ (by decide) ?_
   obtain rfl : f.data.length = k := by omega
   rw [List.take_length]
   exact ⟨⟨D, cD, hs, A12, c12, A16, c16⟩, rfl, rfl, rfl, hl⟩

theorem asked17_c (f : Fl) (a : Fa) (ok : f.Ok) (hh : a.hs.length = f.data.length) (x : Fo) (XA : Option Addr) (xc : Nat) (hxl : x.data.length ≤ 9223372036854775807) (hE : checkE f x = 0) :
   Ctr X 62 [.agg (List.toArray [.int .i64 (f.size : Int), .slice a.D f.data.length a.cD, .slice a.W f.wear.length a.cW, .int .i64 f.limit, .slice a.E f.dead.length a.cE]), .agg (List.toArray [.int .i64 x.kind, .int .i64 x.sec, .int .i64 x.at_, .slice XA x.data.length xc])] [Rd a.D (rowsV a.hs (B8 f.data)), KidsR a.hs (B8 f.data), Rd a.W (I64 f.wear), Rd a.E (Bs f.dead), Rd XA (U8 x.data)] [] (fun v R' H' => ∃ A c, v = .slice A f.size c ∧ R' = [] ∧ H' = [Own 5 1 A f.size c (U8 (askRow f x))]) := by
 obtain ⟨os1, os2, on1, on2, owl, odl, orows, ol1, ol2, owear⟩ := ok
 obtain ⟨q1, ⟨q2, q3, q4⟩, q5, q6⟩ := checkE_ok hE
 have hrow := orows x.sec.toNat (by omega)
 refine Ctr.of (X := X) (fn := Try.f62) Try.func62 rfl (by kernel_rfl) rfl ?_
 intro β
 refine C.seq (C.region ?_)
 refine L.boxA rfl rfl (fun A2 => ?_)
 refine L.boxA rfl rfl (fun A3 => ?_)
 refine Lpu rfl rfl ?_; refine L.nil (QE.seq (C.seq (C.seq ?_))); refine C.freeze 1 rfl [0] (by decide) (by decide) ?_; refine C.freeze 0 rfl [] (by decide) (by decide) ?_; refine C.region ?_; refine L.step (Ev.fieldAddr rfl rfl rfl rfl rfl rfl (Src.r 1 rfl) (Nat.zero_lt_succ _) rfl) rfl ?_; refine L.step (Ev.load rfl rfl rfl (Src.r 1 rfl) rfl) rfl ?_; refine Lpu rfl rfl ?_; refine L.nil (QE.seq ?_)
 refine C.condB 9 rfl (fun hc9 => ?_) (fun hc9 => ?_)
 ·
  replace hc9 := i_eq hc9
  refine C.seq (C.region ?_); refine L.step (Ev.fieldAddr rfl rfl rfl rfl rfl rfl (Src.r 0 rfl) (Nat.zero_lt_succ _) rfl) rfl ?_; refine L.step (Ev.load rfl rfl rfl (Src.r 0 rfl) rfl) rfl ?_; refine L.call (js := []) (js' := []) (blank_c f.size (by omega)) rfl rfl rfl (by decide) trivial rfl ?_
  rintro _ _ _ ⟨A12, rfl, rfl, rfl⟩
  refine Lpu rfl rfl ?_; refine L.nil (QE.seq (C.ret (QE.tR ?_))); refine QE.ret (js := []) (hs := [0]) (vs := [_]) rfl ⟨rfl, trivial⟩ (by decide) ?_
  exact ⟨A12, f.size, rfl, rfl, by rw [askRow_1 hc9]; rfl⟩
 ·
  replace hc9 := i_ne hc9
  refine C.skip (QE.seq (C.seq (C.region ?_)))
  refine L.lit rfl rfl rfl rfl rfl (by rfl) (by rfl) (by rfl) rfl rfl (fun A13 => ?_)
  refine L.step (Ev.fieldAddr rfl rfl rfl rfl rfl rfl (Src.r 0 rfl) (Nat.zero_lt_succ _) rfl) rfl ?_; refine L.step (Ev.load rfl rfl rfl (Src.r 0 rfl) rfl) rfl ?_; refine L.step (Ev.fieldAddr rfl rfl rfl rfl rfl rfl (Src.r 1 rfl) (Nat.zero_lt_succ _) rfl) rfl ?_; refine L.step (Ev.load rfl rfl rfl (Src.r 1 rfl) rfl) rfl ?_; refine L.step (Ev.idx1 (k := x.sec.toNat) rfl rfl rfl rfl rfl rfl (by omega) (by omega) (Src.r 2 rfl) (by rw [rowsV_len (by rw [B8_len]; exact hh), B8_len]; omega)) rfl ?_; refine L.step (Ev.load rfl rfl rfl (Src.r 2 rfl) (rows8_get hh (by omega))) rfl ?_
  refine L.append (j := 0) rfl rfl rfl rfl (by decide) rfl rfl rfl rfl ((Src.kid 3 rfl (by rw [B8_len]; exact hh) (x.sec.toNat) (by rw [B8_len]; omega)).cast (B8_get _)) (by rw [U8_len]; exact (Nat.mul_one _).symm) (U8_one _) (by omega) (by show _ * 1 ≤ _; omega) rfl (fun A20 cc20 => ?_)
  refine Lpu rfl rfl ?_; refine L.nil (QE.seq (C.seq (C.seq (C.region ?_)))); refine Lpu rfl rfl ?_; refine L.nil (QE.seq (C.block ?_))
  have hk2 : x.kind = 2 := by omega
  have hk2b := q4 hk2
  refine C.loop (fun k : Nat => [(2, ptrOf A2 0), (3, ptrOf A3 0), (5, .slice A20 (f.data.getD x.sec.toNat []).length cc20), (6, .int .i64 (k : Int))]) (fun k : Nat => [Rd A2 [.int .i64 (f.size : Int), .slice a.D f.data.length a.cD, .slice a.W f.wear.length a.cW, .int .i64 f.limit, .slice a.E f.dead.length a.cE], Rd A3 [.int .i64 x.kind, .int .i64 x.sec, .int .i64 x.at_, .slice XA x.data.length xc], Rd a.D (rowsV a.hs (B8 f.data)), KidsR a.hs (B8 f.data), Rd a.W (I64 f.wear), Rd a.E (Bs f.dead), Rd XA (U8 x.data)]) (fun k : Nat => [Own 5 1 A20 (f.data.getD x.sec.toNat []).length cc20 (U8 (askP (f.data.getD x.sec.toNat []) x.data x.at_.toNat k))]) (fun k : Nat => k ≤ x.data.length) (fun k : Nat => x.data.length - k) 0 (by omega) (by exact Le.mk' (rs := [0, 1, 2, 3, 4, 5, 6]) (hs := [0]) ⟨rfl, rfl, (by simp only [Nat.zero_add]; rfl), rfl, trivial⟩ ⟨rfl, rfl, rfl, rfl, rfl, rfl, rfl, trivial⟩ ⟨(by rw [askP_zero]; simp only [Nat.zero_add]; rfl), trivial⟩ (by decide)) ?_
  intro k hk
  refine C.seq (C.seq (C.region ?_)); refine Lpu rfl rfl ?_; refine L.step (Ev.fieldAddr rfl rfl rfl rfl rfl rfl (Src.r 1 rfl) (Nat.zero_lt_succ _) rfl) rfl ?_; refine L.step (Ev.load rfl rfl rfl (Src.r 1 rfl) rfl) rfl ?_; refine Lpu rfl rfl ?_; refine Lpu rfl rfl ?_; refine L.nil (QE.seq ?_)
  refine C.condB 25 rfl (fun hc25 => ?_) (fun hc25 => ?_)
  ·
   replace hc25 := of_decide_eq_true hc25
   refine C.skip (QE.seq (C.seq (C.block ?_))); refine C.regionM [Rd A2 [.int .i64 (f.size : Int), .slice a.D f.data.length a.cD, .slice a.W f.wear.length a.cW, .int .i64 f.limit, .slice a.E f.dead.length a.cE], Rd A3 [.int .i64 x.kind, .int .i64 x.sec, .int .i64 x.at_, .slice XA x.data.length xc], Rd a.D (rowsV a.hs (B8 f.data)), KidsR a.hs (B8 f.data), Rd a.W (I64 f.wear), Rd a.E (Bs f.dead), Rd XA (U8 x.data), Rd A20 (U8 (askP (f.data.getD x.sec.toNat []) x.data x.at_.toNat k))] ⟨Has.r 0 rfl, Has.r 1 rfl, Has.r 2 rfl, Has.r 3 rfl, Has.r 4 rfl, Has.r 5 rfl, Has.r 6 rfl, Has.o 0 rfl, trivial⟩ ?_; refine LM.q 0 rfl (by kernel_rfl) (Ev.pure rfl) rfl ⟨Has.r 0 rfl, Has.r 1 rfl, Has.r 2 rfl, Has.r 3 rfl, Has.r 4 rfl, Has.r 5 rfl, Has.r 6 rfl, Has.o 0 rfl, trivial⟩ ?_; refine LM.q 1 rfl (by kernel_rfl) (Ev.fieldAddr rfl rfl rfl rfl rfl rfl (Src.r 1 rfl) (Nat.zero_lt_succ _) rfl) rfl ⟨Has.r 0 rfl, Has.r 1 rfl, Has.r 2 rfl, Has.r 3 rfl, Has.r 4 rfl, Has.r 5 rfl, Has.r 6 rfl, Has.o 0 rfl, trivial⟩ ?_; refine LM.q 2 rfl (by kernel_rfl) (Ev.load rfl rfl rfl (Src.r 1 rfl) rfl) rfl ⟨Has.r 0 rfl, Has.r 1 rfl, Has.r 2 rfl, Has.r 3 rfl, Has.r 4 rfl, Has.r 5 rfl, Has.r 6 rfl, Has.o 0 rfl, trivial⟩ ?_; refine LM.q 3 rfl (by kernel_rfl) (Ev.pure rfl) rfl ⟨Has.r 0 rfl, Has.r 1 rfl, Has.r 2 rfl, Has.r 3 rfl, Has.r 4 rfl, Has.r 5 rfl, Has.r 6 rfl, Has.o 0 rfl, trivial⟩ ?_; refine LM.q 4 rfl (by kernel_rfl) (Ev.add rfl rfl (by omega) (by omega)) rfl ⟨Has.r 0 rfl, Has.r 1 rfl, Has.r 2 rfl, Has.r 3 rfl, Has.r 4 rfl, Has.r 5 rfl, Has.r 6 rfl, Has.o 0 rfl, trivial⟩ ?_; refine LM.q 5 rfl (by kernel_rfl) (Ev.idx1 (k := x.at_.toNat + k) rfl rfl rfl rfl rfl rfl (by omega) (by omega) (Src.r 7 rfl) (by rw [U8_len, askP_len]; omega)) rfl ⟨Has.r 0 rfl, Has.r 1 rfl, Has.r 2 rfl, Has.r 3 rfl, Has.r 4 rfl, Has.r 5 rfl, Has.r 6 rfl, Has.o 0 rfl, trivial⟩ ?_; refine LM.q 6 rfl (by kernel_rfl) (Ev.load rfl rfl rfl (Src.r 7 rfl) (U8_get (by rw [askP_len]; omega))) rfl ⟨Has.r 0 rfl, Has.r 1 rfl, Has.r 2 rfl, Has.r 3 rfl, Has.r 4 rfl, Has.r 5 rfl, Has.r 6 rfl, Has.o 0 rfl, trivial⟩ ?_; refine LM.q 7 rfl (by kernel_rfl) (Ev.fieldAddr rfl rfl rfl rfl rfl rfl (Src.r 1 rfl) (Nat.zero_lt_succ _) rfl) rfl ⟨Has.r 0 rfl, Has.r 1 rfl, Has.r 2 rfl, Has.r 3 rfl, Has.r 4 rfl, Has.r 5 rfl, Has.r 6 rfl, Has.o 0 rfl, trivial⟩ ?_; refine LM.q 8 rfl (by kernel_rfl) (Ev.load rfl rfl rfl (Src.r 1 rfl) rfl) rfl ⟨Has.r 0 rfl, Has.r 1 rfl, Has.r 2 rfl, Has.r 3 rfl, Has.r 4 rfl, Has.r 5 rfl, Has.r 6 rfl, Has.o 0 rfl, trivial⟩ ?_; refine LM.f 9 rfl (by kernel_rfl) ⟨Has.r 0 rfl, Has.r 1 rfl, Has.r 2 rfl, Has.r 3 rfl, Has.r 4 rfl, Has.r 5 rfl, Has.r 6 rfl, Has.o 0 rfl, trivial⟩ ?_; refine Lpu rfl rfl ?_
   refine L.nil (QE.m (by kernel_rfl) ?_)
   refine LM.f 10 rfl (by kernel_rfl) ⟨Has.r 0 rfl, Has.r 1 rfl, Has.r 2 rfl, Has.r 3 rfl, Has.r 4 rfl, Has.r 5 rfl, Has.r 6 rfl, Has.o 0 rfl, trivial⟩ ?_; refine L.step (Ev.idx1 (k := k) rfl rfl rfl rfl rfl rfl rfl (by omega) (Src.r 6 rfl) (by rw [U8_len]; omega)) rfl ?_
   refine L.nil (QE.m (by kernel_rfl) ?_)
   refine LM.f 11 rfl (by kernel_rfl) ⟨Has.r 0 rfl, Has.r 1 rfl, Has.r 2 rfl, Has.r 3 rfl, Has.r 4 rfl, Has.r 5 rfl, Has.r 6 rfl, Has.o 0 rfl, trivial⟩ ?_; refine L.step (Ev.load rfl rfl rfl (Src.r 6 rfl) (U8_get (by omega))) rfl ?_
   refine L.nil (QE.m (by kernel_rfl) ?_)
   refine LM.cut [] (by kernel_rfl) ⟨Has.r 0 rfl, Has.r 1 rfl, Has.r 2 rfl, Has.r 3 rfl, Has.r 4 rfl, Has.r 5 rfl, Has.r 6 rfl, Has.o 0 rfl, trivial⟩ ?_; refine LM.f 12 rfl (by kernel_rfl) trivial ?_
   first | refine L.step (Ev.and8 rfl rfl) rfl ?_ | refine L.step (Ev.pure rfl) rfl ?_
   refine L.nil (QE.m (by kernel_rfl) ?_)
   refine LM.f 13 rfl (by kernel_rfl) trivial ?_; refine L.step (Ev.idx1 (k := x.at_.toNat + k) rfl rfl rfl rfl rfl rfl (by omega) (by omega) (Src.o 0 rfl) (by rw [U8_len, askP_len]; omega)) rfl ?_
   refine L.nil (QE.m (by kernel_rfl) ?_)
   refine LM.f 14 rfl (by kernel_rfl) trivial ?_; refine L.store (j := 0) rfl rfl rfl rfl rfl rfl rfl (by exact U8_get (by rw [askP_len]; omega)) ?_
   refine L.nil (QE.m (by kernel_rfl) ?_)
   refine LM.nil (by kernel_rfl) trivial ?_; refine QE.blkN ?_; refine QE.seq (C.region ?_); refine Lpu rfl rfl ?_; refine L.step (Ev.add rfl rfl (by omega) (by omega)) rfl ?_; refine Lpu rfl rfl ?_; refine L.nil ?_
   refine QE.round (k + 1) (by omega) (by omega) (by exact Le.mk' (rs := [0, 1, 2, 3, 4, 5, 6]) (hs := [0]) ⟨rfl, rfl, rfl, rfl, trivial⟩ ⟨rfl, rfl, rfl, rfl, rfl, rfl, rfl, trivial⟩ ⟨(by simp only [List.set_cons_zero, List.getElem?_cons_zero]; rw [U8_set, askP_get (by omega), askP_set (by omega)]), trivial⟩ (by decide))
  ·
   replace hc25 := of_decide_eq_false hc25
   refine C.exit ?_; refine QE.tX ?_; refine QE.tX ?_; refine QE.blk ?_; refine QE.seq (C.seq (C.region ?_)); refine Lpu rfl rfl ?_; refine Lpu rfl rfl ?_; refine L.nil (QE.seq (C.ret ?_)); refine QE.ret (js := []) (hs := [0]) (vs := [_]) rfl ⟨rfl, trivial⟩ (by decide) ?_
   obtain rfl : k = x.data.length := by omega
   rw [askP_all (by omega) (by omega) hrow, hrow]
   exact ⟨A20, cc20, rfl, rfl, rfl⟩

end Go.Proofs.Ytmbjknampholjaa
