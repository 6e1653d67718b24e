/-
  The contracts of the reference functions Copied, Asked, Cut, Do.
-/
import Derived.Test.YthfjkdgopkmgoaaWFlE
namespace Go.Proofs.Ythfjkdgopkmgoaa
open Go.Sl

theorem cut_post {f : Fl} {x : Fo} {mk : Nat → UInt8} {b : Fa} {k : Nat} {WV : List Value} (_ok : f.Ok) (hE : checkE f x = 0) (hb : b.hs.length = f.data.length) (hrow : (f.data.getD x.sec.toNat []).length = f.size) (hs : x.sec.toNat < f.data.length) (hk : k ≤ f.size)
    (hz : ∀ i, k ≤ i → i < f.size → mk i = 0) (hW : WV = I64 (cutF f x mk).wear) :
    ∃ b' : Fa, b'.hs.length = (cutR f x mk).data.length ∧ Value.tuple #[.agg (List.toArray [.int .i64 (f.size : Int), .slice b.D f.data.length b.cD, .slice b.W f.wear.length b.cW, .int .i64 f.limit, .slice b.E f.dead.length b.cE]), .int .i64 0] = .tuple #[flV (cutR f x mk) b', .int .i64 (checkE f x)] ∧
      [Rd b.D (rowsV b.hs (B8 f.data)), KidsR b.hs (B8 (f.data.set x.sec.toNat (prow (rowB f x mk) (f.data.getD x.sec.toNat []) k))), Rd b.W WV, Rd b.E (Bs f.dead)] = flR (cutR f x mk) b' ∧ ([] : List Pr) = [] := by
  have e1 : prow (rowB f x mk) (f.data.getD x.sec.toNat []) k = rowF f x mk := by
    rw [prow_end (d := 0) (by omega) (fun i h1 h2 => by unfold rowB; rw [hz i h1 (by omega), mixB_zero]), hrow]
    rfl
  have e2 : rowsV b.hs (B8 (cutF f x mk).data) = rowsV b.hs (B8 f.data) := rowsV_set hb hs (by rw [rowF_len, hrow])
  refine ⟨b, by rw [cutR_ok hE, cutF_data]; exact hb, ?_, ?_, rfl⟩
  · rw [cutR_ok hE, hE]
    show _ = Value.tuple #[.agg (List.toArray [.int .i64 (f.size : Int), .slice b.D (cutF f x mk).data.length b.cD, .slice b.W (cutF f x mk).wear.length b.cW, .int .i64 f.limit, .slice b.E f.dead.length b.cE]), .int .i64 0]
    rw [cutF_data, cutF_wear]
  · rw [cutR_ok hE]
    show _ = [Rd b.D (rowsV b.hs (B8 (cutF f x mk).data)), KidsR b.hs (B8 (cutF f x mk).data), Rd b.W (I64 (cutF f x mk).wear), Rd b.E (Bs f.dead)]
    rw [e1, hW, e2]
    rfl

theorem copied_c (f : Fl) (a : Fa) (ok : f.Ok) (hh : a.hs.length = f.data.length) :
    Ctr X 51 [.agg (List.toArray [.int .i64 (f.size : Int), .slice a.D f.data.length a.cD, .slice a.W f.wear.length a.cW, .int .i64 f.limit, .slice a.E f.dead.length a.cE])] [Rd a.D (rowsV a.hs (B8 f.data)), KidsR a.hs (B8 f.data), Rd a.W (I64 f.wear), Rd a.E (Bs f.dead)] [] (fun v R' H' => ∃ b : Fa, v = flV f b ∧ R' = [] ∧ H' = flO f b ∧ b.hs.length = f.data.length) := by
  obtain ⟨os1, os2, on1, on2, owl, odl, orows, ol1, ol2, owear⟩ := ok
  refine Ctr.of (X := X) (fn := Try.f51) Try.func51 rfl (by kernel_rfl) rfl ?_
  intro β
  refine C.seq ?_
  refine C.region ?_
  refine L.boxA rfl rfl (fun A1 => ?_)
  refine L.alloc rfl rfl rfl (fun A2 => ?_)
  refine L.nil ?_
  refine QE.seq ?_
  refine C.seq ?_
  refine C.freeze 0 rfl [1] (by decide) (by decide) ?_
  refine C.join (fun q : Option Addr × Option Addr × Nat × Option Addr × Nat => [(0, .agg (List.toArray [.int .i64 (f.size : Int), .slice a.D f.data.length a.cD, .slice a.W f.wear.length a.cW, .int .i64 f.limit, .slice a.E f.dead.length a.cE])), (1, ptrOf A1 0), (2, ptrOf A2 0), (3, ptrOf q.1 0)]) (fun q : Option Addr × Option Addr × Nat × Option Addr × Nat => [Rd A1 [.int .i64 (f.size : Int), .slice a.D f.data.length a.cD, .slice a.W f.wear.length a.cW, .int .i64 f.limit, .slice a.E f.dead.length a.cE], Rd a.D (rowsV a.hs (B8 f.data)), KidsR a.hs (B8 f.data), Rd a.W (I64 f.wear), Rd a.E (Bs f.dead)]) (fun q : Option Addr × Option Addr × Nat × Option Addr × Nat => [Own 32 5 A2 1 1 [.int .i64 0, .slice none 0 0, .slice none 0 0, .int .i64 0, .slice none 0 0], Own 32 5 q.1 1 1 [.int .i64 (f.size : Int), .slice none 0 0, .slice q.2.1 f.wear.length q.2.2.1, .int .i64 f.limit, .slice q.2.2.2.1 f.dead.length q.2.2.2.2], Own 3 1 q.2.1 f.wear.length q.2.2.1 (I64 f.wear), Own 4 1 q.2.2.2.1 f.dead.length q.2.2.2.2 (Bs f.dead)]) (fun q : Option Addr × Option Addr × Nat × Option Addr × Nat => True) ?_ ?_
  · skip
    refine C.regionM [Rd A1 [.int .i64 (f.size : Int), .slice a.D f.data.length a.cD, .slice a.W f.wear.length a.cW, .int .i64 f.limit, .slice a.E f.dead.length a.cE], Rd a.D (rowsV a.hs (B8 f.data)), KidsR a.hs (B8 f.data), Rd a.W (I64 f.wear), Rd a.E (Bs f.dead)] ⟨Has.r 0 rfl, Has.r 1 rfl, Has.r 2 rfl, Has.r 3 rfl, Has.r 4 rfl, trivial⟩ ?_
    refine LM.q 0 rfl (by kernel_rfl) (Ev.fieldAddr rfl rfl rfl rfl rfl rfl (Src.r 0 rfl) (Nat.zero_lt_succ _) rfl) rfl ⟨Has.r 0 rfl, Has.r 1 rfl, Has.r 2 rfl, Has.r 3 rfl, Has.r 4 rfl, trivial⟩ ?_
    refine LM.q 1 rfl (by kernel_rfl) (Ev.load rfl rfl rfl (Src.r 0 rfl) rfl) rfl ⟨Has.r 0 rfl, Has.r 1 rfl, Has.r 2 rfl, Has.r 3 rfl, Has.r 4 rfl, trivial⟩ ?_
    refine LM.q 2 rfl (by kernel_rfl) (Ev.fieldAddr rfl rfl rfl rfl rfl rfl (Src.r 0 rfl) (Nat.zero_lt_succ _) rfl) rfl ⟨Has.r 0 rfl, Has.r 1 rfl, Has.r 2 rfl, Has.r 3 rfl, Has.r 4 rfl, trivial⟩ ?_
    refine LM.q 3 rfl (by kernel_rfl) (Ev.load rfl rfl rfl (Src.r 0 rfl) rfl) rfl ⟨Has.r 0 rfl, Has.r 1 rfl, Has.r 2 rfl, Has.r 3 rfl, Has.r 4 rfl, trivial⟩ ?_
    refine LM.q 5 rfl (by kernel_rfl) (Ev.fieldAddr rfl rfl rfl rfl rfl rfl (Src.r 0 rfl) (Nat.zero_lt_succ _) rfl) rfl ⟨Has.r 0 rfl, Has.r 1 rfl, Has.r 2 rfl, Has.r 3 rfl, Has.r 4 rfl, trivial⟩ ?_
    refine LM.q 6 rfl (by kernel_rfl) (Ev.load rfl rfl rfl (Src.r 0 rfl) rfl) rfl ⟨Has.r 0 rfl, Has.r 1 rfl, Has.r 2 rfl, Has.r 3 rfl, Has.r 4 rfl, trivial⟩ ?_
    refine LM.q 9 rfl (by kernel_rfl) (Ev.fieldAddr rfl rfl rfl rfl rfl rfl (Src.r 0 rfl) (Nat.zero_lt_succ _) rfl) rfl ⟨Has.r 0 rfl, Has.r 1 rfl, Has.r 2 rfl, Has.r 3 rfl, Has.r 4 rfl, trivial⟩ ?_
    refine LM.q 10 rfl (by kernel_rfl) (Ev.load rfl rfl rfl (Src.r 0 rfl) rfl) rfl ⟨Has.r 0 rfl, Has.r 1 rfl, Has.r 2 rfl, Has.r 3 rfl, Has.r 4 rfl, trivial⟩ ?_
    refine LM.alt [4, 8, 13] (by kernel_rfl) (by decide) ⟨Has.r 0 rfl, Has.r 1 rfl, Has.r 2 rfl, Has.r 3 rfl, Has.r 4 rfl, trivial⟩ ⟨⟨_, rfl, ?_⟩, ⟨_, rfl, ?_⟩, ⟨_, rfl, ?_⟩, trivial⟩
    · skip
      refine L.lit rfl rfl rfl rfl rfl (by rfl) (by rfl) (by rfl) rfl rfl (fun A9 => ?_)
      refine L.nil (QE.m (by kernel_rfl) ?_)
      refine LM.alt [7, 8, 13] (by kernel_rfl) (by decide) ⟨Has.r 0 rfl, Has.r 1 rfl, Has.r 2 rfl, Has.r 3 rfl, Has.r 4 rfl, trivial⟩ ⟨⟨_, rfl, ?_⟩, ⟨_, rfl, ?_⟩, ⟨_, rfl, ?_⟩, trivial⟩
      · skip
        refine L.append (j := 1) rfl rfl rfl rfl (by decide) rfl rfl rfl rfl (Src.r 3 rfl) (by rw [I64_len]; exact (Nat.mul_one _).symm) (I64_one _) (by omega) (by show _ * 8 ≤ _; omega) rfl (fun A12 cc12 => ?_)
        refine L.nil (QE.m (by kernel_rfl) ?_)
        refine LM.alt [8, 13] (by kernel_rfl) (by decide) ⟨Has.r 0 rfl, Has.r 1 rfl, Has.r 2 rfl, Has.r 3 rfl, Has.r 4 rfl, trivial⟩ ⟨⟨_, rfl, ?_⟩, ⟨_, rfl, ?_⟩, trivial⟩
        · skip
          refine L.lit rfl rfl rfl rfl rfl (by rfl) (by rfl) (by rfl) rfl rfl (fun A13 => ?_)
          refine L.nil (QE.m (by kernel_rfl) ?_)
          refine LM.alt [11, 13] (by kernel_rfl) (by decide) ⟨Has.r 0 rfl, Has.r 1 rfl, Has.r 2 rfl, Has.r 3 rfl, Has.r 4 rfl, trivial⟩ ⟨⟨_, rfl, ?_⟩, ⟨_, rfl, ?_⟩, trivial⟩
          · skip
            refine L.append (j := 2) rfl rfl rfl rfl (by decide) rfl rfl rfl rfl (Src.r 4 rfl) (by rw [Bs_len]; exact (Nat.mul_one _).symm) (Bs_one _) (by omega) (by show _ * 1 ≤ _; omega) rfl (fun A16 cc16 => ?_)
            refine L.nil (QE.m (by kernel_rfl) ?_)
            refine LM.q 12 rfl (by kernel_rfl) (Ev.build rfl rfl rfl rfl rfl rfl rfl) rfl ⟨Has.r 0 rfl, Has.r 1 rfl, Has.r 2 rfl, Has.r 3 rfl, Has.r 4 rfl, trivial⟩ ?_
            refine LM.f 13 rfl (by kernel_rfl) ⟨Has.r 0 rfl, Has.r 1 rfl, Has.r 2 rfl, Has.r 3 rfl, Has.r 4 rfl, trivial⟩ ?_
            refine L.alloc rfl rfl rfl (fun A3 => ?_)
            refine L.nil (QE.m (by kernel_rfl) ?_)
            refine LM.cut [] (by kernel_rfl) ⟨Has.r 0 rfl, Has.r 1 rfl, Has.r 2 rfl, Has.r 3 rfl, Has.r 4 rfl, trivial⟩ ?_
            refine LM.f 14 rfl (by kernel_rfl) trivial ?_
            refine L.storeA (j := 3) rfl rfl rfl rfl rfl (Nat.zero_lt_succ _) rfl rfl ?_
            refine L.nil (QE.m (by kernel_rfl) ?_)
            refine LM.nil (by kernel_rfl) trivial ?_
            refine QE.joined ((A3, A12, cc12, A16, cc16)) (by exact trivial) (by exact Le.mk' (rs := [0, 1, 2, 3, 4]) (hs := [0, 3, 1, 2]) ⟨rfl, rfl, rfl, rfl, trivial⟩ ⟨rfl, rfl, rfl, rfl, rfl, trivial⟩ ⟨rfl, (by simp only [Nat.zero_add]; rfl), (by simp only [Nat.zero_add]; rfl), (by simp only [Nat.zero_add]; rfl), trivial⟩ (by decide))
          · skip
            refine L.alloc rfl rfl rfl (fun A3 => ?_)
            refine L.nil (QE.m (by kernel_rfl) ?_)
            refine LM.f 11 rfl (by kernel_rfl) ⟨Has.r 0 rfl, Has.r 1 rfl, Has.r 2 rfl, Has.r 3 rfl, Has.r 4 rfl, trivial⟩ ?_
            refine L.append (j := 2) rfl rfl rfl rfl (by decide) rfl rfl rfl rfl (Src.r 4 rfl) (by rw [Bs_len]; exact (Nat.mul_one _).symm) (Bs_one _) (by omega) (by show _ * 1 ≤ _; omega) rfl (fun A16 cc16 => ?_)
            refine L.nil (QE.m (by kernel_rfl) ?_)
            refine LM.f 12 rfl (by kernel_rfl) ⟨Has.r 0 rfl, Has.r 1 rfl, Has.r 2 rfl, Has.r 3 rfl, Has.r 4 rfl, trivial⟩ ?_
            refine L.step (Ev.build rfl rfl rfl rfl rfl rfl rfl) rfl ?_
            refine L.nil (QE.m (by kernel_rfl) ?_)
            refine LM.cut [] (by kernel_rfl) ⟨Has.r 0 rfl, Has.r 1 rfl, Has.r 2 rfl, Has.r 3 rfl, Has.r 4 rfl, trivial⟩ ?_
            refine LM.f 14 rfl (by kernel_rfl) trivial ?_
            refine L.storeA (j := 3) rfl rfl rfl rfl rfl (Nat.zero_lt_succ _) rfl rfl ?_
            refine L.nil (QE.m (by kernel_rfl) ?_)
            refine LM.nil (by kernel_rfl) trivial ?_
            refine QE.joined ((A3, A12, cc12, A16, cc16)) (by exact trivial) (by exact Le.mk' (rs := [0, 1, 2, 3, 4]) (hs := [0, 3, 1, 2]) ⟨rfl, rfl, rfl, rfl, trivial⟩ ⟨rfl, rfl, rfl, rfl, rfl, trivial⟩ ⟨rfl, (by simp only [Nat.zero_add]; rfl), (by simp only [Nat.zero_add]; rfl), (by simp only [Nat.zero_add]; rfl), trivial⟩ (by decide))
        · skip
          refine L.alloc rfl rfl rfl (fun A3 => ?_)
          refine L.nil (QE.m (by kernel_rfl) ?_)
          refine LM.f 8 rfl (by kernel_rfl) ⟨Has.r 0 rfl, Has.r 1 rfl, Has.r 2 rfl, Has.r 3 rfl, Has.r 4 rfl, trivial⟩ ?_
          refine L.lit rfl rfl rfl rfl rfl (by rfl) (by rfl) (by rfl) rfl rfl (fun A13 => ?_)
          refine L.nil (QE.m (by kernel_rfl) ?_)
          refine LM.f 11 rfl (by kernel_rfl) ⟨Has.r 0 rfl, Has.r 1 rfl, Has.r 2 rfl, Has.r 3 rfl, Has.r 4 rfl, trivial⟩ ?_
          refine L.append (j := 3) rfl rfl rfl rfl (by decide) rfl rfl rfl rfl (Src.r 4 rfl) (by rw [Bs_len]; exact (Nat.mul_one _).symm) (Bs_one _) (by omega) (by show _ * 1 ≤ _; omega) rfl (fun A16 cc16 => ?_)
          refine L.nil (QE.m (by kernel_rfl) ?_)
          refine LM.f 12 rfl (by kernel_rfl) ⟨Has.r 0 rfl, Has.r 1 rfl, Has.r 2 rfl, Has.r 3 rfl, Has.r 4 rfl, trivial⟩ ?_
          refine L.step (Ev.build rfl rfl rfl rfl rfl rfl rfl) rfl ?_
          refine L.nil (QE.m (by kernel_rfl) ?_)
          refine LM.cut [] (by kernel_rfl) ⟨Has.r 0 rfl, Has.r 1 rfl, Has.r 2 rfl, Has.r 3 rfl, Has.r 4 rfl, trivial⟩ ?_
          refine LM.f 14 rfl (by kernel_rfl) trivial ?_
          refine L.storeA (j := 2) rfl rfl rfl rfl rfl (Nat.zero_lt_succ _) rfl rfl ?_
          refine L.nil (QE.m (by kernel_rfl) ?_)
          refine LM.nil (by kernel_rfl) trivial ?_
          refine QE.joined ((A3, A12, cc12, A16, cc16)) (by exact trivial) (by exact Le.mk' (rs := [0, 1, 2, 3, 4]) (hs := [0, 2, 1, 3]) ⟨rfl, rfl, rfl, rfl, trivial⟩ ⟨rfl, rfl, rfl, rfl, rfl, trivial⟩ ⟨rfl, (by simp only [Nat.zero_add]; rfl), (by simp only [Nat.zero_add]; rfl), (by simp only [Nat.zero_add]; rfl), trivial⟩ (by decide))
      · skip
        refine L.lit rfl rfl rfl rfl rfl (by rfl) (by rfl) (by rfl) rfl rfl (fun A13 => ?_)
        refine L.nil (QE.m (by kernel_rfl) ?_)
        refine LM.alt [7, 13] (by kernel_rfl) (by decide) ⟨Has.r 0 rfl, Has.r 1 rfl, Has.r 2 rfl, Has.r 3 rfl, Has.r 4 rfl, trivial⟩ ⟨⟨_, rfl, ?_⟩, ⟨_, rfl, ?_⟩, trivial⟩
        · skip
          refine L.append (j := 1) rfl rfl rfl rfl (by decide) rfl rfl rfl rfl (Src.r 3 rfl) (by rw [I64_len]; exact (Nat.mul_one _).symm) (I64_one _) (by omega) (by show _ * 8 ≤ _; omega) rfl (fun A12 cc12 => ?_)
          refine L.nil (QE.m (by kernel_rfl) ?_)
          refine LM.alt [11, 13] (by kernel_rfl) (by decide) ⟨Has.r 0 rfl, Has.r 1 rfl, Has.r 2 rfl, Has.r 3 rfl, Has.r 4 rfl, trivial⟩ ⟨⟨_, rfl, ?_⟩, ⟨_, rfl, ?_⟩, trivial⟩
          · skip
            refine L.append (j := 2) rfl rfl rfl rfl (by decide) rfl rfl rfl rfl (Src.r 4 rfl) (by rw [Bs_len]; exact (Nat.mul_one _).symm) (Bs_one _) (by omega) (by show _ * 1 ≤ _; omega) rfl (fun A16 cc16 => ?_)
            refine L.nil (QE.m (by kernel_rfl) ?_)
            refine LM.q 12 rfl (by kernel_rfl) (Ev.build rfl rfl rfl rfl rfl rfl rfl) rfl ⟨Has.r 0 rfl, Has.r 1 rfl, Has.r 2 rfl, Has.r 3 rfl, Has.r 4 rfl, trivial⟩ ?_
            refine LM.f 13 rfl (by kernel_rfl) ⟨Has.r 0 rfl, Has.r 1 rfl, Has.r 2 rfl, Has.r 3 rfl, Has.r 4 rfl, trivial⟩ ?_
            refine L.alloc rfl rfl rfl (fun A3 => ?_)
            refine L.nil (QE.m (by kernel_rfl) ?_)
            refine LM.cut [] (by kernel_rfl) ⟨Has.r 0 rfl, Has.r 1 rfl, Has.r 2 rfl, Has.r 3 rfl, Has.r 4 rfl, trivial⟩ ?_
            refine LM.f 14 rfl (by kernel_rfl) trivial ?_
            refine L.storeA (j := 3) rfl rfl rfl rfl rfl (Nat.zero_lt_succ _) rfl rfl ?_
            refine L.nil (QE.m (by kernel_rfl) ?_)
            refine LM.nil (by kernel_rfl) trivial ?_
            refine QE.joined ((A3, A12, cc12, A16, cc16)) (by exact trivial) (by exact Le.mk' (rs := [0, 1, 2, 3, 4]) (hs := [0, 3, 1, 2]) ⟨rfl, rfl, rfl, rfl, trivial⟩ ⟨rfl, rfl, rfl, rfl, rfl, trivial⟩ ⟨rfl, (by simp only [Nat.zero_add]; rfl), (by simp only [Nat.zero_add]; rfl), (by simp only [Nat.zero_add]; rfl), trivial⟩ (by decide))
          · skip
            refine L.alloc rfl rfl rfl (fun A3 => ?_)
            refine L.nil (QE.m (by kernel_rfl) ?_)
            refine LM.f 11 rfl (by kernel_rfl) ⟨Has.r 0 rfl, Has.r 1 rfl, Has.r 2 rfl, Has.r 3 rfl, Has.r 4 rfl, trivial⟩ ?_
            refine L.append (j := 2) rfl rfl rfl rfl (by decide) rfl rfl rfl rfl (Src.r 4 rfl) (by rw [Bs_len]; exact (Nat.mul_one _).symm) (Bs_one _) (by omega) (by show _ * 1 ≤ _; omega) rfl (fun A16 cc16 => ?_)
            refine L.nil (QE.m (by kernel_rfl) ?_)
            refine LM.f 12 rfl (by kernel_rfl) ⟨Has.r 0 rfl, Has.r 1 rfl, Has.r 2 rfl, Has.r 3 rfl, Has.r 4 rfl, trivial⟩ ?_
            refine L.step (Ev.build rfl rfl rfl rfl rfl rfl rfl) rfl ?_
            refine L.nil (QE.m (by kernel_rfl) ?_)
            refine LM.cut [] (by kernel_rfl) ⟨Has.r 0 rfl, Has.r 1 rfl, Has.r 2 rfl, Has.r 3 rfl, Has.r 4 rfl, trivial⟩ ?_
            refine LM.f 14 rfl (by kernel_rfl) trivial ?_
            refine L.storeA (j := 3) rfl rfl rfl rfl rfl (Nat.zero_lt_succ _) rfl rfl ?_
            refine L.nil (QE.m (by kernel_rfl) ?_)
            refine LM.nil (by kernel_rfl) trivial ?_
            refine QE.joined ((A3, A12, cc12, A16, cc16)) (by exact trivial) (by exact Le.mk' (rs := [0, 1, 2, 3, 4]) (hs := [0, 3, 1, 2]) ⟨rfl, rfl, rfl, rfl, trivial⟩ ⟨rfl, rfl, rfl, rfl, rfl, trivial⟩ ⟨rfl, (by simp only [Nat.zero_add]; rfl), (by simp only [Nat.zero_add]; rfl), (by simp only [Nat.zero_add]; rfl), trivial⟩ (by decide))
        · skip
          refine L.alloc rfl rfl rfl (fun A3 => ?_)
          refine L.nil (QE.m (by kernel_rfl) ?_)
          refine LM.f 7 rfl (by kernel_rfl) ⟨Has.r 0 rfl, Has.r 1 rfl, Has.r 2 rfl, Has.r 3 rfl, Has.r 4 rfl, trivial⟩ ?_
          refine L.append (j := 1) rfl rfl rfl rfl (by decide) rfl rfl rfl rfl (Src.r 3 rfl) (by rw [I64_len]; exact (Nat.mul_one _).symm) (I64_one _) (by omega) (by show _ * 8 ≤ _; omega) rfl (fun A12 cc12 => ?_)
          refine L.nil (QE.m (by kernel_rfl) ?_)
          refine LM.f 11 rfl (by kernel_rfl) ⟨Has.r 0 rfl, Has.r 1 rfl, Has.r 2 rfl, Has.r 3 rfl, Has.r 4 rfl, trivial⟩ ?_
          refine L.append (j := 2) rfl rfl rfl rfl (by decide) rfl rfl rfl rfl (Src.r 4 rfl) (by rw [Bs_len]; exact (Nat.mul_one _).symm) (Bs_one _) (by omega) (by show _ * 1 ≤ _; omega) rfl (fun A16 cc16 => ?_)
          refine L.nil (QE.m (by kernel_rfl) ?_)
          refine LM.f 12 rfl (by kernel_rfl) ⟨Has.r 0 rfl, Has.r 1 rfl, Has.r 2 rfl, Has.r 3 rfl, Has.r 4 rfl, trivial⟩ ?_
          refine L.step (Ev.build rfl rfl rfl rfl rfl rfl rfl) rfl ?_
          refine L.nil (QE.m (by kernel_rfl) ?_)
          refine LM.cut [] (by kernel_rfl) ⟨Has.r 0 rfl, Has.r 1 rfl, Has.r 2 rfl, Has.r 3 rfl, Has.r 4 rfl, trivial⟩ ?_
          refine LM.f 14 rfl (by kernel_rfl) trivial ?_
          refine L.storeA (j := 3) rfl rfl rfl rfl rfl (Nat.zero_lt_succ _) rfl rfl ?_
          refine L.nil (QE.m (by kernel_rfl) ?_)
          refine LM.nil (by kernel_rfl) trivial ?_
          refine QE.joined ((A3, A12, cc12, A16, cc16)) (by exact trivial) (by exact Le.mk' (rs := [0, 1, 2, 3, 4]) (hs := [0, 3, 1, 2]) ⟨rfl, rfl, rfl, rfl, trivial⟩ ⟨rfl, rfl, rfl, rfl, rfl, trivial⟩ ⟨rfl, (by simp only [Nat.zero_add]; rfl), (by simp only [Nat.zero_add]; rfl), (by simp only [Nat.zero_add]; rfl), trivial⟩ (by decide))
      · skip
        refine L.alloc rfl rfl rfl (fun A3 => ?_)
        refine L.nil (QE.m (by kernel_rfl) ?_)
        refine LM.alt [7, 8] (by kernel_rfl) (by decide) ⟨Has.r 0 rfl, Has.r 1 rfl, Has.r 2 rfl, Has.r 3 rfl, Has.r 4 rfl, trivial⟩ ⟨⟨_, rfl, ?_⟩, ⟨_, rfl, ?_⟩, trivial⟩
        · skip
          refine L.append (j := 1) rfl rfl rfl rfl (by decide) rfl rfl rfl rfl (Src.r 3 rfl) (by rw [I64_len]; exact (Nat.mul_one _).symm) (I64_one _) (by omega) (by show _ * 8 ≤ _; omega) rfl (fun A12 cc12 => ?_)
          refine L.nil (QE.m (by kernel_rfl) ?_)
          refine LM.f 8 rfl (by kernel_rfl) ⟨Has.r 0 rfl, Has.r 1 rfl, Has.r 2 rfl, Has.r 3 rfl, Has.r 4 rfl, trivial⟩ ?_
          refine L.lit rfl rfl rfl rfl rfl (by rfl) (by rfl) (by rfl) rfl rfl (fun A13 => ?_)
          refine L.nil (QE.m (by kernel_rfl) ?_)
          refine LM.f 11 rfl (by kernel_rfl) ⟨Has.r 0 rfl, Has.r 1 rfl, Has.r 2 rfl, Has.r 3 rfl, Has.r 4 rfl, trivial⟩ ?_
          refine L.append (j := 3) rfl rfl rfl rfl (by decide) rfl rfl rfl rfl (Src.r 4 rfl) (by rw [Bs_len]; exact (Nat.mul_one _).symm) (Bs_one _) (by omega) (by show _ * 1 ≤ _; omega) rfl (fun A16 cc16 => ?_)
          refine L.nil (QE.m (by kernel_rfl) ?_)
          refine LM.f 12 rfl (by kernel_rfl) ⟨Has.r 0 rfl, Has.r 1 rfl, Has.r 2 rfl, Has.r 3 rfl, Has.r 4 rfl, trivial⟩ ?_
          refine L.step (Ev.build rfl rfl rfl rfl rfl rfl rfl) rfl ?_
          refine L.nil (QE.m (by kernel_rfl) ?_)
          refine LM.cut [] (by kernel_rfl) ⟨Has.r 0 rfl, Has.r 1 rfl, Has.r 2 rfl, Has.r 3 rfl, Has.r 4 rfl, trivial⟩ ?_
          refine LM.f 14 rfl (by kernel_rfl) trivial ?_
          refine L.storeA (j := 2) rfl rfl rfl rfl rfl (Nat.zero_lt_succ _) rfl rfl ?_
          refine L.nil (QE.m (by kernel_rfl) ?_)
          refine LM.nil (by kernel_rfl) trivial ?_
          refine QE.joined ((A3, A12, cc12, A16, cc16)) (by exact trivial) (by exact Le.mk' (rs := [0, 1, 2, 3, 4]) (hs := [0, 2, 1, 3]) ⟨rfl, rfl, rfl, rfl, trivial⟩ ⟨rfl, rfl, rfl, rfl, rfl, trivial⟩ ⟨rfl, (by simp only [Nat.zero_add]; rfl), (by simp only [Nat.zero_add]; rfl), (by simp only [Nat.zero_add]; rfl), trivial⟩ (by decide))
        · skip
          refine L.lit rfl rfl rfl rfl rfl (by rfl) (by rfl) (by rfl) rfl rfl (fun A13 => ?_)
          refine L.nil (QE.m (by kernel_rfl) ?_)
          refine LM.f 7 rfl (by kernel_rfl) ⟨Has.r 0 rfl, Has.r 1 rfl, Has.r 2 rfl, Has.r 3 rfl, Has.r 4 rfl, trivial⟩ ?_
          refine L.append (j := 1) rfl rfl rfl rfl (by decide) rfl rfl rfl rfl (Src.r 3 rfl) (by rw [I64_len]; exact (Nat.mul_one _).symm) (I64_one _) (by omega) (by show _ * 8 ≤ _; omega) rfl (fun A12 cc12 => ?_)
          refine L.nil (QE.m (by kernel_rfl) ?_)
          refine LM.f 11 rfl (by kernel_rfl) ⟨Has.r 0 rfl, Has.r 1 rfl, Has.r 2 rfl, Has.r 3 rfl, Has.r 4 rfl, trivial⟩ ?_
          refine L.append (j := 3) rfl rfl rfl rfl (by decide) rfl rfl rfl rfl (Src.r 4 rfl) (by rw [Bs_len]; exact (Nat.mul_one _).symm) (Bs_one _) (by omega) (by show _ * 1 ≤ _; omega) rfl (fun A16 cc16 => ?_)
          refine L.nil (QE.m (by kernel_rfl) ?_)
          refine LM.f 12 rfl (by kernel_rfl) ⟨Has.r 0 rfl, Has.r 1 rfl, Has.r 2 rfl, Has.r 3 rfl, Has.r 4 rfl, trivial⟩ ?_
          refine L.step (Ev.build rfl rfl rfl rfl rfl rfl rfl) rfl ?_
          refine L.nil (QE.m (by kernel_rfl) ?_)
          refine LM.cut [] (by kernel_rfl) ⟨Has.r 0 rfl, Has.r 1 rfl, Has.r 2 rfl, Has.r 3 rfl, Has.r 4 rfl, trivial⟩ ?_
          refine LM.f 14 rfl (by kernel_rfl) trivial ?_
          refine L.storeA (j := 2) rfl rfl rfl rfl rfl (Nat.zero_lt_succ _) rfl rfl ?_
          refine L.nil (QE.m (by kernel_rfl) ?_)
          refine LM.nil (by kernel_rfl) trivial ?_
          refine QE.joined ((A3, A12, cc12, A16, cc16)) (by exact trivial) (by exact Le.mk' (rs := [0, 1, 2, 3, 4]) (hs := [0, 2, 1, 3]) ⟨rfl, rfl, rfl, rfl, trivial⟩ ⟨rfl, rfl, rfl, rfl, rfl, trivial⟩ ⟨rfl, (by simp only [Nat.zero_add]; rfl), (by simp only [Nat.zero_add]; rfl), (by simp only [Nat.zero_add]; rfl), trivial⟩ (by decide))
    · skip
      refine L.lit rfl rfl rfl rfl rfl (by rfl) (by rfl) (by rfl) rfl rfl (fun A13 => ?_)
      refine L.nil (QE.m (by kernel_rfl) ?_)
      refine LM.alt [4, 13] (by kernel_rfl) (by decide) ⟨Has.r 0 rfl, Has.r 1 rfl, Has.r 2 rfl, Has.r 3 rfl, Has.r 4 rfl, trivial⟩ ⟨⟨_, rfl, ?_⟩, ⟨_, rfl, ?_⟩, trivial⟩
      · skip
        refine L.lit rfl rfl rfl rfl rfl (by rfl) (by rfl) (by rfl) rfl rfl (fun A9 => ?_)
        refine L.nil (QE.m (by kernel_rfl) ?_)
        refine LM.alt [7, 13] (by kernel_rfl) (by decide) ⟨Has.r 0 rfl, Has.r 1 rfl, Has.r 2 rfl, Has.r 3 rfl, Has.r 4 rfl, trivial⟩ ⟨⟨_, rfl, ?_⟩, ⟨_, rfl, ?_⟩, trivial⟩
        · skip
          refine L.append (j := 2) rfl rfl rfl rfl (by decide) rfl rfl rfl rfl (Src.r 3 rfl) (by rw [I64_len]; exact (Nat.mul_one _).symm) (I64_one _) (by omega) (by show _ * 8 ≤ _; omega) rfl (fun A12 cc12 => ?_)
          refine L.nil (QE.m (by kernel_rfl) ?_)
          refine LM.alt [11, 13] (by kernel_rfl) (by decide) ⟨Has.r 0 rfl, Has.r 1 rfl, Has.r 2 rfl, Has.r 3 rfl, Has.r 4 rfl, trivial⟩ ⟨⟨_, rfl, ?_⟩, ⟨_, rfl, ?_⟩, trivial⟩
          · skip
            refine L.append (j := 1) rfl rfl rfl rfl (by decide) rfl rfl rfl rfl (Src.r 4 rfl) (by rw [Bs_len]; exact (Nat.mul_one _).symm) (Bs_one _) (by omega) (by show _ * 1 ≤ _; omega) rfl (fun A16 cc16 => ?_)
            refine L.nil (QE.m (by kernel_rfl) ?_)
            refine LM.q 12 rfl (by kernel_rfl) (Ev.build rfl rfl rfl rfl rfl rfl rfl) rfl ⟨Has.r 0 rfl, Has.r 1 rfl, Has.r 2 rfl, Has.r 3 rfl, Has.r 4 rfl, trivial⟩ ?_
            refine LM.f 13 rfl (by kernel_rfl) ⟨Has.r 0 rfl, Has.r 1 rfl, Has.r 2 rfl, Has.r 3 rfl, Has.r 4 rfl, trivial⟩ ?_
            refine L.alloc rfl rfl rfl (fun A3 => ?_)
            refine L.nil (QE.m (by kernel_rfl) ?_)
            refine LM.cut [] (by kernel_rfl) ⟨Has.r 0 rfl, Has.r 1 rfl, Has.r 2 rfl, Has.r 3 rfl, Has.r 4 rfl, trivial⟩ ?_
            refine LM.f 14 rfl (by kernel_rfl) trivial ?_
            refine L.storeA (j := 3) rfl rfl rfl rfl rfl (Nat.zero_lt_succ _) rfl rfl ?_
            refine L.nil (QE.m (by kernel_rfl) ?_)
            refine LM.nil (by kernel_rfl) trivial ?_
            refine QE.joined ((A3, A12, cc12, A16, cc16)) (by exact trivial) (by exact Le.mk' (rs := [0, 1, 2, 3, 4]) (hs := [0, 3, 2, 1]) ⟨rfl, rfl, rfl, rfl, trivial⟩ ⟨rfl, rfl, rfl, rfl, rfl, trivial⟩ ⟨rfl, (by simp only [Nat.zero_add]; rfl), (by simp only [Nat.zero_add]; rfl), (by simp only [Nat.zero_add]; rfl), trivial⟩ (by decide))
          · skip
            refine L.alloc rfl rfl rfl (fun A3 => ?_)
            refine L.nil (QE.m (by kernel_rfl) ?_)
            refine LM.f 11 rfl (by kernel_rfl) ⟨Has.r 0 rfl, Has.r 1 rfl, Has.r 2 rfl, Has.r 3 rfl, Has.r 4 rfl, trivial⟩ ?_
            refine L.append (j := 1) rfl rfl rfl rfl (by decide) rfl rfl rfl rfl (Src.r 4 rfl) (by rw [Bs_len]; exact (Nat.mul_one _).symm) (Bs_one _) (by omega) (by show _ * 1 ≤ _; omega) rfl (fun A16 cc16 => ?_)
            refine L.nil (QE.m (by kernel_rfl) ?_)
            refine LM.f 12 rfl (by kernel_rfl) ⟨Has.r 0 rfl, Has.r 1 rfl, Has.r 2 rfl, Has.r 3 rfl, Has.r 4 rfl, trivial⟩ ?_
            refine L.step (Ev.build rfl rfl rfl rfl rfl rfl rfl) rfl ?_
            refine L.nil (QE.m (by kernel_rfl) ?_)
            refine LM.cut [] (by kernel_rfl) ⟨Has.r 0 rfl, Has.r 1 rfl, Has.r 2 rfl, Has.r 3 rfl, Has.r 4 rfl, trivial⟩ ?_
            refine LM.f 14 rfl (by kernel_rfl) trivial ?_
            refine L.storeA (j := 3) rfl rfl rfl rfl rfl (Nat.zero_lt_succ _) rfl rfl ?_
            refine L.nil (QE.m (by kernel_rfl) ?_)
            refine LM.nil (by kernel_rfl) trivial ?_
            refine QE.joined ((A3, A12, cc12, A16, cc16)) (by exact trivial) (by exact Le.mk' (rs := [0, 1, 2, 3, 4]) (hs := [0, 3, 2, 1]) ⟨rfl, rfl, rfl, rfl, trivial⟩ ⟨rfl, rfl, rfl, rfl, rfl, trivial⟩ ⟨rfl, (by simp only [Nat.zero_add]; rfl), (by simp only [Nat.zero_add]; rfl), (by simp only [Nat.zero_add]; rfl), trivial⟩ (by decide))
        · skip
          refine L.alloc rfl rfl rfl (fun A3 => ?_)
          refine L.nil (QE.m (by kernel_rfl) ?_)
          refine LM.f 7 rfl (by kernel_rfl) ⟨Has.r 0 rfl, Has.r 1 rfl, Has.r 2 rfl, Has.r 3 rfl, Has.r 4 rfl, trivial⟩ ?_
          refine L.append (j := 2) rfl rfl rfl rfl (by decide) rfl rfl rfl rfl (Src.r 3 rfl) (by rw [I64_len]; exact (Nat.mul_one _).symm) (I64_one _) (by omega) (by show _ * 8 ≤ _; omega) rfl (fun A12 cc12 => ?_)
          refine L.nil (QE.m (by kernel_rfl) ?_)
          refine LM.f 11 rfl (by kernel_rfl) ⟨Has.r 0 rfl, Has.r 1 rfl, Has.r 2 rfl, Has.r 3 rfl, Has.r 4 rfl, trivial⟩ ?_
          refine L.append (j := 1) rfl rfl rfl rfl (by decide) rfl rfl rfl rfl (Src.r 4 rfl) (by rw [Bs_len]; exact (Nat.mul_one _).symm) (Bs_one _) (by omega) (by show _ * 1 ≤ _; omega) rfl (fun A16 cc16 => ?_)
          refine L.nil (QE.m (by kernel_rfl) ?_)
          refine LM.f 12 rfl (by kernel_rfl) ⟨Has.r 0 rfl, Has.r 1 rfl, Has.r 2 rfl, Has.r 3 rfl, Has.r 4 rfl, trivial⟩ ?_
          refine L.step (Ev.build rfl rfl rfl rfl rfl rfl rfl) rfl ?_
          refine L.nil (QE.m (by kernel_rfl) ?_)
          refine LM.cut [] (by kernel_rfl) ⟨Has.r 0 rfl, Has.r 1 rfl, Has.r 2 rfl, Has.r 3 rfl, Has.r 4 rfl, trivial⟩ ?_
          refine LM.f 14 rfl (by kernel_rfl) trivial ?_
          refine L.storeA (j := 3) rfl rfl rfl rfl rfl (Nat.zero_lt_succ _) rfl rfl ?_
          refine L.nil (QE.m (by kernel_rfl) ?_)
          refine LM.nil (by kernel_rfl) trivial ?_
          refine QE.joined ((A3, A12, cc12, A16, cc16)) (by exact trivial) (by exact Le.mk' (rs := [0, 1, 2, 3, 4]) (hs := [0, 3, 2, 1]) ⟨rfl, rfl, rfl, rfl, trivial⟩ ⟨rfl, rfl, rfl, rfl, rfl, trivial⟩ ⟨rfl, (by simp only [Nat.zero_add]; rfl), (by simp only [Nat.zero_add]; rfl), (by simp only [Nat.zero_add]; rfl), trivial⟩ (by decide))
      · skip
        refine L.alloc rfl rfl rfl (fun A3 => ?_)
        refine L.nil (QE.m (by kernel_rfl) ?_)
        refine LM.f 4 rfl (by kernel_rfl) ⟨Has.r 0 rfl, Has.r 1 rfl, Has.r 2 rfl, Has.r 3 rfl, Has.r 4 rfl, trivial⟩ ?_
        refine L.lit rfl rfl rfl rfl rfl (by rfl) (by rfl) (by rfl) rfl rfl (fun A9 => ?_)
        refine L.nil (QE.m (by kernel_rfl) ?_)
        refine LM.f 7 rfl (by kernel_rfl) ⟨Has.r 0 rfl, Has.r 1 rfl, Has.r 2 rfl, Has.r 3 rfl, Has.r 4 rfl, trivial⟩ ?_
        refine L.append (j := 3) rfl rfl rfl rfl (by decide) rfl rfl rfl rfl (Src.r 3 rfl) (by rw [I64_len]; exact (Nat.mul_one _).symm) (I64_one _) (by omega) (by show _ * 8 ≤ _; omega) rfl (fun A12 cc12 => ?_)
        refine L.nil (QE.m (by kernel_rfl) ?_)
        refine LM.f 11 rfl (by kernel_rfl) ⟨Has.r 0 rfl, Has.r 1 rfl, Has.r 2 rfl, Has.r 3 rfl, Has.r 4 rfl, trivial⟩ ?_
        refine L.append (j := 1) rfl rfl rfl rfl (by decide) rfl rfl rfl rfl (Src.r 4 rfl) (by rw [Bs_len]; exact (Nat.mul_one _).symm) (Bs_one _) (by omega) (by show _ * 1 ≤ _; omega) rfl (fun A16 cc16 => ?_)
        refine L.nil (QE.m (by kernel_rfl) ?_)
        refine LM.f 12 rfl (by kernel_rfl) ⟨Has.r 0 rfl, Has.r 1 rfl, Has.r 2 rfl, Has.r 3 rfl, Has.r 4 rfl, trivial⟩ ?_
        refine L.step (Ev.build rfl rfl rfl rfl rfl rfl rfl) rfl ?_
        refine L.nil (QE.m (by kernel_rfl) ?_)
        refine LM.cut [] (by kernel_rfl) ⟨Has.r 0 rfl, Has.r 1 rfl, Has.r 2 rfl, Has.r 3 rfl, Has.r 4 rfl, trivial⟩ ?_
        refine LM.f 14 rfl (by kernel_rfl) trivial ?_
        refine L.storeA (j := 2) rfl rfl rfl rfl rfl (Nat.zero_lt_succ _) rfl rfl ?_
        refine L.nil (QE.m (by kernel_rfl) ?_)
        refine LM.nil (by kernel_rfl) trivial ?_
        refine QE.joined ((A3, A12, cc12, A16, cc16)) (by exact trivial) (by exact Le.mk' (rs := [0, 1, 2, 3, 4]) (hs := [0, 2, 3, 1]) ⟨rfl, rfl, rfl, rfl, trivial⟩ ⟨rfl, rfl, rfl, rfl, rfl, trivial⟩ ⟨rfl, (by simp only [Nat.zero_add]; rfl), (by simp only [Nat.zero_add]; rfl), (by simp only [Nat.zero_add]; rfl), trivial⟩ (by decide))
    · skip
      refine L.alloc rfl rfl rfl (fun A3 => ?_)
      refine L.nil (QE.m (by kernel_rfl) ?_)
      refine LM.alt [4, 8] (by kernel_rfl) (by decide) ⟨Has.r 0 rfl, Has.r 1 rfl, Has.r 2 rfl, Has.r 3 rfl, Has.r 4 rfl, trivial⟩ ⟨⟨_, rfl, ?_⟩, ⟨_, rfl, ?_⟩, trivial⟩
      · skip
        refine L.lit rfl rfl rfl rfl rfl (by rfl) (by rfl) (by rfl) rfl rfl (fun A9 => ?_)
        refine L.nil (QE.m (by kernel_rfl) ?_)
        refine LM.alt [7, 8] (by kernel_rfl) (by decide) ⟨Has.r 0 rfl, Has.r 1 rfl, Has.r 2 rfl, Has.r 3 rfl, Has.r 4 rfl, trivial⟩ ⟨⟨_, rfl, ?_⟩, ⟨_, rfl, ?_⟩, trivial⟩
        · skip
          refine L.append (j := 2) rfl rfl rfl rfl (by decide) rfl rfl rfl rfl (Src.r 3 rfl) (by rw [I64_len]; exact (Nat.mul_one _).symm) (I64_one _) (by omega) (by show _ * 8 ≤ _; omega) rfl (fun A12 cc12 => ?_)
          refine L.nil (QE.m (by kernel_rfl) ?_)
          refine LM.f 8 rfl (by kernel_rfl) ⟨Has.r 0 rfl, Has.r 1 rfl, Has.r 2 rfl, Has.r 3 rfl, Has.r 4 rfl, trivial⟩ ?_
          refine L.lit rfl rfl rfl rfl rfl (by rfl) (by rfl) (by rfl) rfl rfl (fun A13 => ?_)
          refine L.nil (QE.m (by kernel_rfl) ?_)
          refine LM.f 11 rfl (by kernel_rfl) ⟨Has.r 0 rfl, Has.r 1 rfl, Has.r 2 rfl, Has.r 3 rfl, Has.r 4 rfl, trivial⟩ ?_
          refine L.append (j := 3) rfl rfl rfl rfl (by decide) rfl rfl rfl rfl (Src.r 4 rfl) (by rw [Bs_len]; exact (Nat.mul_one _).symm) (Bs_one _) (by omega) (by show _ * 1 ≤ _; omega) rfl (fun A16 cc16 => ?_)
          refine L.nil (QE.m (by kernel_rfl) ?_)
          refine LM.f 12 rfl (by kernel_rfl) ⟨Has.r 0 rfl, Has.r 1 rfl, Has.r 2 rfl, Has.r 3 rfl, Has.r 4 rfl, trivial⟩ ?_
          refine L.step (Ev.build rfl rfl rfl rfl rfl rfl rfl) rfl ?_
          refine L.nil (QE.m (by kernel_rfl) ?_)
          refine LM.cut [] (by kernel_rfl) ⟨Has.r 0 rfl, Has.r 1 rfl, Has.r 2 rfl, Has.r 3 rfl, Has.r 4 rfl, trivial⟩ ?_
          refine LM.f 14 rfl (by kernel_rfl) trivial ?_
          refine L.storeA (j := 1) rfl rfl rfl rfl rfl (Nat.zero_lt_succ _) rfl rfl ?_
          refine L.nil (QE.m (by kernel_rfl) ?_)
          refine LM.nil (by kernel_rfl) trivial ?_
          refine QE.joined ((A3, A12, cc12, A16, cc16)) (by exact trivial) (by exact Le.mk' (rs := [0, 1, 2, 3, 4]) (hs := [0, 1, 2, 3]) ⟨rfl, rfl, rfl, rfl, trivial⟩ ⟨rfl, rfl, rfl, rfl, rfl, trivial⟩ ⟨rfl, (by simp only [Nat.zero_add]; rfl), (by simp only [Nat.zero_add]; rfl), (by simp only [Nat.zero_add]; rfl), trivial⟩ (by decide))
        · skip
          refine L.lit rfl rfl rfl rfl rfl (by rfl) (by rfl) (by rfl) rfl rfl (fun A13 => ?_)
          refine L.nil (QE.m (by kernel_rfl) ?_)
          refine LM.f 7 rfl (by kernel_rfl) ⟨Has.r 0 rfl, Has.r 1 rfl, Has.r 2 rfl, Has.r 3 rfl, Has.r 4 rfl, trivial⟩ ?_
          refine L.append (j := 2) rfl rfl rfl rfl (by decide) rfl rfl rfl rfl (Src.r 3 rfl) (by rw [I64_len]; exact (Nat.mul_one _).symm) (I64_one _) (by omega) (by show _ * 8 ≤ _; omega) rfl (fun A12 cc12 => ?_)
          refine L.nil (QE.m (by kernel_rfl) ?_)
          refine LM.f 11 rfl (by kernel_rfl) ⟨Has.r 0 rfl, Has.r 1 rfl, Has.r 2 rfl, Has.r 3 rfl, Has.r 4 rfl, trivial⟩ ?_
          refine L.append (j := 3) rfl rfl rfl rfl (by decide) rfl rfl rfl rfl (Src.r 4 rfl) (by rw [Bs_len]; exact (Nat.mul_one _).symm) (Bs_one _) (by omega) (by show _ * 1 ≤ _; omega) rfl (fun A16 cc16 => ?_)
          refine L.nil (QE.m (by kernel_rfl) ?_)
          refine LM.f 12 rfl (by kernel_rfl) ⟨Has.r 0 rfl, Has.r 1 rfl, Has.r 2 rfl, Has.r 3 rfl, Has.r 4 rfl, trivial⟩ ?_
          refine L.step (Ev.build rfl rfl rfl rfl rfl rfl rfl) rfl ?_
          refine L.nil (QE.m (by kernel_rfl) ?_)
          refine LM.cut [] (by kernel_rfl) ⟨Has.r 0 rfl, Has.r 1 rfl, Has.r 2 rfl, Has.r 3 rfl, Has.r 4 rfl, trivial⟩ ?_
          refine LM.f 14 rfl (by kernel_rfl) trivial ?_
          refine L.storeA (j := 1) rfl rfl rfl rfl rfl (Nat.zero_lt_succ _) rfl rfl ?_
          refine L.nil (QE.m (by kernel_rfl) ?_)
          refine LM.nil (by kernel_rfl) trivial ?_
          refine QE.joined ((A3, A12, cc12, A16, cc16)) (by exact trivial) (by exact Le.mk' (rs := [0, 1, 2, 3, 4]) (hs := [0, 1, 2, 3]) ⟨rfl, rfl, rfl, rfl, trivial⟩ ⟨rfl, rfl, rfl, rfl, rfl, trivial⟩ ⟨rfl, (by simp only [Nat.zero_add]; rfl), (by simp only [Nat.zero_add]; rfl), (by simp only [Nat.zero_add]; rfl), trivial⟩ (by decide))
      · skip
        refine L.lit rfl rfl rfl rfl rfl (by rfl) (by rfl) (by rfl) rfl rfl (fun A13 => ?_)
        refine L.nil (QE.m (by kernel_rfl) ?_)
        refine LM.f 4 rfl (by kernel_rfl) ⟨Has.r 0 rfl, Has.r 1 rfl, Has.r 2 rfl, Has.r 3 rfl, Has.r 4 rfl, trivial⟩ ?_
        refine L.lit rfl rfl rfl rfl rfl (by rfl) (by rfl) (by rfl) rfl rfl (fun A9 => ?_)
        refine L.nil (QE.m (by kernel_rfl) ?_)
        refine LM.f 7 rfl (by kernel_rfl) ⟨Has.r 0 rfl, Has.r 1 rfl, Has.r 2 rfl, Has.r 3 rfl, Has.r 4 rfl, trivial⟩ ?_
        refine L.append (j := 3) rfl rfl rfl rfl (by decide) rfl rfl rfl rfl (Src.r 3 rfl) (by rw [I64_len]; exact (Nat.mul_one _).symm) (I64_one _) (by omega) (by show _ * 8 ≤ _; omega) rfl (fun A12 cc12 => ?_)
        refine L.nil (QE.m (by kernel_rfl) ?_)
        refine LM.f 11 rfl (by kernel_rfl) ⟨Has.r 0 rfl, Has.r 1 rfl, Has.r 2 rfl, Has.r 3 rfl, Has.r 4 rfl, trivial⟩ ?_
        refine L.append (j := 2) rfl rfl rfl rfl (by decide) rfl rfl rfl rfl (Src.r 4 rfl) (by rw [Bs_len]; exact (Nat.mul_one _).symm) (Bs_one _) (by omega) (by show _ * 1 ≤ _; omega) rfl (fun A16 cc16 => ?_)
        refine L.nil (QE.m (by kernel_rfl) ?_)
        refine LM.f 12 rfl (by kernel_rfl) ⟨Has.r 0 rfl, Has.r 1 rfl, Has.r 2 rfl, Has.r 3 rfl, Has.r 4 rfl, trivial⟩ ?_
        refine L.step (Ev.build rfl rfl rfl rfl rfl rfl rfl) rfl ?_
        refine L.nil (QE.m (by kernel_rfl) ?_)
        refine LM.cut [] (by kernel_rfl) ⟨Has.r 0 rfl, Has.r 1 rfl, Has.r 2 rfl, Has.r 3 rfl, Has.r 4 rfl, trivial⟩ ?_
        refine LM.f 14 rfl (by kernel_rfl) trivial ?_
        refine L.storeA (j := 1) rfl rfl rfl rfl rfl (Nat.zero_lt_succ _) rfl rfl ?_
        refine L.nil (QE.m (by kernel_rfl) ?_)
        refine LM.nil (by kernel_rfl) trivial ?_
        refine QE.joined ((A3, A12, cc12, A16, cc16)) (by exact trivial) (by exact Le.mk' (rs := [0, 1, 2, 3, 4]) (hs := [0, 1, 3, 2]) ⟨rfl, rfl, rfl, rfl, trivial⟩ ⟨rfl, rfl, rfl, rfl, rfl, trivial⟩ ⟨rfl, (by simp only [Nat.zero_add]; rfl), (by simp only [Nat.zero_add]; rfl), (by simp only [Nat.zero_add]; rfl), trivial⟩ (by decide))
  · skip
    rintro ⟨A3, A12, c12, A16, c16⟩ _
    dsimp only
    refine QE.seq ?_
    refine C.seq ?_
    refine C.seq ?_
    refine C.region ?_
    refine L.step (Ev.pure rfl) rfl ?_
    refine L.nil ?_
    refine QE.seq ?_
    refine C.block ?_
    refine C.nil_own 24 1 ?_
    refine C.kids0 5 ?_
    refine C.loop (fun q : Nat × Option Addr × Nat × List Hd => [(0, .agg (List.toArray [.int .i64 (f.size : Int), .slice a.D f.data.length a.cD, .slice a.W f.wear.length a.cW, .int .i64 f.limit, .slice a.E f.dead.length a.cE])), (1, ptrOf A1 0), (2, ptrOf A2 0), (3, ptrOf A3 0), (4, .int .i64 (q.1 : Int))]) (fun q : Nat × Option Addr × Nat × List Hd => [Rd A1 [.int .i64 (f.size : Int), .slice a.D f.data.length a.cD, .slice a.W f.wear.length a.cW, .int .i64 f.limit, .slice a.E f.dead.length a.cE], Rd a.D (rowsV a.hs (B8 f.data)), KidsR a.hs (B8 f.data), Rd a.W (I64 f.wear), Rd a.E (Bs f.dead)]) (fun q : Nat × Option Addr × Nat × List Hd => [Own 32 5 A2 1 1 [.int .i64 0, .slice none 0 0, .slice none 0 0, .int .i64 0, .slice none 0 0], Own 32 5 A3 1 1 [.int .i64 (f.size : Int), .slice q.2.1 q.1 q.2.2.1, .slice A12 f.wear.length c12, .int .i64 f.limit, .slice A16 f.dead.length c16], Own 3 1 A12 f.wear.length c12 (I64 f.wear), Own 4 1 A16 f.dead.length c16 (Bs f.dead), Own 24 1 q.2.1 q.1 q.2.2.1 (rowsV q.2.2.2 (B8 (f.data.take q.1))), OwnKids 5 q.2.2.2 (B8 (f.data.take q.1))]) (fun q : Nat × Option Addr × Nat × List Hd => q.1 ≤ f.data.length ∧ q.2.2.2.length = q.1) (fun q : Nat × Option Addr × Nat × List Hd => f.data.length - q.1) (0, none, 0, []) ⟨by simp, rfl⟩ (by exact Le.mk' (rs := [0, 1, 2, 3, 4]) (hs := [0, 1, 2, 3, 4, 5]) ⟨rfl, rfl, rfl, rfl, rfl, trivial⟩ ⟨rfl, rfl, rfl, rfl, rfl, trivial⟩ ⟨rfl, rfl, rfl, rfl, rfl, rfl, trivial⟩ (by decide)) ?_
    rintro ⟨k, D, cD, hs⟩ ⟨hk, hl⟩
    dsimp only at hk hl ⊢
    refine C.seq ?_
    refine C.seq ?_
    refine C.region ?_
    refine L.step (Ev.pure rfl) rfl ?_
    refine L.step (Ev.fieldAddr rfl rfl rfl rfl rfl rfl (Src.r 0 rfl) (Nat.zero_lt_succ _) rfl) rfl ?_
    refine L.step (Ev.load rfl rfl rfl (Src.r 0 rfl) rfl) rfl ?_
    refine L.step (Ev.pure rfl) rfl ?_
    refine L.step (Ev.pure rfl) rfl ?_
    refine L.nil ?_
    refine QE.seq ?_
    refine C.condB 22 rfl (fun hc22 => ?_) (fun hc22 => ?_)
    · skip
      replace hc22 := of_decide_eq_true hc22
      refine C.skip ?_
      refine QE.seq ?_
      refine C.seq ?_
      refine C.block ?_
      have hrow := orows k (by omega)
      refine C.regionM [Rd A1 [.int .i64 (f.size : Int), .slice a.D f.data.length a.cD, .slice a.W f.wear.length a.cW, .int .i64 f.limit, .slice a.E f.dead.length a.cE], Rd a.D (rowsV a.hs (B8 f.data)), KidsR a.hs (B8 f.data), Rd a.W (I64 f.wear), Rd a.E (Bs f.dead), Rd A3 [.int .i64 (f.size : Int), .slice D k cD, .slice A12 f.wear.length c12, .int .i64 f.limit, .slice A16 f.dead.length c16]] ⟨Has.r 0 rfl, Has.r 1 rfl, Has.r 2 rfl, Has.r 3 rfl, Has.r 4 rfl, Has.o 1 rfl, trivial⟩ ?_
      refine LM.q 0 rfl (by kernel_rfl) (Ev.fieldAddr rfl rfl rfl rfl rfl rfl (Src.r 5 rfl) (Nat.zero_lt_succ _) rfl) rfl ⟨Has.r 0 rfl, Has.r 1 rfl, Has.r 2 rfl, Has.r 3 rfl, Has.r 4 rfl, Has.o 1 rfl, trivial⟩ ?_
      refine LM.q 1 rfl (by kernel_rfl) (Ev.load rfl rfl rfl (Src.r 5 rfl) rfl) rfl ⟨Has.r 0 rfl, Has.r 1 rfl, Has.r 2 rfl, Has.r 3 rfl, Has.r 4 rfl, Has.o 1 rfl, trivial⟩ ?_
      refine LM.q 3 rfl (by kernel_rfl) (Ev.fieldAddr rfl rfl rfl rfl rfl rfl (Src.r 0 rfl) (Nat.zero_lt_succ _) rfl) rfl ⟨Has.r 0 rfl, Has.r 1 rfl, Has.r 2 rfl, Has.r 3 rfl, Has.r 4 rfl, Has.o 1 rfl, trivial⟩ ?_
      refine LM.q 4 rfl (by kernel_rfl) (Ev.load rfl rfl rfl (Src.r 0 rfl) rfl) rfl ⟨Has.r 0 rfl, Has.r 1 rfl, Has.r 2 rfl, Has.r 3 rfl, Has.r 4 rfl, Has.o 1 rfl, trivial⟩ ?_
      refine LM.q 5 rfl (by kernel_rfl) (Ev.pure rfl) rfl ⟨Has.r 0 rfl, Has.r 1 rfl, Has.r 2 rfl, Has.r 3 rfl, Has.r 4 rfl, Has.o 1 rfl, trivial⟩ ?_
      refine LM.q 6 rfl (by kernel_rfl) (Ev.idx1 (k := k) rfl rfl rfl rfl rfl rfl rfl (by omega) (Src.r 1 rfl) (by rw [rowsV_len (by rw [B8_len]; exact hh), B8_len]; omega)) rfl ⟨Has.r 0 rfl, Has.r 1 rfl, Has.r 2 rfl, Has.r 3 rfl, Has.r 4 rfl, Has.o 1 rfl, trivial⟩ ?_
      refine LM.q 7 rfl (by kernel_rfl) (Ev.load rfl rfl rfl (Src.r 1 rfl) (rows8_get hh (by omega))) rfl ⟨Has.r 0 rfl, Has.r 1 rfl, Has.r 2 rfl, Has.r 3 rfl, Has.r 4 rfl, Has.o 1 rfl, trivial⟩ ?_
      refine LM.f 2 rfl (by kernel_rfl) ⟨Has.r 0 rfl, Has.r 1 rfl, Has.r 2 rfl, Has.r 3 rfl, Has.r 4 rfl, Has.o 1 rfl, trivial⟩ ?_
      refine L.lit rfl rfl rfl rfl rfl (by rfl) (by rfl) (by rfl) rfl rfl (fun A27 => ?_)
      refine L.nil (QE.m (by kernel_rfl) ?_)
      refine LM.f 8 rfl (by kernel_rfl) ⟨Has.r 0 rfl, Has.r 1 rfl, Has.r 2 rfl, Has.r 3 rfl, Has.r 4 rfl, Has.o 1 rfl, trivial⟩ ?_
      refine L.append (j := 6) rfl rfl rfl rfl (by decide) rfl rfl rfl rfl ((Src.kid 2 rfl (by rw [B8_len]; exact hh) (k) (by rw [B8_len]; omega)).cast (B8_get _)) (by rw [U8_len]; exact (Nat.mul_one _).symm) (U8_one _) (by omega) (by show _ * 1 ≤ _; omega) rfl (fun A33 cc33 => ?_)
      refine L.nil (QE.m (by kernel_rfl) ?_)
      refine LM.f 9 rfl (by kernel_rfl) ⟨Has.r 0 rfl, Has.r 1 rfl, Has.r 2 rfl, Has.r 3 rfl, Has.r 4 rfl, Has.o 1 rfl, trivial⟩ ?_
      refine L.lit rfl rfl rfl rfl rfl (by rfl) (by rfl) (by rfl) rfl rfl (fun A34 => ?_)
      refine L.nil (QE.m (by kernel_rfl) ?_)
      refine LM.cut [] (by kernel_rfl) ⟨Has.r 0 rfl, Has.r 1 rfl, Has.r 2 rfl, Has.r 3 rfl, Has.r 4 rfl, Has.o 1 rfl, trivial⟩ ?_
      refine LM.f 10 rfl (by kernel_rfl) trivial ?_
      refine L.append (j := 4) rfl rfl rfl rfl (by decide) rfl rfl rfl rfl (Src.o 7 rfl) rfl (by intro v hv; simp at hv; subst hv; rfl) (by omega) (by show _ * 24 ≤ _; omega) rfl (fun A35 cc35 => ?_)
      refine L.nil (QE.m (by kernel_rfl) ?_)
      refine LM.f 11 rfl (by kernel_rfl) trivial ?_
      refine L.step (Ev.fieldAddr rfl rfl rfl rfl rfl rfl (Src.o 1 rfl) (Nat.zero_lt_succ _) rfl) rfl ?_
      refine L.nil (QE.m (by kernel_rfl) ?_)
      refine LM.f 12 rfl (by kernel_rfl) trivial ?_
      refine L.store (j := 1) rfl rfl rfl rfl rfl rfl rfl rfl ?_
      refine L.nil (QE.m (by kernel_rfl) ?_)
      refine LM.nil (by kernel_rfl) trivial ?_
      refine QE.blkN ?_
      refine QE.seq ?_
      refine C.region ?_
      refine L.step (Ev.pure rfl) rfl ?_
      refine L.step (Ev.add rfl rfl (by omega) (by omega)) rfl ?_
      refine L.step (Ev.pure rfl) rfl ?_
      refine L.nil ?_
      refine QE.absorb 5 6 rfl rfl [0, 1, 2, 3, 4, 7] (by decide) ?_
      have hrow := orows k (by omega)
      refine QE.round (i := (k, D, cD, hs)) ((k + 1, A35, cc35, hs ++ [(A33, cc33)])) (by exact ⟨by dsimp only; omega, by simp [hl]⟩) (by dsimp only; omega) (by exact Le.mk' (rs := [0, 1, 2, 3, 4]) (hs := [1, 2, 3, 4, 5, 0]) ⟨rfl, rfl, rfl, rfl, rfl, trivial⟩ ⟨rfl, rfl, rfl, rfl, rfl, trivial⟩ ⟨rfl, rfl, rfl, rfl, (congrArg some (own_eq rfl (by rw [take_snoc' f.data [] k (by omega), ← rows8_app (by rw [List.length_take]; omega), Nat.zero_add]))), (congrArg some (by rw [take_snoc' f.data [] k (by omega), ← B8_snoc]; rfl)), trivial⟩ (by decide))
    · skip
      replace hc22 := of_decide_eq_false hc22
      refine C.exit ?_
      refine QE.tX ?_
      refine QE.tX ?_
      refine QE.blk ?_
      refine QE.seq ?_
      refine C.seq ?_
      refine C.region ?_
      refine L.step (Ev.loadA rfl rfl rfl (Src.o 1 rfl) rfl rfl (by decide)) rfl ?_
      refine L.storeA (j := 0) rfl rfl rfl rfl rfl (Nat.zero_lt_succ _) rfl rfl ?_
      refine L.nil ?_
      refine QE.seq ?_
      refine C.ret ?_
      refine QE.ret (js := []) (hs := [4, 5, 2, 3]) (vs := [_]) rfl ⟨⟨_, _, 0, _, rfl, rfl, Src.o 0 rfl, .inl ⟨rfl, by decide, _, rfl, rfl, rfl⟩⟩, trivial⟩ (by decide) ?_
      obtain rfl : f.data.length = k := by omega
      rw [List.take_length]
      exact ⟨⟨D, cD, hs, A12, c12, A16, c16⟩, rfl, rfl, rfl, hl⟩

theorem asked17_c (f : Fl) (a : Fa) (ok : f.Ok) (hh : a.hs.length = f.data.length) (x : Fo) (XA : Option Addr) (xc : Nat) (hxl : x.data.length ≤ 9223372036854775807) (hE : checkE f x = 0) :
    Ctr X 69 [.agg (List.toArray [.int .i64 (f.size : Int), .slice a.D f.data.length a.cD, .slice a.W f.wear.length a.cW, .int .i64 f.limit, .slice a.E f.dead.length a.cE]), .agg (List.toArray [.int .i64 x.kind, .int .i64 x.sec, .int .i64 x.at_, .slice XA x.data.length xc])] [Rd a.D (rowsV a.hs (B8 f.data)), KidsR a.hs (B8 f.data), Rd a.W (I64 f.wear), Rd a.E (Bs f.dead), Rd XA (U8 x.data)] [] (fun v R' H' => ∃ A c, v = .slice A f.size c ∧ R' = [] ∧ H' = [Own 5 1 A f.size c (U8 (askRow f x))]) := by
  obtain ⟨os1, os2, on1, on2, owl, odl, orows, ol1, ol2, owear⟩ := ok
  obtain ⟨q1, ⟨q2, q3, q4⟩, q5, q6⟩ := checkE_ok hE
  have hrow := orows x.sec.toNat (by omega)
  refine Ctr.of (X := X) (fn := Try.f69) Try.func69 rfl (by kernel_rfl) rfl ?_
  intro β
  refine C.seq ?_
  refine C.region ?_
  refine L.boxA rfl rfl (fun A2 => ?_)
  refine L.boxA rfl rfl (fun A3 => ?_)
  refine L.step (Ev.pure rfl) rfl ?_
  refine L.nil ?_
  refine QE.seq ?_
  refine C.seq ?_
  refine C.seq ?_
  refine C.freeze 1 rfl [0] (by decide) (by decide) ?_
  refine C.freeze 0 rfl [] (by decide) (by decide) ?_
  refine C.region ?_
  refine L.step (Ev.fieldAddr rfl rfl rfl rfl rfl rfl (Src.r 1 rfl) (Nat.zero_lt_succ _) rfl) rfl ?_
  refine L.step (Ev.load rfl rfl rfl (Src.r 1 rfl) rfl) rfl ?_
  refine L.step (Ev.pure rfl) rfl ?_
  refine L.nil ?_
  refine QE.seq ?_
  refine C.condB 9 rfl (fun hc9 => ?_) (fun hc9 => ?_)
  · skip
    replace hc9 := i_eq hc9
    refine C.seq ?_
    refine C.region ?_
    refine L.step (Ev.fieldAddr rfl rfl rfl rfl rfl rfl (Src.r 0 rfl) (Nat.zero_lt_succ _) rfl) rfl ?_
    refine L.step (Ev.load rfl rfl rfl (Src.r 0 rfl) rfl) rfl ?_
    refine L.call (js := []) (js' := []) (blank_c f.size (by omega)) rfl rfl rfl (by decide) trivial rfl ?_
    rintro _ _ _ ⟨A12, rfl, rfl, rfl⟩
    refine L.step (Ev.pure rfl) rfl ?_
    refine L.nil ?_
    refine QE.seq ?_
    refine C.ret ?_
    refine QE.tR ?_
    refine QE.ret (js := []) (hs := [0]) (vs := [_]) rfl ⟨rfl, trivial⟩ (by decide) ?_
    exact ⟨A12, f.size, rfl, rfl, by rw [askRow_1 hc9]; rfl⟩
  · skip
    replace hc9 := i_ne hc9
    refine C.skip ?_
    refine QE.seq ?_
    refine C.seq ?_
    refine C.region ?_
    refine L.lit rfl rfl rfl rfl rfl (by rfl) (by rfl) (by rfl) rfl rfl (fun A13 => ?_)
    refine L.step (Ev.fieldAddr rfl rfl rfl rfl rfl rfl (Src.r 0 rfl) (Nat.zero_lt_succ _) rfl) rfl ?_
    refine L.step (Ev.load rfl rfl rfl (Src.r 0 rfl) rfl) rfl ?_
    refine L.step (Ev.fieldAddr rfl rfl rfl rfl rfl rfl (Src.r 1 rfl) (Nat.zero_lt_succ _) rfl) rfl ?_
    refine L.step (Ev.load rfl rfl rfl (Src.r 1 rfl) rfl) rfl ?_
    refine L.step (Ev.idx1 (k := x.sec.toNat) rfl rfl rfl rfl rfl rfl (by omega) (by omega) (Src.r 2 rfl) (by rw [rowsV_len (by rw [B8_len]; exact hh), B8_len]; omega)) rfl ?_
    refine L.step (Ev.load rfl rfl rfl (Src.r 2 rfl) (rows8_get hh (by omega))) rfl ?_
    refine L.append (j := 0) rfl rfl rfl rfl (by decide) rfl rfl rfl rfl ((Src.kid 3 rfl (by rw [B8_len]; exact hh) (x.sec.toNat) (by rw [B8_len]; omega)).cast (B8_get _)) (by rw [U8_len]; exact (Nat.mul_one _).symm) (U8_one _) (by omega) (by show _ * 1 ≤ _; omega) rfl (fun A20 cc20 => ?_)
    refine L.step (Ev.pure rfl) rfl ?_
    refine L.nil ?_
    refine QE.seq ?_
    refine C.seq ?_
    refine C.seq ?_
    refine C.region ?_
    refine L.step (Ev.pure rfl) rfl ?_
    refine L.nil ?_
    refine QE.seq ?_
    refine C.block ?_
    have hk2 : x.kind = 2 := by omega
    have hk2b := q4 hk2
    refine C.loop (fun k : Nat => [(2, ptrOf A2 0), (3, ptrOf A3 0), (5, .slice A20 (f.data.getD x.sec.toNat []).length cc20), (6, .int .i64 (k : Int))]) (fun k : Nat => [Rd A2 [.int .i64 (f.size : Int), .slice a.D f.data.length a.cD, .slice a.W f.wear.length a.cW, .int .i64 f.limit, .slice a.E f.dead.length a.cE], Rd A3 [.int .i64 x.kind, .int .i64 x.sec, .int .i64 x.at_, .slice XA x.data.length xc], Rd a.D (rowsV a.hs (B8 f.data)), KidsR a.hs (B8 f.data), Rd a.W (I64 f.wear), Rd a.E (Bs f.dead), Rd XA (U8 x.data)]) (fun k : Nat => [Own 5 1 A20 (f.data.getD x.sec.toNat []).length cc20 (U8 (askP (f.data.getD x.sec.toNat []) x.data x.at_.toNat k))]) (fun k : Nat => k ≤ x.data.length) (fun k : Nat => x.data.length - k) 0 (by omega) (by exact Le.mk' (rs := [0, 1, 2, 3, 4, 5, 6]) (hs := [0]) ⟨rfl, rfl, (by simp only [Nat.zero_add]; rfl), rfl, trivial⟩ ⟨rfl, rfl, rfl, rfl, rfl, rfl, rfl, trivial⟩ ⟨(by rw [askP_zero]; simp only [Nat.zero_add]; rfl), trivial⟩ (by decide)) ?_
    intro k hk
    refine C.seq ?_
    refine C.seq ?_
    refine C.region ?_
    refine L.step (Ev.pure rfl) rfl ?_
    refine L.step (Ev.fieldAddr rfl rfl rfl rfl rfl rfl (Src.r 1 rfl) (Nat.zero_lt_succ _) rfl) rfl ?_
    refine L.step (Ev.load rfl rfl rfl (Src.r 1 rfl) rfl) rfl ?_
    refine L.step (Ev.pure rfl) rfl ?_
    refine L.step (Ev.pure rfl) rfl ?_
    refine L.nil ?_
    refine QE.seq ?_
    refine C.condB 25 rfl (fun hc25 => ?_) (fun hc25 => ?_)
    · skip
      replace hc25 := of_decide_eq_true hc25
      refine C.skip ?_
      refine QE.seq ?_
      refine C.seq ?_
      refine C.block ?_
      refine C.regionM [Rd A2 [.int .i64 (f.size : Int), .slice a.D f.data.length a.cD, .slice a.W f.wear.length a.cW, .int .i64 f.limit, .slice a.E f.dead.length a.cE], Rd A3 [.int .i64 x.kind, .int .i64 x.sec, .int .i64 x.at_, .slice XA x.data.length xc], Rd a.D (rowsV a.hs (B8 f.data)), KidsR a.hs (B8 f.data), Rd a.W (I64 f.wear), Rd a.E (Bs f.dead), Rd XA (U8 x.data), Rd A20 (U8 (askP (f.data.getD x.sec.toNat []) x.data x.at_.toNat k))] ⟨Has.r 0 rfl, Has.r 1 rfl, Has.r 2 rfl, Has.r 3 rfl, Has.r 4 rfl, Has.r 5 rfl, Has.r 6 rfl, Has.o 0 rfl, trivial⟩ ?_
      refine LM.q 0 rfl (by kernel_rfl) (Ev.pure rfl) rfl ⟨Has.r 0 rfl, Has.r 1 rfl, Has.r 2 rfl, Has.r 3 rfl, Has.r 4 rfl, Has.r 5 rfl, Has.r 6 rfl, Has.o 0 rfl, trivial⟩ ?_
      refine LM.q 1 rfl (by kernel_rfl) (Ev.fieldAddr rfl rfl rfl rfl rfl rfl (Src.r 1 rfl) (Nat.zero_lt_succ _) rfl) rfl ⟨Has.r 0 rfl, Has.r 1 rfl, Has.r 2 rfl, Has.r 3 rfl, Has.r 4 rfl, Has.r 5 rfl, Has.r 6 rfl, Has.o 0 rfl, trivial⟩ ?_
      refine LM.q 2 rfl (by kernel_rfl) (Ev.load rfl rfl rfl (Src.r 1 rfl) rfl) rfl ⟨Has.r 0 rfl, Has.r 1 rfl, Has.r 2 rfl, Has.r 3 rfl, Has.r 4 rfl, Has.r 5 rfl, Has.r 6 rfl, Has.o 0 rfl, trivial⟩ ?_
      refine LM.q 3 rfl (by kernel_rfl) (Ev.pure rfl) rfl ⟨Has.r 0 rfl, Has.r 1 rfl, Has.r 2 rfl, Has.r 3 rfl, Has.r 4 rfl, Has.r 5 rfl, Has.r 6 rfl, Has.o 0 rfl, trivial⟩ ?_
      refine LM.q 4 rfl (by kernel_rfl) (Ev.add rfl rfl (by omega) (by omega)) rfl ⟨Has.r 0 rfl, Has.r 1 rfl, Has.r 2 rfl, Has.r 3 rfl, Has.r 4 rfl, Has.r 5 rfl, Has.r 6 rfl, Has.o 0 rfl, trivial⟩ ?_
      refine LM.q 5 rfl (by kernel_rfl) (Ev.idx1 (k := x.at_.toNat + k) rfl rfl rfl rfl rfl rfl (by omega) (by omega) (Src.r 7 rfl) (by rw [U8_len, askP_len]; omega)) rfl ⟨Has.r 0 rfl, Has.r 1 rfl, Has.r 2 rfl, Has.r 3 rfl, Has.r 4 rfl, Has.r 5 rfl, Has.r 6 rfl, Has.o 0 rfl, trivial⟩ ?_
      refine LM.q 6 rfl (by kernel_rfl) (Ev.load rfl rfl rfl (Src.r 7 rfl) (U8_get (by rw [askP_len]; omega))) rfl ⟨Has.r 0 rfl, Has.r 1 rfl, Has.r 2 rfl, Has.r 3 rfl, Has.r 4 rfl, Has.r 5 rfl, Has.r 6 rfl, Has.o 0 rfl, trivial⟩ ?_
      refine LM.q 7 rfl (by kernel_rfl) (Ev.fieldAddr rfl rfl rfl rfl rfl rfl (Src.r 1 rfl) (Nat.zero_lt_succ _) rfl) rfl ⟨Has.r 0 rfl, Has.r 1 rfl, Has.r 2 rfl, Has.r 3 rfl, Has.r 4 rfl, Has.r 5 rfl, Has.r 6 rfl, Has.o 0 rfl, trivial⟩ ?_
      refine LM.q 8 rfl (by kernel_rfl) (Ev.load rfl rfl rfl (Src.r 1 rfl) rfl) rfl ⟨Has.r 0 rfl, Has.r 1 rfl, Has.r 2 rfl, Has.r 3 rfl, Has.r 4 rfl, Has.r 5 rfl, Has.r 6 rfl, Has.o 0 rfl, trivial⟩ ?_
      refine LM.f 9 rfl (by kernel_rfl) ⟨Has.r 0 rfl, Has.r 1 rfl, Has.r 2 rfl, Has.r 3 rfl, Has.r 4 rfl, Has.r 5 rfl, Has.r 6 rfl, Has.o 0 rfl, trivial⟩ ?_
      refine L.step (Ev.pure rfl) rfl ?_
      refine L.nil (QE.m (by kernel_rfl) ?_)
      refine LM.f 10 rfl (by kernel_rfl) ⟨Has.r 0 rfl, Has.r 1 rfl, Has.r 2 rfl, Has.r 3 rfl, Has.r 4 rfl, Has.r 5 rfl, Has.r 6 rfl, Has.o 0 rfl, trivial⟩ ?_
      refine L.step (Ev.idx1 (k := k) rfl rfl rfl rfl rfl rfl rfl (by omega) (Src.r 6 rfl) (by rw [U8_len]; omega)) rfl ?_
      refine L.nil (QE.m (by kernel_rfl) ?_)
      refine LM.f 11 rfl (by kernel_rfl) ⟨Has.r 0 rfl, Has.r 1 rfl, Has.r 2 rfl, Has.r 3 rfl, Has.r 4 rfl, Has.r 5 rfl, Has.r 6 rfl, Has.o 0 rfl, trivial⟩ ?_
      refine L.step (Ev.load rfl rfl rfl (Src.r 6 rfl) (U8_get (by omega))) rfl ?_
      refine L.nil (QE.m (by kernel_rfl) ?_)
      refine LM.cut [] (by kernel_rfl) ⟨Has.r 0 rfl, Has.r 1 rfl, Has.r 2 rfl, Has.r 3 rfl, Has.r 4 rfl, Has.r 5 rfl, Has.r 6 rfl, Has.o 0 rfl, trivial⟩ ?_
      refine LM.f 12 rfl (by kernel_rfl) trivial ?_
      first | refine L.step (Ev.and8 rfl rfl) rfl ?_ | refine L.step (Ev.pure rfl) rfl ?_
      refine L.nil (QE.m (by kernel_rfl) ?_)
      refine LM.f 13 rfl (by kernel_rfl) trivial ?_
      refine L.step (Ev.idx1 (k := x.at_.toNat + k) rfl rfl rfl rfl rfl rfl (by omega) (by omega) (Src.o 0 rfl) (by rw [U8_len, askP_len]; omega)) rfl ?_
      refine L.nil (QE.m (by kernel_rfl) ?_)
      refine LM.f 14 rfl (by kernel_rfl) trivial ?_
      refine L.store (j := 0) rfl rfl rfl rfl rfl rfl rfl (by exact U8_get (by rw [askP_len]; omega)) ?_
      refine L.nil (QE.m (by kernel_rfl) ?_)
      refine LM.nil (by kernel_rfl) trivial ?_
      refine QE.blkN ?_
      refine QE.seq ?_
      refine C.region ?_
      refine L.step (Ev.pure rfl) rfl ?_
      refine L.step (Ev.add rfl rfl (by omega) (by omega)) rfl ?_
      refine L.step (Ev.pure rfl) rfl ?_
      refine L.nil ?_
      refine QE.round (k + 1) (by omega) (by omega) (by exact Le.mk' (rs := [0, 1, 2, 3, 4, 5, 6]) (hs := [0]) ⟨rfl, rfl, rfl, rfl, trivial⟩ ⟨rfl, rfl, rfl, rfl, rfl, rfl, rfl, trivial⟩ ⟨(by simp only [List.set_cons_zero, List.getElem?_cons_zero]; rw [U8_set, askP_get (by omega), askP_set (by omega)]), trivial⟩ (by decide))
    · skip
      replace hc25 := of_decide_eq_false hc25
      refine C.exit ?_
      refine QE.tX ?_
      refine QE.tX ?_
      refine QE.blk ?_
      refine QE.seq ?_
      refine C.seq ?_
      refine C.region ?_
      refine L.step (Ev.pure rfl) rfl ?_
      refine L.step (Ev.pure rfl) rfl ?_
      refine L.nil ?_
      refine QE.seq ?_
      refine C.ret ?_
      refine QE.ret (js := []) (hs := [0]) (vs := [_]) rfl ⟨rfl, trivial⟩ (by decide) ?_
      obtain rfl : k = x.data.length := by omega
      rw [askP_all (by omega) (by omega) hrow, hrow]
      exact ⟨A20, cc20, rfl, rfl, rfl⟩

theorem cut17_c (f : Fl) (a : Fa) (ok : f.Ok) (hh : a.hs.length = f.data.length) (x : Fo) (XA : Option Addr) (xc : Nat) (hxl : x.data.length ≤ 9223372036854775807) (ms : List UInt8) (M : Option Addr) (mn mc : Nat) (hmn : ms.length = mn) (hml : ms.length ≤ 9223372036854775807) :
    Ctr X 39 [.agg (List.toArray [.int .i64 (f.size : Int), .slice a.D f.data.length a.cD, .slice a.W f.wear.length a.cW, .int .i64 f.limit, .slice a.E f.dead.length a.cE]), .agg (List.toArray [.int .i64 x.kind, .int .i64 x.sec, .int .i64 x.at_, .slice XA x.data.length xc]), .slice M mn mc] [Rd a.D (rowsV a.hs (B8 f.data)), KidsR a.hs (B8 f.data), Rd a.W (I64 f.wear), Rd a.E (Bs f.dead), Rd XA (U8 x.data), Rd M (U8 ms)] [] (fun v R' H' => ∃ b : Fa, b.hs.length = (cutR f x (fun i => ms.getD i 0)).data.length ∧ v = .tuple #[flV (cutR f x (fun i => ms.getD i 0)) b, .int .i64 (checkE f x)] ∧ R' = flR (cutR f x (fun i => ms.getD i 0)) b ∧ H' = []) := by
  subst hmn
  obtain ⟨os1, os2, on1, on2, owl, odl, orows, ol1, ol2, owear⟩ := ok
  have hok : f.Ok := ⟨os1, os2, on1, on2, owl, odl, orows, ol1, ol2, owear⟩
  refine Ctr.of (X := X) (fn := Try.f39) Try.func39 rfl (by kernel_rfl) rfl ?_
  intro β
  refine C.seq ?_
  refine C.region ?_
  refine L.boxA rfl rfl (fun A3 => ?_)
  refine L.boxA rfl rfl (fun A4 => ?_)
  refine L.alloc rfl rfl rfl (fun A6 => ?_)
  refine L.step (Ev.pure rfl) rfl ?_
  refine L.nil ?_
  refine QE.seq ?_
  refine C.seq ?_
  refine C.freeze 0 rfl [1, 2] (by decide) (by decide) ?_
  refine C.freeze 0 rfl [1] (by decide) (by decide) ?_
  refine C.region ?_
  refine L.step (Ev.loadA rfl rfl rfl (Src.r 1 rfl) rfl rfl (by decide)) rfl ?_
  refine L.step (Ev.loadA rfl rfl rfl (Src.r 0 rfl) rfl rfl (by decide)) rfl ?_
  refine L.call (js := []) (js' := [0]) (check17_c f a hok hh x XA xc hxl) rfl rfl rfl (by decide) ⟨(Has.r 2 rfl), (Has.r 3 rfl), (Has.r 4 rfl), (Has.r 5 rfl), (Has.r 6 rfl), trivial⟩ rfl ?_
  rintro _ _ _ ⟨rfl, rfl, rfl⟩
  refine L.step (Ev.pure rfl) rfl ?_
  refine L.nil ?_
  refine QE.seq ?_
  refine C.seq ?_
  refine C.seq ?_
  refine C.region ?_
  refine L.step (Ev.pure rfl) rfl ?_
  refine L.step (Ev.pure rfl) rfl ?_
  refine L.nil ?_
  refine QE.seq ?_
  refine C.condB 17 rfl (fun hc17 => ?_) (fun hc17 => ?_)
  · skip
    replace hc17 := b_ne hc17
    skip
    refine C.seq ?_
    refine C.region ?_
    refine L.step (Ev.build rfl rfl rfl rfl rfl rfl rfl) rfl ?_
    refine L.step (Ev.pure rfl) rfl ?_
    refine L.storeA (j := 0) rfl rfl rfl rfl rfl (Nat.zero_lt_succ _) rfl rfl ?_
    refine L.step (Ev.pure rfl) rfl ?_
    refine L.nil ?_
    refine QE.seq ?_
    refine C.ret ?_
    refine QE.tR ?_
    refine QE.more (r := Rd none []) Has.nil ?_
    refine QE.more (r := KidsR [] []) Has.kids0 ?_
    refine QE.ret (js := [1, 0, 1, 1]) (hs := []) (vs := [_, _]) rfl ⟨⟨_, _, 0, _, rfl, rfl, Src.o 0 rfl, .inl ⟨rfl, by decide, _, rfl, rfl, rfl⟩⟩, rfl, trivial⟩ (by decide) ?_
    refine ⟨az, ?_, ?_, ?_, rfl⟩
    · rw [cutR_bad hc17]; rfl
    · rw [cutR_bad hc17]; rfl
    · rw [cutR_bad hc17]; rfl
  · skip
    replace hc17 := b_eq hc17
    obtain ⟨q1, ⟨q2, q3, q4⟩, q5, q6⟩ := checkE_ok hc17
    have hrow := orows x.sec.toNat (by omega)
    have hwr := owear x.sec.toNat (by omega)
    refine C.skip ?_
    refine QE.seq ?_
    refine C.seq ?_
    refine C.join (fun q : Fa × Option Addr × Option Addr × Nat => [(2, .slice M ms.length mc), (3, ptrOf A3 0), (4, ptrOf A4 0), (6, ptrOf A6 0), (9, ptrOf q.2.1 0), (10, .slice q.2.2.1 f.size q.2.2.2)]) (fun q : Fa × Option Addr × Option Addr × Nat => [Rd A4 [.int .i64 x.kind, .int .i64 x.sec, .int .i64 x.at_, .slice XA x.data.length xc], Rd A3 [.int .i64 (f.size : Int), .slice a.D f.data.length a.cD, .slice a.W f.wear.length a.cW, .int .i64 f.limit, .slice a.E f.dead.length a.cE], Rd a.D (rowsV a.hs (B8 f.data)), KidsR a.hs (B8 f.data), Rd a.W (I64 f.wear), Rd a.E (Bs f.dead), Rd XA (U8 x.data), Rd M (U8 ms)]) (fun q : Fa × Option Addr × Option Addr × Nat => [Own 32 5 A6 1 1 [.int .i64 0, .slice none 0 0, .slice none 0 0, .int .i64 0, .slice none 0 0], Own 32 5 q.2.1 1 1 [.int .i64 (f.size : Int), .slice q.1.D f.data.length q.1.cD, .slice q.1.W f.wear.length q.1.cW, .int .i64 f.limit, .slice q.1.E f.dead.length q.1.cE], Own 24 1 q.1.D f.data.length q.1.cD (rowsV q.1.hs (B8 f.data)), OwnKids 5 q.1.hs (B8 f.data), Own 3 1 q.1.W f.wear.length q.1.cW (I64 f.wear), Own 4 1 q.1.E f.dead.length q.1.cE (Bs f.dead), Own 5 1 q.2.2.1 f.size q.2.2.2 (U8 (askRow f x))]) (fun q : Fa × Option Addr × Option Addr × Nat => q.1.hs.length = f.data.length) ?_ ?_
    · skip
      refine C.regionM [Rd A4 [.int .i64 x.kind, .int .i64 x.sec, .int .i64 x.at_, .slice XA x.data.length xc], Rd A3 [.int .i64 (f.size : Int), .slice a.D f.data.length a.cD, .slice a.W f.wear.length a.cW, .int .i64 f.limit, .slice a.E f.dead.length a.cE], Rd a.D (rowsV a.hs (B8 f.data)), KidsR a.hs (B8 f.data), Rd a.W (I64 f.wear), Rd a.E (Bs f.dead), Rd XA (U8 x.data), Rd M (U8 ms)] ⟨Has.r 0 rfl, Has.r 1 rfl, Has.r 2 rfl, Has.r 3 rfl, Has.r 4 rfl, Has.r 5 rfl, Has.r 6 rfl, Has.r 7 rfl, trivial⟩ ?_
      refine LM.q 0 rfl (by kernel_rfl) (Ev.loadA rfl rfl rfl (Src.r 1 rfl) rfl rfl (by decide)) rfl ⟨Has.r 0 rfl, Has.r 1 rfl, Has.r 2 rfl, Has.r 3 rfl, Has.r 4 rfl, Has.r 5 rfl, Has.r 6 rfl, Has.r 7 rfl, trivial⟩ ?_
      refine LM.q 2 rfl (by kernel_rfl) (Ev.loadA rfl rfl rfl (Src.r 1 rfl) rfl rfl (by decide)) rfl ⟨Has.r 0 rfl, Has.r 1 rfl, Has.r 2 rfl, Has.r 3 rfl, Has.r 4 rfl, Has.r 5 rfl, Has.r 6 rfl, Has.r 7 rfl, trivial⟩ ?_
      refine LM.q 3 rfl (by kernel_rfl) (Ev.loadA rfl rfl rfl (Src.r 0 rfl) rfl rfl (by decide)) rfl ⟨Has.r 0 rfl, Has.r 1 rfl, Has.r 2 rfl, Has.r 3 rfl, Has.r 4 rfl, Has.r 5 rfl, Has.r 6 rfl, Has.r 7 rfl, trivial⟩ ?_
      refine LM.alt [1, 5] (by kernel_rfl) (by decide) ⟨Has.r 0 rfl, Has.r 1 rfl, Has.r 2 rfl, Has.r 3 rfl, Has.r 4 rfl, Has.r 5 rfl, Has.r 6 rfl, Has.r 7 rfl, trivial⟩ ⟨⟨_, rfl, ?_⟩, ⟨_, rfl, ?_⟩, trivial⟩
      · skip
        refine L.call (js := []) (js' := [0]) (copied_c f a hok hh) rfl rfl rfl (by decide) ⟨(Has.r 2 rfl), (Has.r 3 rfl), (Has.r 4 rfl), (Has.r 5 rfl), trivial⟩ rfl ?_
        rintro _ _ _ ⟨b, rfl, rfl, rfl, hb⟩
        refine L.nil (QE.m (by kernel_rfl) ?_)
        refine LM.alt [4, 5] (by kernel_rfl) (by decide) ⟨Has.r 0 rfl, Has.r 1 rfl, Has.r 2 rfl, Has.r 3 rfl, Has.r 4 rfl, Has.r 5 rfl, Has.r 6 rfl, Has.r 7 rfl, trivial⟩ ⟨⟨_, rfl, ?_⟩, ⟨_, rfl, ?_⟩, trivial⟩
        · skip
          refine L.call (js := []) (js' := [0, 1, 2, 3, 4]) (asked17_c f a hok hh x XA xc hxl hc17) rfl rfl rfl (by decide) ⟨(Has.r 2 rfl), (Has.r 3 rfl), (Has.r 4 rfl), (Has.r 5 rfl), (Has.r 6 rfl), trivial⟩ rfl ?_
          rintro _ _ _ ⟨A24, c24, rfl, rfl, rfl⟩
          refine L.nil (QE.m (by kernel_rfl) ?_)
          refine LM.f 5 rfl (by kernel_rfl) ⟨Has.r 0 rfl, Has.r 1 rfl, Has.r 2 rfl, Has.r 3 rfl, Has.r 4 rfl, Has.r 5 rfl, Has.r 6 rfl, Has.r 7 rfl, trivial⟩ ?_
          refine L.alloc rfl rfl rfl (fun A9 => ?_)
          refine L.nil (QE.m (by kernel_rfl) ?_)
          refine LM.cut [] (by kernel_rfl) ⟨Has.r 0 rfl, Has.r 1 rfl, Has.r 2 rfl, Has.r 3 rfl, Has.r 4 rfl, Has.r 5 rfl, Has.r 6 rfl, Has.r 7 rfl, trivial⟩ ?_
          refine LM.f 6 rfl (by kernel_rfl) trivial ?_
          refine L.storeA (j := 6) rfl rfl rfl rfl rfl (Nat.zero_lt_succ _) rfl rfl ?_
          refine L.nil (QE.m (by kernel_rfl) ?_)
          refine LM.f 7 rfl (by kernel_rfl) trivial ?_
          refine L.step (Ev.pure rfl) rfl ?_
          refine L.nil (QE.m (by kernel_rfl) ?_)
          refine LM.nil (by kernel_rfl) trivial ?_
          refine QE.joined ((b, A9, A24, c24)) (by exact hb) (by exact Le.mk' (rs := [0, 1, 2, 3, 4, 5, 6, 7]) (hs := [5, 6, 1, 2, 3, 4, 0]) ⟨rfl, rfl, rfl, rfl, rfl, rfl, trivial⟩ ⟨rfl, rfl, rfl, rfl, rfl, rfl, rfl, rfl, trivial⟩ ⟨rfl, rfl, rfl, rfl, rfl, rfl, rfl, trivial⟩ (by decide))
        · skip
          refine L.alloc rfl rfl rfl (fun A9 => ?_)
          refine L.nil (QE.m (by kernel_rfl) ?_)
          refine LM.f 4 rfl (by kernel_rfl) ⟨Has.r 0 rfl, Has.r 1 rfl, Has.r 2 rfl, Has.r 3 rfl, Has.r 4 rfl, Has.r 5 rfl, Has.r 6 rfl, Has.r 7 rfl, trivial⟩ ?_
          refine L.call (js := []) (js' := [0, 1, 2, 3, 4, 5]) (asked17_c f a hok hh x XA xc hxl hc17) rfl rfl rfl (by decide) ⟨(Has.r 2 rfl), (Has.r 3 rfl), (Has.r 4 rfl), (Has.r 5 rfl), (Has.r 6 rfl), trivial⟩ rfl ?_
          rintro _ _ _ ⟨A24, c24, rfl, rfl, rfl⟩
          refine L.nil (QE.m (by kernel_rfl) ?_)
          refine LM.cut [] (by kernel_rfl) ⟨Has.r 0 rfl, Has.r 1 rfl, Has.r 2 rfl, Has.r 3 rfl, Has.r 4 rfl, Has.r 5 rfl, Has.r 6 rfl, Has.r 7 rfl, trivial⟩ ?_
          refine LM.f 6 rfl (by kernel_rfl) trivial ?_
          refine L.storeA (j := 6) rfl rfl rfl rfl rfl (Nat.zero_lt_succ _) rfl rfl ?_
          refine L.nil (QE.m (by kernel_rfl) ?_)
          refine LM.f 7 rfl (by kernel_rfl) trivial ?_
          refine L.step (Ev.pure rfl) rfl ?_
          refine L.nil (QE.m (by kernel_rfl) ?_)
          refine LM.nil (by kernel_rfl) trivial ?_
          refine QE.joined ((b, A9, A24, c24)) (by exact hb) (by exact Le.mk' (rs := [0, 1, 2, 3, 4, 5, 6, 7]) (hs := [5, 6, 1, 2, 3, 4, 0]) ⟨rfl, rfl, rfl, rfl, rfl, rfl, trivial⟩ ⟨rfl, rfl, rfl, rfl, rfl, rfl, rfl, rfl, trivial⟩ ⟨rfl, rfl, rfl, rfl, rfl, rfl, rfl, trivial⟩ (by decide))
      · skip
        refine L.alloc rfl rfl rfl (fun A9 => ?_)
        refine L.nil (QE.m (by kernel_rfl) ?_)
        refine LM.f 1 rfl (by kernel_rfl) ⟨Has.r 0 rfl, Has.r 1 rfl, Has.r 2 rfl, Has.r 3 rfl, Has.r 4 rfl, Has.r 5 rfl, Has.r 6 rfl, Has.r 7 rfl, trivial⟩ ?_
        refine L.call (js := []) (js' := [0, 1]) (copied_c f a hok hh) rfl rfl rfl (by decide) ⟨(Has.r 2 rfl), (Has.r 3 rfl), (Has.r 4 rfl), (Has.r 5 rfl), trivial⟩ rfl ?_
        rintro _ _ _ ⟨b, rfl, rfl, rfl, hb⟩
        refine L.nil (QE.m (by kernel_rfl) ?_)
        refine LM.f 4 rfl (by kernel_rfl) ⟨Has.r 0 rfl, Has.r 1 rfl, Has.r 2 rfl, Has.r 3 rfl, Has.r 4 rfl, Has.r 5 rfl, Has.r 6 rfl, Has.r 7 rfl, trivial⟩ ?_
        refine L.call (js := []) (js' := [0, 1, 2, 3, 4, 5]) (asked17_c f a hok hh x XA xc hxl hc17) rfl rfl rfl (by decide) ⟨(Has.r 2 rfl), (Has.r 3 rfl), (Has.r 4 rfl), (Has.r 5 rfl), (Has.r 6 rfl), trivial⟩ rfl ?_
        rintro _ _ _ ⟨A24, c24, rfl, rfl, rfl⟩
        refine L.nil (QE.m (by kernel_rfl) ?_)
        refine LM.cut [] (by kernel_rfl) ⟨Has.r 0 rfl, Has.r 1 rfl, Has.r 2 rfl, Has.r 3 rfl, Has.r 4 rfl, Has.r 5 rfl, Has.r 6 rfl, Has.r 7 rfl, trivial⟩ ?_
        refine LM.f 6 rfl (by kernel_rfl) trivial ?_
        refine L.storeA (j := 6) rfl rfl rfl rfl rfl (Nat.zero_lt_succ _) rfl rfl ?_
        refine L.nil (QE.m (by kernel_rfl) ?_)
        refine LM.f 7 rfl (by kernel_rfl) trivial ?_
        refine L.step (Ev.pure rfl) rfl ?_
        refine L.nil (QE.m (by kernel_rfl) ?_)
        refine LM.nil (by kernel_rfl) trivial ?_
        refine QE.joined ((b, A9, A24, c24)) (by exact hb) (by exact Le.mk' (rs := [0, 1, 2, 3, 4, 5, 6, 7]) (hs := [5, 6, 1, 2, 3, 4, 0]) ⟨rfl, rfl, rfl, rfl, rfl, rfl, trivial⟩ ⟨rfl, rfl, rfl, rfl, rfl, rfl, rfl, rfl, trivial⟩ ⟨rfl, rfl, rfl, rfl, rfl, rfl, rfl, trivial⟩ (by decide))
    · skip
      rintro ⟨b, A9, A24, c24⟩ hb
      dsimp only at hb ⊢
      refine QE.seq ?_
      refine C.seq ?_
      refine C.seq ?_
      refine C.freeze 1 rfl [0, 2, 3, 4, 5, 6] (by decide) (by decide) ?_
      refine C.freeze 1 rfl [0, 2, 3, 4, 5] (by decide) (by decide) ?_
      refine C.freeze 3 rfl [0, 1, 2, 4] (by decide) (by decide) ?_
      refine C.freeze 3 rfl [0, 1, 2] (by decide) (by decide) ?_
      refine C.region ?_
      refine L.step (Ev.pure rfl) rfl ?_
      refine L.nil ?_
      refine QE.seq ?_
      refine C.block ?_
      refine C.loop (fun k : Nat => [(2, .slice M ms.length mc), (3, ptrOf A3 0), (4, ptrOf A4 0), (6, ptrOf A6 0), (9, ptrOf A9 0), (10, .slice A24 f.size c24), (11, .int .i64 (k : Int))]) (fun k : Nat => [Rd A24 (U8 (askRow f x)), Rd b.E (Bs f.dead), Rd b.D (rowsV b.hs (B8 f.data)), Rd A9 [.int .i64 (f.size : Int), .slice b.D f.data.length b.cD, .slice b.W f.wear.length b.cW, .int .i64 f.limit, .slice b.E f.dead.length b.cE], Rd A4 [.int .i64 x.kind, .int .i64 x.sec, .int .i64 x.at_, .slice XA x.data.length xc], Rd A3 [.int .i64 (f.size : Int), .slice a.D f.data.length a.cD, .slice a.W f.wear.length a.cW, .int .i64 f.limit, .slice a.E f.dead.length a.cE], Rd a.D (rowsV a.hs (B8 f.data)), KidsR a.hs (B8 f.data), Rd a.W (I64 f.wear), Rd a.E (Bs f.dead), Rd XA (U8 x.data), Rd M (U8 ms)]) (fun k : Nat => [Own 32 5 A6 1 1 [.int .i64 0, .slice none 0 0, .slice none 0 0, .int .i64 0, .slice none 0 0], OwnKids 5 b.hs (B8 (f.data.set x.sec.toNat (prow (rowB f x (fun i => ms.getD i 0)) (f.data.getD x.sec.toNat []) k))), Own 3 1 b.W f.wear.length b.cW (I64 f.wear)]) (fun k : Nat => k ≤ f.size ∧ k ≤ ms.length) (fun k : Nat => f.size - k) 0 ⟨by omega, by omega⟩ (by exact Le.mk' (rs := [0, 1, 2, 3, 4, 5, 6, 7, 8, 9, 10, 11]) (hs := [0, 1, 2]) ⟨rfl, rfl, rfl, rfl, rfl, rfl, rfl, trivial⟩ ⟨rfl, rfl, rfl, rfl, rfl, rfl, rfl, rfl, rfl, rfl, rfl, rfl, trivial⟩ ⟨rfl, (by rw [prow_zero, set_getD]; rfl), rfl, trivial⟩ (by decide)) ?_
      rintro k ⟨hk, hkm⟩
      refine C.seq ?_
      refine C.seq ?_
      refine C.region ?_
      refine L.step (Ev.pure rfl) rfl ?_
      refine L.step (Ev.fieldAddr rfl rfl rfl rfl rfl rfl (Src.r 5 rfl) (Nat.zero_lt_succ _) rfl) rfl ?_
      refine L.step (Ev.load rfl rfl rfl (Src.r 5 rfl) rfl) rfl ?_
      refine L.step (Ev.pure rfl) rfl ?_
      refine L.step (Ev.pure rfl) rfl ?_
      refine L.bool 29 rfl (fun hg29 => ?_) (fun hg29 => ?_)
      · skip
        replace hg29 := of_decide_eq_true hg29
        refine L.yes rfl ?_
        refine L.step (Ev.pure rfl) rfl ?_
        refine L.yes rfl ?_
        refine L.step (Ev.pure rfl) rfl ?_
        refine L.yes rfl ?_
        refine L.step (Ev.pure rfl) rfl ?_
        refine L.yes rfl ?_
        refine L.step (Ev.pure rfl) rfl ?_
        refine L.step (Ev.pure rfl) rfl ?_
        refine L.nil ?_
        refine QE.seq ?_
        refine C.condB 34 rfl (fun hc34 => ?_) (fun hc34 => ?_)
        · skip
          replace hc34 := of_decide_eq_true hc34
          refine C.skip ?_
          refine QE.seq ?_
          refine C.seq ?_
          refine C.block ?_
          refine C.seq ?_
          refine C.region ?_
          refine L.step (Ev.fieldAddr rfl rfl rfl rfl rfl rfl (Src.r 5 rfl) (Nat.zero_lt_succ _) rfl) rfl ?_
          refine L.step (Ev.load rfl rfl rfl (Src.r 5 rfl) rfl) rfl ?_
          refine L.step (Ev.fieldAddr rfl rfl rfl rfl rfl rfl (Src.r 4 rfl) (Nat.zero_lt_succ _) rfl) rfl ?_
          refine L.step (Ev.load rfl rfl rfl (Src.r 4 rfl) rfl) rfl ?_
          refine L.step (Ev.idx1 (k := x.sec.toNat) rfl rfl rfl rfl rfl rfl (by omega) (by omega) (Src.r 6 rfl) (by rw [rowsV_len (by rw [B8_len]; exact hh), B8_len]; omega)) rfl ?_
          refine L.step (Ev.load rfl rfl rfl (Src.r 6 rfl) (rows8_get hh (by omega))) rfl ?_
          refine L.step (Ev.pure rfl) rfl ?_
          refine L.step (Ev.idx1 (k := k) rfl rfl rfl rfl rfl rfl rfl (by omega) ((Src.kid 7 rfl (by rw [B8_len]; exact hh) (x.sec.toNat) (by rw [B8_len]; omega)).cast (B8_get _)) (by rw [U8_len]; omega)) rfl ?_
          refine L.step (Ev.load rfl rfl rfl ((Src.kid 7 rfl (by rw [B8_len]; exact hh) (x.sec.toNat) (by rw [B8_len]; omega)).cast (B8_get _)) (U8_get (by omega))) rfl ?_
          refine L.step (Ev.pure rfl) rfl ?_
          refine L.nil ?_
          refine QE.seq ?_
          refine C.regionM [Rd A24 (U8 (askRow f x)), Rd b.E (Bs f.dead), Rd b.D (rowsV b.hs (B8 f.data)), Rd A9 [.int .i64 (f.size : Int), .slice b.D f.data.length b.cD, .slice b.W f.wear.length b.cW, .int .i64 f.limit, .slice b.E f.dead.length b.cE], Rd A4 [.int .i64 x.kind, .int .i64 x.sec, .int .i64 x.at_, .slice XA x.data.length xc], Rd A3 [.int .i64 (f.size : Int), .slice a.D f.data.length a.cD, .slice a.W f.wear.length a.cW, .int .i64 f.limit, .slice a.E f.dead.length a.cE], Rd a.D (rowsV a.hs (B8 f.data)), KidsR a.hs (B8 f.data), Rd a.W (I64 f.wear), Rd a.E (Bs f.dead), Rd XA (U8 x.data), Rd M (U8 ms)] ⟨Has.r 0 rfl, Has.r 1 rfl, Has.r 2 rfl, Has.r 3 rfl, Has.r 4 rfl, Has.r 5 rfl, Has.r 6 rfl, Has.r 7 rfl, Has.r 8 rfl, Has.r 9 rfl, Has.r 10 rfl, Has.r 11 rfl, trivial⟩ ?_
          refine LM.q 0 rfl (by kernel_rfl) (Ev.fieldAddr rfl rfl rfl rfl rfl rfl (Src.r 3 rfl) (Nat.zero_lt_succ _) rfl) rfl ⟨Has.r 0 rfl, Has.r 1 rfl, Has.r 2 rfl, Has.r 3 rfl, Has.r 4 rfl, Has.r 5 rfl, Has.r 6 rfl, Has.r 7 rfl, Has.r 8 rfl, Has.r 9 rfl, Has.r 10 rfl, Has.r 11 rfl, trivial⟩ ?_
          refine LM.q 1 rfl (by kernel_rfl) (Ev.load rfl rfl rfl (Src.r 3 rfl) rfl) rfl ⟨Has.r 0 rfl, Has.r 1 rfl, Has.r 2 rfl, Has.r 3 rfl, Has.r 4 rfl, Has.r 5 rfl, Has.r 6 rfl, Has.r 7 rfl, Has.r 8 rfl, Has.r 9 rfl, Has.r 10 rfl, Has.r 11 rfl, trivial⟩ ?_
          refine LM.q 2 rfl (by kernel_rfl) (Ev.fieldAddr rfl rfl rfl rfl rfl rfl (Src.r 4 rfl) (Nat.zero_lt_succ _) rfl) rfl ⟨Has.r 0 rfl, Has.r 1 rfl, Has.r 2 rfl, Has.r 3 rfl, Has.r 4 rfl, Has.r 5 rfl, Has.r 6 rfl, Has.r 7 rfl, Has.r 8 rfl, Has.r 9 rfl, Has.r 10 rfl, Has.r 11 rfl, trivial⟩ ?_
          refine LM.q 3 rfl (by kernel_rfl) (Ev.load rfl rfl rfl (Src.r 4 rfl) rfl) rfl ⟨Has.r 0 rfl, Has.r 1 rfl, Has.r 2 rfl, Has.r 3 rfl, Has.r 4 rfl, Has.r 5 rfl, Has.r 6 rfl, Has.r 7 rfl, Has.r 8 rfl, Has.r 9 rfl, Has.r 10 rfl, Has.r 11 rfl, trivial⟩ ?_
          refine LM.q 4 rfl (by kernel_rfl) (Ev.idx1 (k := x.sec.toNat) rfl rfl rfl rfl rfl rfl (by omega) (by omega) (Src.r 2 rfl) (by rw [rowsV_len (by rw [B8_len]; exact hb), B8_len]; omega)) rfl ⟨Has.r 0 rfl, Has.r 1 rfl, Has.r 2 rfl, Has.r 3 rfl, Has.r 4 rfl, Has.r 5 rfl, Has.r 6 rfl, Has.r 7 rfl, Has.r 8 rfl, Has.r 9 rfl, Has.r 10 rfl, Has.r 11 rfl, trivial⟩ ?_
          refine LM.q 5 rfl (by kernel_rfl) (Ev.load rfl rfl rfl (Src.r 2 rfl) (rows8_get hb (by omega))) rfl ⟨Has.r 0 rfl, Has.r 1 rfl, Has.r 2 rfl, Has.r 3 rfl, Has.r 4 rfl, Has.r 5 rfl, Has.r 6 rfl, Has.r 7 rfl, Has.r 8 rfl, Has.r 9 rfl, Has.r 10 rfl, Has.r 11 rfl, trivial⟩ ?_
          refine LM.q 6 rfl (by kernel_rfl) (Ev.pure rfl) rfl ⟨Has.r 0 rfl, Has.r 1 rfl, Has.r 2 rfl, Has.r 3 rfl, Has.r 4 rfl, Has.r 5 rfl, Has.r 6 rfl, Has.r 7 rfl, Has.r 8 rfl, Has.r 9 rfl, Has.r 10 rfl, Has.r 11 rfl, trivial⟩ ?_
          refine LM.q 7 rfl (by kernel_rfl) (Ev.pure rfl) rfl ⟨Has.r 0 rfl, Has.r 1 rfl, Has.r 2 rfl, Has.r 3 rfl, Has.r 4 rfl, Has.r 5 rfl, Has.r 6 rfl, Has.r 7 rfl, Has.r 8 rfl, Has.r 9 rfl, Has.r 10 rfl, Has.r 11 rfl, trivial⟩ ?_
          refine LM.q 8 rfl (by kernel_rfl) (Ev.pure rfl) rfl ⟨Has.r 0 rfl, Has.r 1 rfl, Has.r 2 rfl, Has.r 3 rfl, Has.r 4 rfl, Has.r 5 rfl, Has.r 6 rfl, Has.r 7 rfl, Has.r 8 rfl, Has.r 9 rfl, Has.r 10 rfl, Has.r 11 rfl, trivial⟩ ?_
          refine LM.q 9 rfl (by kernel_rfl) (Ev.pure rfl) rfl ⟨Has.r 0 rfl, Has.r 1 rfl, Has.r 2 rfl, Has.r 3 rfl, Has.r 4 rfl, Has.r 5 rfl, Has.r 6 rfl, Has.r 7 rfl, Has.r 8 rfl, Has.r 9 rfl, Has.r 10 rfl, Has.r 11 rfl, trivial⟩ ?_
          refine LM.q 10 rfl (by kernel_rfl) (Ev.idx1 (k := k) rfl rfl rfl rfl rfl rfl rfl (by omega) (Src.r 11 rfl) (by rw [U8_len]; omega)) rfl ⟨Has.r 0 rfl, Has.r 1 rfl, Has.r 2 rfl, Has.r 3 rfl, Has.r 4 rfl, Has.r 5 rfl, Has.r 6 rfl, Has.r 7 rfl, Has.r 8 rfl, Has.r 9 rfl, Has.r 10 rfl, Has.r 11 rfl, trivial⟩ ?_
          refine LM.q 11 rfl (by kernel_rfl) (Ev.load rfl rfl rfl (Src.r 11 rfl) (U8_get (by omega))) rfl ⟨Has.r 0 rfl, Has.r 1 rfl, Has.r 2 rfl, Has.r 3 rfl, Has.r 4 rfl, Has.r 5 rfl, Has.r 6 rfl, Has.r 7 rfl, Has.r 8 rfl, Has.r 9 rfl, Has.r 10 rfl, Has.r 11 rfl, trivial⟩ ?_
          first | refine LM.q 12 rfl (by kernel_rfl) (Ev.andNot8 rfl rfl) rfl ⟨Has.r 0 rfl, Has.r 1 rfl, Has.r 2 rfl, Has.r 3 rfl, Has.r 4 rfl, Has.r 5 rfl, Has.r 6 rfl, Has.r 7 rfl, Has.r 8 rfl, Has.r 9 rfl, Has.r 10 rfl, Has.r 11 rfl, trivial⟩ ?_ | refine LM.q 12 rfl (by kernel_rfl) (Ev.pure rfl) rfl ⟨Has.r 0 rfl, Has.r 1 rfl, Has.r 2 rfl, Has.r 3 rfl, Has.r 4 rfl, Has.r 5 rfl, Has.r 6 rfl, Has.r 7 rfl, Has.r 8 rfl, Has.r 9 rfl, Has.r 10 rfl, Has.r 11 rfl, trivial⟩ ?_
          refine LM.q 13 rfl (by kernel_rfl) (Ev.pure rfl) rfl ⟨Has.r 0 rfl, Has.r 1 rfl, Has.r 2 rfl, Has.r 3 rfl, Has.r 4 rfl, Has.r 5 rfl, Has.r 6 rfl, Has.r 7 rfl, Has.r 8 rfl, Has.r 9 rfl, Has.r 10 rfl, Has.r 11 rfl, trivial⟩ ?_
          refine LM.q 14 rfl (by kernel_rfl) (Ev.pure rfl) rfl ⟨Has.r 0 rfl, Has.r 1 rfl, Has.r 2 rfl, Has.r 3 rfl, Has.r 4 rfl, Has.r 5 rfl, Has.r 6 rfl, Has.r 7 rfl, Has.r 8 rfl, Has.r 9 rfl, Has.r 10 rfl, Has.r 11 rfl, trivial⟩ ?_
          refine LM.q 15 rfl (by kernel_rfl) (Ev.idx1 (k := k) rfl rfl rfl rfl rfl rfl rfl (by omega) (Src.r 0 rfl) (by rw [U8_len, askRow_len]; omega)) rfl ⟨Has.r 0 rfl, Has.r 1 rfl, Has.r 2 rfl, Has.r 3 rfl, Has.r 4 rfl, Has.r 5 rfl, Has.r 6 rfl, Has.r 7 rfl, Has.r 8 rfl, Has.r 9 rfl, Has.r 10 rfl, Has.r 11 rfl, trivial⟩ ?_
          refine LM.q 16 rfl (by kernel_rfl) (Ev.load rfl rfl rfl (Src.r 0 rfl) (askRow_get (by omega))) rfl ⟨Has.r 0 rfl, Has.r 1 rfl, Has.r 2 rfl, Has.r 3 rfl, Has.r 4 rfl, Has.r 5 rfl, Has.r 6 rfl, Has.r 7 rfl, Has.r 8 rfl, Has.r 9 rfl, Has.r 10 rfl, Has.r 11 rfl, trivial⟩ ?_
          refine LM.q 17 rfl (by kernel_rfl) (Ev.pure rfl) rfl ⟨Has.r 0 rfl, Has.r 1 rfl, Has.r 2 rfl, Has.r 3 rfl, Has.r 4 rfl, Has.r 5 rfl, Has.r 6 rfl, Has.r 7 rfl, Has.r 8 rfl, Has.r 9 rfl, Has.r 10 rfl, Has.r 11 rfl, trivial⟩ ?_
          refine LM.f 18 rfl (by kernel_rfl) ⟨Has.r 0 rfl, Has.r 1 rfl, Has.r 2 rfl, Has.r 3 rfl, Has.r 4 rfl, Has.r 5 rfl, Has.r 6 rfl, Has.r 7 rfl, Has.r 8 rfl, Has.r 9 rfl, Has.r 10 rfl, Has.r 11 rfl, trivial⟩ ?_
          refine L.step (Ev.pure rfl) rfl ?_
          refine L.nil (QE.m (by kernel_rfl) ?_)
          refine LM.f 19 rfl (by kernel_rfl) ⟨Has.r 0 rfl, Has.r 1 rfl, Has.r 2 rfl, Has.r 3 rfl, Has.r 4 rfl, Has.r 5 rfl, Has.r 6 rfl, Has.r 7 rfl, Has.r 8 rfl, Has.r 9 rfl, Has.r 10 rfl, Has.r 11 rfl, trivial⟩ ?_
          refine L.step (Ev.idx1 (k := k) rfl rfl rfl rfl rfl rfl rfl (by omega) (Src.r 11 rfl) (by rw [U8_len]; omega)) rfl ?_
          refine L.nil (QE.m (by kernel_rfl) ?_)
          refine LM.f 20 rfl (by kernel_rfl) ⟨Has.r 0 rfl, Has.r 1 rfl, Has.r 2 rfl, Has.r 3 rfl, Has.r 4 rfl, Has.r 5 rfl, Has.r 6 rfl, Has.r 7 rfl, Has.r 8 rfl, Has.r 9 rfl, Has.r 10 rfl, Has.r 11 rfl, trivial⟩ ?_
          refine L.step (Ev.load rfl rfl rfl (Src.r 11 rfl) (U8_get (by omega))) rfl ?_
          refine L.nil (QE.m (by kernel_rfl) ?_)
          refine LM.f 21 rfl (by kernel_rfl) ⟨Has.r 0 rfl, Has.r 1 rfl, Has.r 2 rfl, Has.r 3 rfl, Has.r 4 rfl, Has.r 5 rfl, Has.r 6 rfl, Has.r 7 rfl, Has.r 8 rfl, Has.r 9 rfl, Has.r 10 rfl, Has.r 11 rfl, trivial⟩ ?_
          first | refine L.step (Ev.and8 rfl rfl) rfl ?_ | refine L.step (Ev.pure rfl) rfl ?_
          refine L.nil (QE.m (by kernel_rfl) ?_)
          refine LM.f 22 rfl (by kernel_rfl) ⟨Has.r 0 rfl, Has.r 1 rfl, Has.r 2 rfl, Has.r 3 rfl, Has.r 4 rfl, Has.r 5 rfl, Has.r 6 rfl, Has.r 7 rfl, Has.r 8 rfl, Has.r 9 rfl, Has.r 10 rfl, Has.r 11 rfl, trivial⟩ ?_
          first | refine L.step (Ev.or8 rfl rfl) rfl ?_ | refine L.step (Ev.pure rfl) rfl ?_
          refine L.nil (QE.m (by kernel_rfl) ?_)
          refine LM.cut [] (by kernel_rfl) ⟨Has.r 0 rfl, Has.r 1 rfl, Has.r 2 rfl, Has.r 3 rfl, Has.r 4 rfl, Has.r 5 rfl, Has.r 6 rfl, Has.r 7 rfl, Has.r 8 rfl, Has.r 9 rfl, Has.r 10 rfl, Has.r 11 rfl, trivial⟩ ?_
          refine LM.f 23 rfl (by kernel_rfl) trivial ?_
          refine L.step (Ev.idx1 (k := k) rfl rfl rfl rfl rfl rfl rfl (by omega) (Src.okid 1 rfl (by rw [B8_len, List.length_set]; exact hb) x.sec.toNat (by rw [B8_len, List.length_set]; omega)) (by rw [B8_get, getD_set_eq (by omega), U8_len, prow_len (by omega)]; omega)) rfl ?_
          refine L.nil (QE.m (by kernel_rfl) ?_)
          refine LM.f 24 rfl (by kernel_rfl) trivial ?_
          refine L.storeKid (j := 1) (i := x.sec.toNat) rfl rfl (by rw [B8_len, List.length_set]; exact hb) (by rw [B8_len, List.length_set]; omega) rfl rfl rfl rfl rfl (by rw [B8_get, getD_set_eq (by omega), U8_len, prow_len (by omega)]; omega) ?_
          refine L.nil (QE.m (by kernel_rfl) ?_)
          refine LM.nil (by kernel_rfl) trivial ?_
          refine QE.blkN ?_
          refine QE.seq ?_
          refine C.region ?_
          refine L.step (Ev.pure rfl) rfl ?_
          refine L.step (Ev.add rfl rfl (by omega) (by omega)) rfl ?_
          refine L.step (Ev.pure rfl) rfl ?_
          refine L.nil ?_
          refine QE.round (k + 1) (by exact ⟨by omega, by omega⟩) (by omega) (by exact Le.mk' (rs := [0, 1, 2, 3, 4, 5, 6, 7, 8, 9, 10, 11]) (hs := [0, 1, 2]) ⟨rfl, rfl, rfl, rfl, rfl, rfl, rfl, trivial⟩ ⟨rfl, rfl, rfl, rfl, rfl, rfl, rfl, rfl, rfl, rfl, rfl, rfl, trivial⟩ ⟨rfl, (congrArg some (by rw [B8_get, getD_set_eq (by omega), U8_set, B8_set, List.set_set, ← prow_set (k := k) (by omega)]; rfl)), rfl, trivial⟩ (by decide))
        · skip
          replace hc34 := of_decide_eq_false hc34
          refine C.exit ?_
          refine QE.tX ?_
          refine QE.tX ?_
          refine QE.blk ?_
          refine QE.seq ?_
          refine C.seq ?_
          refine C.seq ?_
          refine C.region ?_
          refine L.step (Ev.fieldAddr rfl rfl rfl rfl rfl rfl (Src.r 4 rfl) (Nat.zero_lt_succ _) rfl) rfl ?_
          refine L.step (Ev.load rfl rfl rfl (Src.r 4 rfl) rfl) rfl ?_
          refine L.step (Ev.pure rfl) rfl ?_
          refine L.nil ?_
          refine QE.seq ?_
          refine C.condB 72 rfl (fun hc72 => ?_) (fun hc72 => ?_)
          · skip
            replace hc72 := i_eq hc72
            refine C.region ?_
            refine L.step (Ev.fieldAddr rfl rfl rfl rfl rfl rfl (Src.r 3 rfl) (Nat.zero_lt_succ _) rfl) rfl ?_
            refine L.step (Ev.load rfl rfl rfl (Src.r 3 rfl) rfl) rfl ?_
            refine L.step (Ev.fieldAddr rfl rfl rfl rfl rfl rfl (Src.r 4 rfl) (Nat.zero_lt_succ _) rfl) rfl ?_
            refine L.step (Ev.load rfl rfl rfl (Src.r 4 rfl) rfl) rfl ?_
            refine L.step (Ev.idx1 (k := x.sec.toNat) rfl rfl rfl rfl rfl rfl (by omega) (by omega) (Src.o 2 rfl) (by rw [I64_len]; omega)) rfl ?_
            refine L.step (Ev.load rfl rfl rfl (Src.o 2 rfl) (I64_get (by omega))) rfl ?_
            refine L.step (Ev.add rfl rfl (by omega) (by omega)) rfl ?_
            refine L.step (Ev.idx1 (k := x.sec.toNat) rfl rfl rfl rfl rfl rfl (by omega) (by omega) (Src.o 2 rfl) (by rw [I64_len]; omega)) rfl ?_
            refine L.store (j := 2) rfl rfl rfl rfl rfl rfl rfl (by exact I64_get (by omega)) ?_
            refine L.nil ?_
            refine QE.seq ?_
            refine C.seq ?_
            refine C.region ?_
            refine L.step (Ev.loadA rfl rfl rfl (Src.r 3 rfl) rfl rfl (by decide)) rfl ?_
            refine L.storeA (j := 0) rfl rfl rfl rfl rfl (Nat.zero_lt_succ _) rfl rfl ?_
            refine L.step (Ev.pure rfl) rfl ?_
            refine L.nil ?_
            refine QE.seq ?_
            refine C.ret ?_
            refine QE.freeze 2 rfl [0, 1] (by decide) (by decide) ?_
            refine QE.freezeKids 1 rfl [0] (by decide) (by decide) ?_
            refine QE.ret (js := [4, 0, 1, 3]) (hs := []) (vs := [_, _]) rfl ⟨⟨_, _, 0, _, rfl, rfl, Src.o 0 rfl, .inl ⟨rfl, by decide, _, rfl, rfl, rfl⟩⟩, rfl, trivial⟩ (by decide) ?_
            refine cut_post hok hc17 hb hrow (by omega) hk (fun i h1 h2 => getD_ge (by omega)) ?_
            first | (rw [I64_set]; unfold cutF; rw [if_pos hc72]) | (unfold cutF; rw [if_neg hc72])
          · skip
            replace hc72 := i_ne hc72
            refine C.skip ?_
            refine QE.seq ?_
            refine C.seq ?_
            refine C.region ?_
            refine L.step (Ev.loadA rfl rfl rfl (Src.r 3 rfl) rfl rfl (by decide)) rfl ?_
            refine L.storeA (j := 0) rfl rfl rfl rfl rfl (Nat.zero_lt_succ _) rfl rfl ?_
            refine L.step (Ev.pure rfl) rfl ?_
            refine L.nil ?_
            refine QE.seq ?_
            refine C.ret ?_
            refine QE.freeze 2 rfl [0, 1] (by decide) (by decide) ?_
            refine QE.freezeKids 1 rfl [0] (by decide) (by decide) ?_
            refine QE.ret (js := [4, 0, 1, 3]) (hs := []) (vs := [_, _]) rfl ⟨⟨_, _, 0, _, rfl, rfl, Src.o 0 rfl, .inl ⟨rfl, by decide, _, rfl, rfl, rfl⟩⟩, rfl, trivial⟩ (by decide) ?_
            refine cut_post hok hc17 hb hrow (by omega) hk (fun i h1 h2 => getD_ge (by omega)) ?_
            first | (rw [I64_set]; unfold cutF; rw [if_pos hc72]) | (unfold cutF; rw [if_neg hc72])
      · skip
        replace hg29 := of_decide_eq_false hg29
        refine L.no rfl rfl rfl ?_
        refine L.no rfl rfl rfl ?_
        refine L.no rfl rfl rfl ?_
        refine L.no rfl rfl rfl ?_
        refine L.step (Ev.pure rfl) rfl ?_
        refine L.nil ?_
        refine QE.seq ?_
        refine C.cond rfl (fun h => by cases h) (fun _ => ?_)
        refine C.exit ?_
        refine QE.tX ?_
        refine QE.tX ?_
        refine QE.blk ?_
        refine QE.seq ?_
        refine C.seq ?_
        refine C.seq ?_
        refine C.region ?_
        refine L.step (Ev.fieldAddr rfl rfl rfl rfl rfl rfl (Src.r 4 rfl) (Nat.zero_lt_succ _) rfl) rfl ?_
        refine L.step (Ev.load rfl rfl rfl (Src.r 4 rfl) rfl) rfl ?_
        refine L.step (Ev.pure rfl) rfl ?_
        refine L.nil ?_
        refine QE.seq ?_
        refine C.condB 72 rfl (fun hc72 => ?_) (fun hc72 => ?_)
        · skip
          replace hc72 := i_eq hc72
          refine C.region ?_
          refine L.step (Ev.fieldAddr rfl rfl rfl rfl rfl rfl (Src.r 3 rfl) (Nat.zero_lt_succ _) rfl) rfl ?_
          refine L.step (Ev.load rfl rfl rfl (Src.r 3 rfl) rfl) rfl ?_
          refine L.step (Ev.fieldAddr rfl rfl rfl rfl rfl rfl (Src.r 4 rfl) (Nat.zero_lt_succ _) rfl) rfl ?_
          refine L.step (Ev.load rfl rfl rfl (Src.r 4 rfl) rfl) rfl ?_
          refine L.step (Ev.idx1 (k := x.sec.toNat) rfl rfl rfl rfl rfl rfl (by omega) (by omega) (Src.o 2 rfl) (by rw [I64_len]; omega)) rfl ?_
          refine L.step (Ev.load rfl rfl rfl (Src.o 2 rfl) (I64_get (by omega))) rfl ?_
          refine L.step (Ev.add rfl rfl (by omega) (by omega)) rfl ?_
          refine L.step (Ev.idx1 (k := x.sec.toNat) rfl rfl rfl rfl rfl rfl (by omega) (by omega) (Src.o 2 rfl) (by rw [I64_len]; omega)) rfl ?_
          refine L.store (j := 2) rfl rfl rfl rfl rfl rfl rfl (by exact I64_get (by omega)) ?_
          refine L.nil ?_
          refine QE.seq ?_
          refine C.seq ?_
          refine C.region ?_
          refine L.step (Ev.loadA rfl rfl rfl (Src.r 3 rfl) rfl rfl (by decide)) rfl ?_
          refine L.storeA (j := 0) rfl rfl rfl rfl rfl (Nat.zero_lt_succ _) rfl rfl ?_
          refine L.step (Ev.pure rfl) rfl ?_
          refine L.nil ?_
          refine QE.seq ?_
          refine C.ret ?_
          refine QE.freeze 2 rfl [0, 1] (by decide) (by decide) ?_
          refine QE.freezeKids 1 rfl [0] (by decide) (by decide) ?_
          refine QE.ret (js := [4, 0, 1, 3]) (hs := []) (vs := [_, _]) rfl ⟨⟨_, _, 0, _, rfl, rfl, Src.o 0 rfl, .inl ⟨rfl, by decide, _, rfl, rfl, rfl⟩⟩, rfl, trivial⟩ (by decide) ?_
          refine cut_post hok hc17 hb hrow (by omega) hk (fun i h1 h2 => getD_ge (by omega)) ?_
          first | (rw [I64_set]; unfold cutF; rw [if_pos hc72]) | (unfold cutF; rw [if_neg hc72])
        · skip
          replace hc72 := i_ne hc72
          refine C.skip ?_
          refine QE.seq ?_
          refine C.seq ?_
          refine C.region ?_
          refine L.step (Ev.loadA rfl rfl rfl (Src.r 3 rfl) rfl rfl (by decide)) rfl ?_
          refine L.storeA (j := 0) rfl rfl rfl rfl rfl (Nat.zero_lt_succ _) rfl rfl ?_
          refine L.step (Ev.pure rfl) rfl ?_
          refine L.nil ?_
          refine QE.seq ?_
          refine C.ret ?_
          refine QE.freeze 2 rfl [0, 1] (by decide) (by decide) ?_
          refine QE.freezeKids 1 rfl [0] (by decide) (by decide) ?_
          refine QE.ret (js := [4, 0, 1, 3]) (hs := []) (vs := [_, _]) rfl ⟨⟨_, _, 0, _, rfl, rfl, Src.o 0 rfl, .inl ⟨rfl, by decide, _, rfl, rfl, rfl⟩⟩, rfl, trivial⟩ (by decide) ?_
          refine cut_post hok hc17 hb hrow (by omega) hk (fun i h1 h2 => getD_ge (by omega)) ?_
          first | (rw [I64_set]; unfold cutF; rw [if_pos hc72]) | (unfold cutF; rw [if_neg hc72])

theorem do17_c (f : Fl) (a : Fa) (ok : f.Ok) (hh : a.hs.length = f.data.length) (x : Fo) (XA : Option Addr) (xc : Nat) (hxl : x.data.length ≤ 9223372036854775807) :
    Ctr X 37 [.agg (List.toArray [.int .i64 (f.size : Int), .slice a.D f.data.length a.cD, .slice a.W f.wear.length a.cW, .int .i64 f.limit, .slice a.E f.dead.length a.cE]), .agg (List.toArray [.int .i64 x.kind, .int .i64 x.sec, .int .i64 x.at_, .slice XA x.data.length xc])] [Rd a.D (rowsV a.hs (B8 f.data)), KidsR a.hs (B8 f.data), Rd a.W (I64 f.wear), Rd a.E (Bs f.dead), Rd XA (U8 x.data)] [] (fun v R' H' => ∃ b : Fa, b.hs.length = (cutR f x (fun _ => 255)).data.length ∧ v = .tuple #[flV (cutR f x (fun _ => 255)) b, .int .i64 (checkE f x)] ∧ R' = flR (cutR f x (fun _ => 255)) b ∧ H' = []) := by
  obtain ⟨os1, os2, on1, on2, owl, odl, orows, ol1, ol2, owear⟩ := ok
  have hok : f.Ok := ⟨os1, os2, on1, on2, owl, odl, orows, ol1, ol2, owear⟩
  refine Ctr.of (X := X) (fn := Try.f37) Try.func37 rfl (by kernel_rfl) rfl ?_
  intro β
  refine C.seq ?_
  refine C.region ?_
  refine L.boxA rfl rfl (fun A2 => ?_)
  refine L.boxA rfl rfl (fun A3 => ?_)
  refine L.alloc rfl rfl rfl (fun A4 => ?_)
  refine L.step (Ev.pure rfl) rfl ?_
  refine L.nil ?_
  refine QE.seq ?_
  refine C.seq ?_
  refine C.freeze 0 rfl [1, 2] (by decide) (by decide) ?_
  refine C.freeze 0 rfl [1] (by decide) (by decide) ?_
  refine C.regionM [Rd A3 [.int .i64 x.kind, .int .i64 x.sec, .int .i64 x.at_, .slice XA x.data.length xc], Rd A2 [.int .i64 (f.size : Int), .slice a.D f.data.length a.cD, .slice a.W f.wear.length a.cW, .int .i64 f.limit, .slice a.E f.dead.length a.cE], Rd a.D (rowsV a.hs (B8 f.data)), KidsR a.hs (B8 f.data), Rd a.W (I64 f.wear), Rd a.E (Bs f.dead), Rd XA (U8 x.data)] ⟨Has.r 0 rfl, Has.r 1 rfl, Has.r 2 rfl, Has.r 3 rfl, Has.r 4 rfl, Has.r 5 rfl, Has.r 6 rfl, trivial⟩ ?_
  refine LM.q 0 rfl (by kernel_rfl) (Ev.loadA rfl rfl rfl (Src.r 1 rfl) rfl rfl (by decide)) rfl ⟨Has.r 0 rfl, Has.r 1 rfl, Has.r 2 rfl, Has.r 3 rfl, Has.r 4 rfl, Has.r 5 rfl, Has.r 6 rfl, trivial⟩ ?_
  refine LM.q 1 rfl (by kernel_rfl) (Ev.loadA rfl rfl rfl (Src.r 0 rfl) rfl rfl (by decide)) rfl ⟨Has.r 0 rfl, Has.r 1 rfl, Has.r 2 rfl, Has.r 3 rfl, Has.r 4 rfl, Has.r 5 rfl, Has.r 6 rfl, trivial⟩ ?_
  refine LM.q 2 rfl (by kernel_rfl) (Ev.fieldAddr rfl rfl rfl rfl rfl rfl (Src.r 1 rfl) (Nat.zero_lt_succ _) rfl) rfl ⟨Has.r 0 rfl, Has.r 1 rfl, Has.r 2 rfl, Has.r 3 rfl, Has.r 4 rfl, Has.r 5 rfl, Has.r 6 rfl, trivial⟩ ?_
  refine LM.q 3 rfl (by kernel_rfl) (Ev.load rfl rfl rfl (Src.r 1 rfl) rfl) rfl ⟨Has.r 0 rfl, Has.r 1 rfl, Has.r 2 rfl, Has.r 3 rfl, Has.r 4 rfl, Has.r 5 rfl, Has.r 6 rfl, trivial⟩ ?_
  refine LM.f 4 rfl (by kernel_rfl) ⟨Has.r 0 rfl, Has.r 1 rfl, Has.r 2 rfl, Has.r 3 rfl, Has.r 4 rfl, Has.r 5 rfl, Has.r 6 rfl, trivial⟩ ?_
  refine L.call (js := []) (js' := [0]) (blank_c f.size (by omega)) rfl rfl rfl (by decide) trivial rfl ?_
  rintro _ _ _ ⟨A10, rfl, rfl, rfl⟩
  refine L.nil (QE.m (by kernel_rfl) ?_)
  refine LM.f 5 rfl (by kernel_rfl) ⟨Has.r 0 rfl, Has.r 1 rfl, Has.r 2 rfl, Has.r 3 rfl, Has.r 4 rfl, Has.r 5 rfl, Has.r 6 rfl, trivial⟩ ?_
  refine L.freeze 0 rfl [1] (by decide) (by decide) ?_
  refine L.callR (js := []) (js' := [0]) (cut17_c f a hok hh x XA xc hxl (List.replicate f.size 255) _ f.size _ (by simp) (by simp; omega)) rfl rfl rfl (by decide) ⟨(Has.r 3 rfl), (Has.r 4 rfl), (Has.r 5 rfl), (Has.r 6 rfl), (Has.r 7 rfl), (Has.r 0 rfl), trivial⟩ rfl ?_
  rintro _ _ _ ⟨b, hb, rfl, rfl, rfl⟩
  refine L.nil (QE.m (by kernel_rfl) ?_)
  refine LM.q 6 rfl (by kernel_rfl) (Ev.pure rfl) rfl ⟨Has.r 5 rfl, Has.r 6 rfl, Has.r 7 rfl, Has.r 8 rfl, Has.r 9 rfl, Has.r 10 rfl, Has.r 11 rfl, trivial⟩ ?_
  refine LM.f 7 rfl (by kernel_rfl) ⟨Has.r 5 rfl, Has.r 6 rfl, Has.r 7 rfl, Has.r 8 rfl, Has.r 9 rfl, Has.r 10 rfl, Has.r 11 rfl, trivial⟩ ?_
  refine L.step (Ev.pure rfl) rfl ?_
  refine L.nil (QE.m (by kernel_rfl) ?_)
  refine LM.cut [] (by kernel_rfl) ⟨Has.r 5 rfl, Has.r 6 rfl, Has.r 7 rfl, Has.r 8 rfl, Has.r 9 rfl, Has.r 10 rfl, Has.r 11 rfl, trivial⟩ ?_
  refine LM.f 8 rfl (by kernel_rfl) trivial ?_
  refine L.storeA (j := 0) rfl rfl rfl rfl rfl (Nat.zero_lt_succ _) rfl rfl ?_
  refine L.nil (QE.m (by kernel_rfl) ?_)
  refine LM.f 9 rfl (by kernel_rfl) trivial ?_
  refine L.step (Ev.pure rfl) rfl ?_
  refine L.nil (QE.m (by kernel_rfl) ?_)
  refine LM.nil (by kernel_rfl) trivial ?_
  refine QE.seq ?_
  refine C.ret ?_
  refine QE.ret (js := [0, 1, 2, 3]) (hs := []) (vs := [_, _]) rfl ⟨⟨_, _, 0, _, rfl, rfl, Src.o 0 rfl, .inl ⟨rfl, by decide, _, rfl, rfl, rfl⟩⟩, rfl, trivial⟩ (by decide) ?_
  rw [cutR_congr (mk' := fun _ => 255) (fun i hi => getD_rep _ _ _ _ hi)] at hb ⊢
  exact ⟨b, hb, rfl, rfl, rfl⟩

end Go.Proofs.Ythfjkdgopkmgoaa
