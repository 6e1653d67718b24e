/-
  The contracts of Same, SameOp, Sized.
-/
import Derived.Test.YtmbjknampholjaaQWFlD
import Derived.Test.YtmbjknampholjaaQWBase
namespace Go.Proofs.Ytmbjknampholjaa
open Go.Sl

theorem Fo.beq {x y : Fo} (h1 : x.kind = y.kind) (h2 : x.sec = y.sec) (h3 : x.at_ = y.at_) : (x.data == y.data) = decide (x = y) := by
 cases x; cases y
 simp only at h1 h2 h3
 subst h1 h2 h3
 rw [Bool.eq_iff_iff]
 simp

theorem sameF_c (f g : Fl) (a b : Fa) (sf : f.Sm) (sg : g.Sm) (hf : a.hs.length = f.data.length) (hg : b.hs.length = g.data.length) :
   Ctr X 25 [.agg (List.toArray [.int .i64 (f.size : Int), .slice a.D f.data.length a.cD, .slice a.W f.wear.length a.cW, .int .i64 f.limit, .slice a.E f.dead.length a.cE]), .agg (List.toArray [.int .i64 (g.size : Int), .slice b.D g.data.length b.cD, .slice b.W g.wear.length b.cW, .int .i64 g.limit, .slice b.E g.dead.length b.cE])] [Rd a.D (rowsV a.hs (B8 f.data)), KidsR a.hs (B8 f.data), Rd a.W (I64 f.wear), Rd a.E (Bs f.dead), Rd b.D (rowsV b.hs (B8 g.data)), KidsR b.hs (B8 g.data), Rd b.W (I64 g.wear), Rd b.E (Bs g.dead)] [] (fun v R' H' => v = .bool (decide (f = g)) ∧ R' = [] ∧ H' = []) := by
 obtain ⟨sf1, sf2, sf3, sf4⟩ := sf
 obtain ⟨sg1, sg2, sg3, sg4⟩ := sg
 refine Ctr.of (X := X) (fn := Try.f25) Try.func25 rfl (by kernel_rfl) rfl ?_
 intro β
 refine C.seq (C.region ?_)
 refine L.boxA rfl rfl (fun A2 => ?_)
 refine L.boxA rfl rfl (fun A3 => ?_)
 refine Lpu rfl rfl ?_; refine L.nil (QE.seq (C.seq (C.seq ?_))); refine C.freeze 0 rfl [1] (by decide) (by decide) ?_; refine C.freeze 0 rfl [] (by decide) (by decide) ?_; refine C.region ?_; refine L.step (Ev.fieldAddr rfl rfl rfl rfl rfl rfl (Src.r 1 rfl) (Nat.zero_lt_succ _) rfl) rfl ?_; refine L.step (Ev.load rfl rfl rfl (Src.r 1 rfl) rfl) rfl ?_; refine L.step (Ev.fieldAddr rfl rfl rfl rfl rfl rfl (Src.r 0 rfl) (Nat.zero_lt_succ _) rfl) rfl ?_; refine L.step (Ev.load rfl rfl rfl (Src.r 0 rfl) rfl) rfl ?_; refine Lpu rfl rfl ?_; refine Lpu rfl rfl ?_
 refine L.bool 13 rfl (fun hg13 => ?_) (fun hg13 => ?_)
 · skip
   replace hg13 := b_ne hg13
   refine L.no rfl rfl rfl ?_; refine L.no rfl rfl rfl ?_; refine L.no rfl rfl rfl ?_; refine L.no rfl rfl rfl ?_; refine L.no rfl rfl rfl ?_; refine Lpu rfl rfl ?_; refine Lpu rfl rfl ?_; refine L.no rfl rfl rfl ?_; refine L.no rfl rfl rfl ?_; refine L.no rfl rfl rfl ?_; refine L.no rfl rfl rfl ?_; refine L.no rfl rfl rfl ?_; refine L.no rfl rfl rfl ?_; refine L.no rfl rfl rfl ?_; refine Lpu rfl rfl ?_; refine Lpu rfl rfl ?_; refine L.no rfl rfl rfl ?_; refine L.no rfl rfl rfl ?_; refine L.no rfl rfl rfl ?_; refine L.no rfl rfl rfl ?_; refine L.no rfl rfl rfl ?_; refine L.no rfl rfl rfl ?_; refine L.no rfl rfl rfl ?_; refine Lpu rfl rfl ?_; refine Lpu rfl rfl ?_; refine L.no rfl rfl rfl ?_; refine L.no rfl rfl rfl ?_; refine L.no rfl rfl rfl ?_; refine L.no rfl rfl rfl ?_; refine L.no rfl rfl rfl ?_; refine L.no rfl rfl rfl ?_; refine L.no rfl rfl rfl ?_; refine Lpu rfl rfl ?_; refine L.nil (QE.seq ?_)
   refine C.cond rfl (fun _ => ?_) (fun h => by cases h)
   refine C.seq (C.region ?_); refine Lpu rfl rfl ?_; refine L.nil (QE.seq (C.ret (QE.tR ?_))); refine QE.ret (js := []) (hs := []) (vs := [_]) rfl ⟨rfl, trivial⟩ (by decide) ?_
   refine ⟨congrArg Value.bool (Eq.symm (decide_eq_false fun h => ?_)), rfl, rfl⟩
   subst h
   omega
 · skip
   replace hg13 := b_eq hg13
   refine L.yes rfl ?_; refine L.step (Ev.fieldAddr rfl rfl rfl rfl rfl rfl (Src.r 1 rfl) (Nat.zero_lt_succ _) rfl) rfl ?_; refine L.yes rfl ?_; refine L.step (Ev.load rfl rfl rfl (Src.r 1 rfl) rfl) rfl ?_; refine L.yes rfl ?_; refine L.step (Ev.fieldAddr rfl rfl rfl rfl rfl rfl (Src.r 0 rfl) (Nat.zero_lt_succ _) rfl) rfl ?_; refine L.yes rfl ?_; refine L.step (Ev.load rfl rfl rfl (Src.r 0 rfl) rfl) rfl ?_; refine L.yes rfl ?_; refine Lpu rfl rfl ?_; refine Lpu rfl rfl ?_; refine Lpu rfl rfl ?_
   refine L.bool 20 rfl (fun hg20 => ?_) (fun hg20 => ?_)
   · skip
     replace hg20 := b_ne hg20
     refine L.no rfl rfl rfl ?_; refine L.no rfl rfl rfl ?_; refine L.no rfl rfl rfl ?_; refine L.no rfl rfl rfl ?_; refine L.no rfl rfl rfl ?_; refine L.no rfl rfl rfl ?_; refine L.no rfl rfl rfl ?_; refine Lpu rfl rfl ?_; refine Lpu rfl rfl ?_; refine L.no rfl rfl rfl ?_; refine L.no rfl rfl rfl ?_; refine L.no rfl rfl rfl ?_; refine L.no rfl rfl rfl ?_; refine L.no rfl rfl rfl ?_; refine L.no rfl rfl rfl ?_; refine L.no rfl rfl rfl ?_; refine Lpu rfl rfl ?_; refine Lpu rfl rfl ?_; refine L.no rfl rfl rfl ?_; refine L.no rfl rfl rfl ?_; refine L.no rfl rfl rfl ?_; refine L.no rfl rfl rfl ?_; refine L.no rfl rfl rfl ?_; refine L.no rfl rfl rfl ?_; refine L.no rfl rfl rfl ?_; refine Lpu rfl rfl ?_; refine L.nil (QE.seq ?_)
     refine C.cond rfl (fun _ => ?_) (fun h => by cases h)
     refine C.seq (C.region ?_); refine Lpu rfl rfl ?_; refine L.nil (QE.seq (C.ret (QE.tR ?_))); refine QE.ret (js := []) (hs := []) (vs := [_]) rfl ⟨rfl, trivial⟩ (by decide) ?_
     refine ⟨congrArg Value.bool (Eq.symm (decide_eq_false fun h => ?_)), rfl, rfl⟩
     subst h
     omega
   · skip
     replace hg20 := b_eq hg20
     refine L.yes rfl ?_; refine L.step (Ev.fieldAddr rfl rfl rfl rfl rfl rfl (Src.r 1 rfl) (Nat.zero_lt_succ _) rfl) rfl ?_; refine L.yes rfl ?_; refine L.step (Ev.load rfl rfl rfl (Src.r 1 rfl) rfl) rfl ?_; refine L.yes rfl ?_; refine Lpu rfl rfl ?_; refine L.yes rfl ?_; refine L.step (Ev.fieldAddr rfl rfl rfl rfl rfl rfl (Src.r 0 rfl) (Nat.zero_lt_succ _) rfl) rfl ?_; refine L.yes rfl ?_; refine L.step (Ev.load rfl rfl rfl (Src.r 0 rfl) rfl) rfl ?_; refine L.yes rfl ?_; refine Lpu rfl rfl ?_; refine L.yes rfl ?_; refine Lpu rfl rfl ?_; refine Lpu rfl rfl ?_; refine Lpu rfl rfl ?_
     refine L.bool 29 rfl (fun hg29 => ?_) (fun hg29 => ?_)
     · skip
       replace hg29 := b_ne hg29
       refine L.no rfl rfl rfl ?_; refine L.no rfl rfl rfl ?_; refine L.no rfl rfl rfl ?_; refine L.no rfl rfl rfl ?_; refine L.no rfl rfl rfl ?_; refine L.no rfl rfl rfl ?_; refine L.no rfl rfl rfl ?_; refine Lpu rfl rfl ?_; refine Lpu rfl rfl ?_; refine L.no rfl rfl rfl ?_; refine L.no rfl rfl rfl ?_; refine L.no rfl rfl rfl ?_; refine L.no rfl rfl rfl ?_; refine L.no rfl rfl rfl ?_; refine L.no rfl rfl rfl ?_; refine L.no rfl rfl rfl ?_; refine Lpu rfl rfl ?_; refine L.nil (QE.seq ?_)
       refine C.cond rfl (fun _ => ?_) (fun h => by cases h)
       refine C.seq (C.region ?_); refine Lpu rfl rfl ?_; refine L.nil (QE.seq (C.ret (QE.tR ?_))); refine QE.ret (js := []) (hs := []) (vs := [_]) rfl ⟨rfl, trivial⟩ (by decide) ?_
       refine ⟨congrArg Value.bool (Eq.symm (decide_eq_false fun h => ?_)), rfl, rfl⟩
       subst h
       omega
     · skip
       replace hg29 := b_eq hg29
       refine L.yes rfl ?_; refine L.step (Ev.fieldAddr rfl rfl rfl rfl rfl rfl (Src.r 1 rfl) (Nat.zero_lt_succ _) rfl) rfl ?_; refine L.yes rfl ?_; refine L.step (Ev.load rfl rfl rfl (Src.r 1 rfl) rfl) rfl ?_; refine L.yes rfl ?_; refine Lpu rfl rfl ?_; refine L.yes rfl ?_; refine L.step (Ev.fieldAddr rfl rfl rfl rfl rfl rfl (Src.r 0 rfl) (Nat.zero_lt_succ _) rfl) rfl ?_; refine L.yes rfl ?_; refine L.step (Ev.load rfl rfl rfl (Src.r 0 rfl) rfl) rfl ?_; refine L.yes rfl ?_; refine Lpu rfl rfl ?_; refine L.yes rfl ?_; refine Lpu rfl rfl ?_; refine Lpu rfl rfl ?_; refine Lpu rfl rfl ?_
       refine L.bool 38 rfl (fun hg38 => ?_) (fun hg38 => ?_)
       · skip
         replace hg38 := b_ne hg38
         refine L.no rfl rfl rfl ?_; refine L.no rfl rfl rfl ?_; refine L.no rfl rfl rfl ?_; refine L.no rfl rfl rfl ?_; refine L.no rfl rfl rfl ?_; refine L.no rfl rfl rfl ?_; refine L.no rfl rfl rfl ?_; refine Lpu rfl rfl ?_; refine L.nil (QE.seq ?_)
         refine C.cond rfl (fun _ => ?_) (fun h => by cases h)
         refine C.seq (C.region ?_); refine Lpu rfl rfl ?_; refine L.nil (QE.seq (C.ret (QE.tR ?_))); refine QE.ret (js := []) (hs := []) (vs := [_]) rfl ⟨rfl, trivial⟩ (by decide) ?_
         refine ⟨congrArg Value.bool (Eq.symm (decide_eq_false fun h => ?_)), rfl, rfl⟩
         subst h
         omega
       · skip
         replace hg38 := b_eq hg38
         refine L.yes rfl ?_; refine L.step (Ev.fieldAddr rfl rfl rfl rfl rfl rfl (Src.r 1 rfl) (Nat.zero_lt_succ _) rfl) rfl ?_; refine L.yes rfl ?_; refine L.step (Ev.load rfl rfl rfl (Src.r 1 rfl) rfl) rfl ?_; refine L.yes rfl ?_; refine Lpu rfl rfl ?_; refine L.yes rfl ?_; refine L.step (Ev.fieldAddr rfl rfl rfl rfl rfl rfl (Src.r 0 rfl) (Nat.zero_lt_succ _) rfl) rfl ?_; refine L.yes rfl ?_; refine L.step (Ev.load rfl rfl rfl (Src.r 0 rfl) rfl) rfl ?_; refine L.yes rfl ?_; refine Lpu rfl rfl ?_; refine L.yes rfl ?_; refine Lpu rfl rfl ?_; refine Lpu rfl rfl ?_; refine L.nil (QE.seq ?_)
         refine C.condB 46 rfl (fun hc46 => ?_) (fun hc46 => ?_)
         · skip
           replace hc46 := b_ne hc46
           refine C.seq (C.region ?_); refine Lpu rfl rfl ?_; refine L.nil (QE.seq (C.ret (QE.tR ?_))); refine QE.ret (js := []) (hs := []) (vs := [_]) rfl ⟨rfl, trivial⟩ (by decide) ?_
           refine ⟨congrArg Value.bool (Eq.symm (decide_eq_false fun h => ?_)), rfl, rfl⟩
           subst h
           omega
         · skip
           replace hc46 := b_eq hc46
           refine C.skip (QE.seq (C.seq (C.seq (C.region ?_)))); refine Lpu rfl rfl ?_; refine L.nil (QE.seq (C.block ?_)); refine C.loop (fun k : Nat => [(0, .agg (List.toArray [.int .i64 (f.size : Int), .slice a.D f.data.length a.cD, .slice a.W f.wear.length a.cW, .int .i64 f.limit, .slice a.E f.dead.length a.cE])), (1, .agg (List.toArray [.int .i64 (g.size : Int), .slice b.D g.data.length b.cD, .slice b.W g.wear.length b.cW, .int .i64 g.limit, .slice b.E g.dead.length b.cE])), (2, ptrOf A2 0), (3, ptrOf A3 0), (5, .int .i64 (k : Int))]) (fun k : Nat => [Rd A3 [.int .i64 (g.size : Int), .slice b.D g.data.length b.cD, .slice b.W g.wear.length b.cW, .int .i64 g.limit, .slice b.E g.dead.length b.cE], Rd A2 [.int .i64 (f.size : Int), .slice a.D f.data.length a.cD, .slice a.W f.wear.length a.cW, .int .i64 f.limit, .slice a.E f.dead.length a.cE], Rd a.D (rowsV a.hs (B8 f.data)), KidsR a.hs (B8 f.data), Rd a.W (I64 f.wear), Rd a.E (Bs f.dead), Rd b.D (rowsV b.hs (B8 g.data)), KidsR b.hs (B8 g.data), Rd b.W (I64 g.wear), Rd b.E (Bs g.dead)]) (fun k : Nat => []) (fun k : Nat => k ≤ f.data.length ∧ ∀ i, i < k → f.data.getD i [] = g.data.getD i []) (fun k : Nat => f.data.length - k) 0 ⟨by omega, fun i h => absurd h (Nat.not_lt_zero i)⟩ (by exact Le.mk' (rs := [0, 1, 2, 3, 4, 5, 6, 7, 8, 9]) (hs := []) ⟨rfl, rfl, rfl, rfl, rfl, trivial⟩ ⟨rfl, rfl, rfl, rfl, rfl, rfl, rfl, rfl, rfl, rfl, trivial⟩ trivial (by decide)) ?_
           rintro k ⟨hk5, hr5⟩
           refine C.seq (C.seq (C.region ?_)); refine Lpu rfl rfl ?_; refine L.step (Ev.fieldAddr rfl rfl rfl rfl rfl rfl (Src.r 1 rfl) (Nat.zero_lt_succ _) rfl) rfl ?_; refine L.step (Ev.load rfl rfl rfl (Src.r 1 rfl) rfl) rfl ?_; refine Lpu rfl rfl ?_; refine Lpu rfl rfl ?_; refine L.nil (QE.seq ?_)
           refine C.condB 51 rfl (fun hc51 => ?_) (fun hc51 => ?_)
           · skip
             replace hc51 := of_decide_eq_true hc51
             refine C.skip (QE.seq (C.seq (C.block (C.seq ?_)))); refine C.regionQ (by kernel_rfl) ?_; refine LQ.step (Ev.fieldAddr rfl rfl rfl rfl rfl rfl (Src.r 1 rfl) (Nat.zero_lt_succ _) rfl) rfl ?_; refine LQ.step (Ev.load rfl rfl rfl (Src.r 1 rfl) rfl) rfl ?_; refine LQ.step (Ev.pure rfl) rfl ?_; refine LQ.step (Ev.idx1 (k := k) rfl rfl rfl rfl rfl rfl rfl (by omega) (Src.r 2 rfl) (by rw [rowsV_len (by rw [B8_len]; exact hf), B8_len]; omega)) rfl ?_; refine LQ.step (Ev.load rfl rfl rfl (Src.r 2 rfl) (rows8_get hf (by omega))) rfl ?_; refine LQ.step (Ev.fieldAddr rfl rfl rfl rfl rfl rfl (Src.r 0 rfl) (Nat.zero_lt_succ _) rfl) rfl ?_; refine LQ.step (Ev.load rfl rfl rfl (Src.r 0 rfl) rfl) rfl ?_; refine LQ.step (Ev.pure rfl) rfl ?_; refine LQ.step (Ev.idx1 (k := k) rfl rfl rfl rfl rfl rfl rfl (by omega) (Src.r 6 rfl) (by rw [rowsV_len (by rw [B8_len]; exact hg), B8_len]; omega)) rfl ?_; refine LQ.step (Ev.load rfl rfl rfl (Src.r 6 rfl) (rows8_get hg (by omega))) rfl ?_; refine LQ.call (.bool (f.data.getD k [] == g.data.getD k [])) (same_c _ _ _ _ _ _ (Nat.le_trans (sf4 k) (by decide)) (Nat.le_trans (sg4 k) (by decide))) (fun _ _ _ h => h.1) rfl ⟨((Has.kid 3 rfl (by rw [B8_len]; exact hf) (k) (by rw [B8_len]; omega)).cast (B8_get _)), ((Has.kid 7 rfl (by rw [B8_len]; exact hg) (k) (by rw [B8_len]; omega)).cast (B8_get _)), trivial⟩ rfl ?_; refine LQ.step (Ev.pure rfl) rfl ?_; refine LQ.nil ?_; refine QE.seq ?_
             refine C.condB 65 rfl (fun hc65 => ?_) (fun hc65 => ?_)
             · skip
               refine C.seq (C.region ?_); refine Lpu rfl rfl ?_; refine L.nil (QE.seq (C.ret (QE.bR (QE.tR (QE.tR (QE.bR (QE.tR ?_))))))); refine QE.ret (js := []) (hs := []) (vs := [_]) rfl ⟨rfl, trivial⟩ (by decide) ?_
               refine ⟨congrArg Value.bool (Eq.symm (decide_eq_false fun h => ?_)), rfl, rfl⟩
               subst h
               simp at hc65
             · skip
               refine C.skip ?_; refine QE.blkN ?_; refine QE.seq (C.region ?_); refine Lpu rfl rfl ?_; refine L.step (Ev.add rfl rfl (by omega) (by omega)) rfl ?_; refine Lpu rfl rfl ?_; refine L.nil ?_
               refine QE.round (k + 1) ?_ (by omega) (by exact Le.mk' (rs := [0, 1, 2, 3, 4, 5, 6, 7, 8, 9]) (hs := []) ⟨rfl, rfl, rfl, rfl, rfl, trivial⟩ ⟨rfl, rfl, rfl, rfl, rfl, rfl, rfl, rfl, rfl, rfl, trivial⟩ trivial (by decide))
               · refine ⟨by omega, fun i hi => ?_⟩
                 by_cases hik : i < k
                 · exact hr5 i hik
                 · obtain rfl : i = k := by omega
                   exact eq_of_beq (by simpa using hc65)
           · skip
             replace hc51 := of_decide_eq_false hc51
             refine C.exit ?_; refine QE.tX ?_; refine QE.tX ?_; refine QE.blk ?_; refine QE.seq (C.seq (C.seq (C.region ?_))); refine Lpu rfl rfl ?_; refine L.nil (QE.seq (C.block ?_)); refine C.loop (fun k : Nat => [(0, .agg (List.toArray [.int .i64 (f.size : Int), .slice a.D f.data.length a.cD, .slice a.W f.wear.length a.cW, .int .i64 f.limit, .slice a.E f.dead.length a.cE])), (1, .agg (List.toArray [.int .i64 (g.size : Int), .slice b.D g.data.length b.cD, .slice b.W g.wear.length b.cW, .int .i64 g.limit, .slice b.E g.dead.length b.cE])), (2, ptrOf A2 0), (3, ptrOf A3 0), (6, .int .i64 (k : Int))]) (fun k : Nat => [Rd A3 [.int .i64 (g.size : Int), .slice b.D g.data.length b.cD, .slice b.W g.wear.length b.cW, .int .i64 g.limit, .slice b.E g.dead.length b.cE], Rd A2 [.int .i64 (f.size : Int), .slice a.D f.data.length a.cD, .slice a.W f.wear.length a.cW, .int .i64 f.limit, .slice a.E f.dead.length a.cE], Rd a.D (rowsV a.hs (B8 f.data)), KidsR a.hs (B8 f.data), Rd a.W (I64 f.wear), Rd a.E (Bs f.dead), Rd b.D (rowsV b.hs (B8 g.data)), KidsR b.hs (B8 g.data), Rd b.W (I64 g.wear), Rd b.E (Bs g.dead)]) (fun k : Nat => []) (fun k : Nat => k ≤ f.wear.length ∧ ∀ i, i < k → f.wear.getD i 0 = g.wear.getD i 0) (fun k : Nat => f.wear.length - k) 0 ⟨by omega, fun i h => absurd h (Nat.not_lt_zero i)⟩ (by exact Le.mk' (rs := [0, 1, 2, 3, 4, 5, 6, 7, 8, 9]) (hs := []) ⟨rfl, rfl, rfl, rfl, rfl, trivial⟩ ⟨rfl, rfl, rfl, rfl, rfl, rfl, rfl, rfl, rfl, rfl, trivial⟩ trivial (by decide)) ?_
             rintro k ⟨hk6, hr6⟩
             refine C.seq (C.seq (C.region ?_)); refine Lpu rfl rfl ?_; refine L.step (Ev.fieldAddr rfl rfl rfl rfl rfl rfl (Src.r 1 rfl) (Nat.zero_lt_succ _) rfl) rfl ?_; refine L.step (Ev.load rfl rfl rfl (Src.r 1 rfl) rfl) rfl ?_; refine Lpu rfl rfl ?_; refine Lpu rfl rfl ?_; refine L.nil (QE.seq ?_)
             refine C.condB 70 rfl (fun hc70 => ?_) (fun hc70 => ?_)
             · skip
               replace hc70 := of_decide_eq_true hc70
               refine C.skip (QE.seq (C.seq (C.block (C.seq ?_)))); refine C.regionQ (by kernel_rfl) ?_; refine LQ.step (Ev.fieldAddr rfl rfl rfl rfl rfl rfl (Src.r 1 rfl) (Nat.zero_lt_succ _) rfl) rfl ?_; refine LQ.step (Ev.load rfl rfl rfl (Src.r 1 rfl) rfl) rfl ?_; refine LQ.step (Ev.pure rfl) rfl ?_; refine LQ.step (Ev.idx1 (k := k) rfl rfl rfl rfl rfl rfl rfl (by omega) (Src.r 4 rfl) (by rw [I64_len]; omega)) rfl ?_; refine LQ.step (Ev.load rfl rfl rfl (Src.r 4 rfl) (I64_get (by omega))) rfl ?_; refine LQ.step (Ev.fieldAddr rfl rfl rfl rfl rfl rfl (Src.r 0 rfl) (Nat.zero_lt_succ _) rfl) rfl ?_; refine LQ.step (Ev.load rfl rfl rfl (Src.r 0 rfl) rfl) rfl ?_; refine LQ.step (Ev.pure rfl) rfl ?_; refine LQ.step (Ev.idx1 (k := k) rfl rfl rfl rfl rfl rfl rfl (by omega) (Src.r 8 rfl) (by rw [I64_len]; omega)) rfl ?_; refine LQ.step (Ev.load rfl rfl rfl (Src.r 8 rfl) (I64_get (by omega))) rfl ?_; refine LQ.step (Ev.pure rfl) rfl ?_; refine LQ.nil ?_; refine QE.seq ?_
               refine C.condB 83 rfl (fun hc83 => ?_) (fun hc83 => ?_)
               · skip
                 replace hc83 := b_ne hc83
                 refine C.seq (C.region ?_); refine Lpu rfl rfl ?_; refine L.nil (QE.seq (C.ret (QE.bR (QE.tR (QE.tR (QE.bR (QE.tR ?_))))))); refine QE.ret (js := []) (hs := []) (vs := [_]) rfl ⟨rfl, trivial⟩ (by decide) ?_
                 refine ⟨congrArg Value.bool (Eq.symm (decide_eq_false fun h => ?_)), rfl, rfl⟩
                 subst h
                 exact hc83 rfl
               · skip
                 replace hc83 := b_eq hc83
                 refine C.skip ?_; refine QE.blkN ?_; refine QE.seq (C.region ?_); refine Lpu rfl rfl ?_; refine L.step (Ev.add rfl rfl (by omega) (by omega)) rfl ?_; refine Lpu rfl rfl ?_; refine L.nil ?_
                 refine QE.round (k + 1) ?_ (by omega) (by exact Le.mk' (rs := [0, 1, 2, 3, 4, 5, 6, 7, 8, 9]) (hs := []) ⟨rfl, rfl, rfl, rfl, rfl, trivial⟩ ⟨rfl, rfl, rfl, rfl, rfl, rfl, rfl, rfl, rfl, rfl, trivial⟩ trivial (by decide))
                 · refine ⟨by omega, fun i hi => ?_⟩
                   by_cases hik : i < k
                   · exact hr6 i hik
                   · obtain rfl : i = k := by omega
                     omega
             · skip
               replace hc70 := of_decide_eq_false hc70
               refine C.exit ?_; refine QE.tX ?_; refine QE.tX ?_; refine QE.blk ?_; refine QE.seq (C.seq (C.seq (C.region ?_))); refine Lpu rfl rfl ?_; refine L.nil (QE.seq (C.block ?_)); refine C.loop (fun k : Nat => [(0, .agg (List.toArray [.int .i64 (f.size : Int), .slice a.D f.data.length a.cD, .slice a.W f.wear.length a.cW, .int .i64 f.limit, .slice a.E f.dead.length a.cE])), (1, .agg (List.toArray [.int .i64 (g.size : Int), .slice b.D g.data.length b.cD, .slice b.W g.wear.length b.cW, .int .i64 g.limit, .slice b.E g.dead.length b.cE])), (2, ptrOf A2 0), (3, ptrOf A3 0), (7, .int .i64 (k : Int))]) (fun k : Nat => [Rd A3 [.int .i64 (g.size : Int), .slice b.D g.data.length b.cD, .slice b.W g.wear.length b.cW, .int .i64 g.limit, .slice b.E g.dead.length b.cE], Rd A2 [.int .i64 (f.size : Int), .slice a.D f.data.length a.cD, .slice a.W f.wear.length a.cW, .int .i64 f.limit, .slice a.E f.dead.length a.cE], Rd a.D (rowsV a.hs (B8 f.data)), KidsR a.hs (B8 f.data), Rd a.W (I64 f.wear), Rd a.E (Bs f.dead), Rd b.D (rowsV b.hs (B8 g.data)), KidsR b.hs (B8 g.data), Rd b.W (I64 g.wear), Rd b.E (Bs g.dead)]) (fun k : Nat => []) (fun k : Nat => k ≤ f.dead.length ∧ ∀ i, i < k → f.dead.getD i false = g.dead.getD i false) (fun k : Nat => f.dead.length - k) 0 ⟨by omega, fun i h => absurd h (Nat.not_lt_zero i)⟩ (by exact Le.mk' (rs := [0, 1, 2, 3, 4, 5, 6, 7, 8, 9]) (hs := []) ⟨rfl, rfl, rfl, rfl, rfl, trivial⟩ ⟨rfl, rfl, rfl, rfl, rfl, rfl, rfl, rfl, rfl, rfl, trivial⟩ trivial (by decide)) ?_
               rintro k ⟨hk7, hr7⟩
               refine C.seq (C.seq (C.region ?_)); refine Lpu rfl rfl ?_; refine L.step (Ev.fieldAddr rfl rfl rfl rfl rfl rfl (Src.r 1 rfl) (Nat.zero_lt_succ _) rfl) rfl ?_; refine L.step (Ev.load rfl rfl rfl (Src.r 1 rfl) rfl) rfl ?_; refine Lpu rfl rfl ?_; refine Lpu rfl rfl ?_; refine L.nil (QE.seq ?_)
               refine C.condB 88 rfl (fun hc88 => ?_) (fun hc88 => ?_)
               · skip
                 replace hc88 := of_decide_eq_true hc88
                 refine C.skip (QE.seq (C.seq (C.block (C.seq ?_)))); refine C.regionQ (by kernel_rfl) ?_; refine LQ.step (Ev.fieldAddr rfl rfl rfl rfl rfl rfl (Src.r 1 rfl) (Nat.zero_lt_succ _) rfl) rfl ?_; refine LQ.step (Ev.load rfl rfl rfl (Src.r 1 rfl) rfl) rfl ?_; refine LQ.step (Ev.pure rfl) rfl ?_; refine LQ.step (Ev.idx1 (k := k) rfl rfl rfl rfl rfl rfl rfl (by omega) (Src.r 5 rfl) (by rw [Bs_len]; omega)) rfl ?_; refine LQ.step (Ev.load rfl rfl rfl (Src.r 5 rfl) (Bs_get (by omega))) rfl ?_; refine LQ.step (Ev.fieldAddr rfl rfl rfl rfl rfl rfl (Src.r 0 rfl) (Nat.zero_lt_succ _) rfl) rfl ?_; refine LQ.step (Ev.load rfl rfl rfl (Src.r 0 rfl) rfl) rfl ?_; refine LQ.step (Ev.pure rfl) rfl ?_; refine LQ.step (Ev.idx1 (k := k) rfl rfl rfl rfl rfl rfl rfl (by omega) (Src.r 9 rfl) (by rw [Bs_len]; omega)) rfl ?_; refine LQ.step (Ev.load rfl rfl rfl (Src.r 9 rfl) (Bs_get (by omega))) rfl ?_; refine LQ.step (Ev.neBool rfl rfl rfl rfl) rfl ?_; refine LQ.nil ?_; refine QE.seq ?_
                 refine C.condB 101 rfl (fun hc101 => ?_) (fun hc101 => ?_)
                 · skip
                   skip
                   refine C.seq (C.region ?_); refine Lpu rfl rfl ?_; refine L.nil (QE.seq (C.ret (QE.bR (QE.tR (QE.tR (QE.bR (QE.tR ?_))))))); refine QE.ret (js := []) (hs := []) (vs := [_]) rfl ⟨rfl, trivial⟩ (by decide) ?_
                   refine ⟨congrArg Value.bool (Eq.symm (decide_eq_false fun h => ?_)), rfl, rfl⟩
                   subst h
                   simp at hc101
                 · skip
                   skip
                   refine C.skip ?_; refine QE.blkN ?_; refine QE.seq (C.region ?_); refine Lpu rfl rfl ?_; refine L.step (Ev.add rfl rfl (by omega) (by omega)) rfl ?_; refine Lpu rfl rfl ?_; refine L.nil ?_
                   refine QE.round (k + 1) ?_ (by omega) (by exact Le.mk' (rs := [0, 1, 2, 3, 4, 5, 6, 7, 8, 9]) (hs := []) ⟨rfl, rfl, rfl, rfl, rfl, trivial⟩ ⟨rfl, rfl, rfl, rfl, rfl, rfl, rfl, rfl, rfl, rfl, trivial⟩ trivial (by decide))
                   · refine ⟨by omega, fun i hi => ?_⟩
                     by_cases hik : i < k
                     · exact hr7 i hik
                     · obtain rfl : i = k := by omega
                       simpa [-List.getD_eq_getElem?_getD] using hc101
               · skip
                 replace hc88 := of_decide_eq_false hc88
                 refine C.exit ?_; refine QE.tX ?_; refine QE.tX ?_; refine QE.blk ?_; refine QE.seq (C.seq (C.region ?_)); refine Lpu rfl rfl ?_; refine L.nil (QE.seq (C.ret ?_)); refine QE.ret (js := []) (hs := []) (vs := [_]) rfl ⟨rfl, trivial⟩ (by decide) ?_
                 refine ⟨congrArg Value.bool (Eq.symm (decide_eq_true ?_)), rfl, rfl⟩
                 exact Fl.ext_of (by omega) (by omega) (by omega) (by omega) (by omega) (fun i hi => hr5 i (by omega)) (fun i hi => hr6 i (by omega)) (fun i hi => hr7 i (by omega))

theorem sameO_c (x y : Fo) (XA YA : Option Addr) (xc yc : Nat) (hx : x.data.length ≤ 9223372036854775807) (hy : y.data.length ≤ 9223372036854775807) :
   Ctr X 44 [.agg (List.toArray [.int .i64 x.kind, .int .i64 x.sec, .int .i64 x.at_, .slice XA x.data.length xc]), .agg (List.toArray [.int .i64 y.kind, .int .i64 y.sec, .int .i64 y.at_, .slice YA y.data.length yc])] [Rd XA (U8 x.data), Rd YA (U8 y.data)] [] (fun v R' H' => v = .bool (decide (x = y)) ∧ R' = [] ∧ H' = []) := by
 refine Ctr.of (X := X) (fn := Try.f44) Try.func44 rfl (by kernel_rfl) rfl ?_
 intro β
 refine C.seq (C.region ?_)
 refine L.boxA rfl rfl (fun A2 => ?_)
 refine L.boxA rfl rfl (fun A3 => ?_)
 refine Lpu rfl rfl ?_; refine L.nil (QE.seq (C.seq ?_)); refine C.freeze 0 rfl [1] (by decide) (by decide) ?_; refine C.freeze 0 rfl [] (by decide) (by decide) ?_; refine C.region ?_; refine L.step (Ev.fieldAddr rfl rfl rfl rfl rfl rfl (Src.r 1 rfl) (Nat.zero_lt_succ _) rfl) rfl ?_; refine L.step (Ev.load rfl rfl rfl (Src.r 1 rfl) rfl) rfl ?_; refine L.step (Ev.fieldAddr rfl rfl rfl rfl rfl rfl (Src.r 0 rfl) (Nat.zero_lt_succ _) rfl) rfl ?_; refine L.step (Ev.load rfl rfl rfl (Src.r 0 rfl) rfl) rfl ?_; refine Lpu rfl rfl ?_; refine Lpu rfl rfl ?_
 refine L.bool 10 rfl (fun hg10 => ?_) (fun hg10 => ?_)
 · skip
   replace hg10 := i_eq hg10
   refine L.yes rfl ?_; refine L.step (Ev.fieldAddr rfl rfl rfl rfl rfl rfl (Src.r 1 rfl) (Nat.zero_lt_succ _) rfl) rfl ?_; refine L.yes rfl ?_; refine L.step (Ev.load rfl rfl rfl (Src.r 1 rfl) rfl) rfl ?_; refine L.yes rfl ?_; refine L.step (Ev.fieldAddr rfl rfl rfl rfl rfl rfl (Src.r 0 rfl) (Nat.zero_lt_succ _) rfl) rfl ?_; refine L.yes rfl ?_; refine L.step (Ev.load rfl rfl rfl (Src.r 0 rfl) rfl) rfl ?_; refine L.yes rfl ?_; refine Lpu rfl rfl ?_; refine Lpu rfl rfl ?_; refine Lpu rfl rfl ?_
   refine L.bool 17 rfl (fun hg17 => ?_) (fun hg17 => ?_)
   · skip
     replace hg17 := i_eq hg17
     refine L.yes rfl ?_; refine L.step (Ev.fieldAddr rfl rfl rfl rfl rfl rfl (Src.r 1 rfl) (Nat.zero_lt_succ _) rfl) rfl ?_; refine L.yes rfl ?_; refine L.step (Ev.load rfl rfl rfl (Src.r 1 rfl) rfl) rfl ?_; refine L.yes rfl ?_; refine L.step (Ev.fieldAddr rfl rfl rfl rfl rfl rfl (Src.r 0 rfl) (Nat.zero_lt_succ _) rfl) rfl ?_; refine L.yes rfl ?_; refine L.step (Ev.load rfl rfl rfl (Src.r 0 rfl) rfl) rfl ?_; refine L.yes rfl ?_; refine Lpu rfl rfl ?_; refine Lpu rfl rfl ?_; refine Lpu rfl rfl ?_
     refine L.bool 24 rfl (fun hg24 => ?_) (fun hg24 => ?_)
     · skip
       replace hg24 := i_eq hg24
       refine L.yes rfl ?_; refine L.step (Ev.fieldAddr rfl rfl rfl rfl rfl rfl (Src.r 1 rfl) (Nat.zero_lt_succ _) rfl) rfl ?_; refine L.yes rfl ?_; refine L.step (Ev.load rfl rfl rfl (Src.r 1 rfl) rfl) rfl ?_; refine L.yes rfl ?_; refine L.step (Ev.fieldAddr rfl rfl rfl rfl rfl rfl (Src.r 0 rfl) (Nat.zero_lt_succ _) rfl) rfl ?_; refine L.yes rfl ?_; refine L.step (Ev.load rfl rfl rfl (Src.r 0 rfl) rfl) rfl ?_; refine L.yes rfl ?_; refine L.call (js := []) (js' := []) (same_c _ _ _ _ _ _ hx hy) rfl rfl rfl (by decide) ⟨(Has.r 2 rfl), (Has.r 3 rfl), trivial⟩ rfl ?_
       rintro _ _ _ ⟨rfl, rfl, rfl⟩
       refine Lpu rfl rfl ?_; refine Lpu rfl rfl ?_; refine L.nil (QE.seq (C.ret ?_)); refine QE.ret (js := []) (hs := []) (vs := [_]) rfl ⟨rfl, trivial⟩ (by decide) ?_
       refine ⟨congrArg Value.bool ?_, rfl, rfl⟩
       exact Fo.beq hg10 hg17 hg24
     · skip
       replace hg24 := i_ne hg24
       refine L.no rfl rfl rfl ?_; refine L.no rfl rfl rfl ?_; refine L.no rfl rfl rfl ?_; refine L.no rfl rfl rfl ?_; refine L.no rfl rfl rfl ?_; refine Lpu rfl rfl ?_; refine Lpu rfl rfl ?_; refine L.nil (QE.seq (C.ret ?_)); refine QE.ret (js := []) (hs := []) (vs := [_]) rfl ⟨rfl, trivial⟩ (by decide) ?_
       refine ⟨congrArg Value.bool ?_, rfl, rfl⟩
       exact (decide_eq_false fun h => hg24 (by rw [h])).symm
   · skip
     replace hg17 := i_ne hg17
     refine L.no rfl rfl rfl ?_; refine L.no rfl rfl rfl ?_; refine L.no rfl rfl rfl ?_; refine L.no rfl rfl rfl ?_; refine L.no rfl rfl rfl ?_; refine Lpu rfl rfl ?_; refine Lpu rfl rfl ?_; refine L.no rfl rfl rfl ?_; refine L.no rfl rfl rfl ?_; refine L.no rfl rfl rfl ?_; refine L.no rfl rfl rfl ?_; refine L.no rfl rfl rfl ?_; refine Lpu rfl rfl ?_; refine Lpu rfl rfl ?_; refine L.nil (QE.seq (C.ret ?_)); refine QE.ret (js := []) (hs := []) (vs := [_]) rfl ⟨rfl, trivial⟩ (by decide) ?_
     refine ⟨congrArg Value.bool ?_, rfl, rfl⟩
     exact (decide_eq_false fun h => hg17 (by rw [h])).symm
 · skip
   replace hg10 := i_ne hg10
   refine L.no rfl rfl rfl ?_; refine L.no rfl rfl rfl ?_; refine L.no rfl rfl rfl ?_; refine L.no rfl rfl rfl ?_; refine L.no rfl rfl rfl ?_; refine Lpu rfl rfl ?_; refine Lpu rfl rfl ?_; refine L.no rfl rfl rfl ?_; refine L.no rfl rfl rfl ?_; refine L.no rfl rfl rfl ?_; refine L.no rfl rfl rfl ?_; refine L.no rfl rfl rfl ?_; refine Lpu rfl rfl ?_; refine Lpu rfl rfl ?_; refine L.no rfl rfl rfl ?_; refine L.no rfl rfl rfl ?_; refine L.no rfl rfl rfl ?_; refine L.no rfl rfl rfl ?_; refine L.no rfl rfl rfl ?_; refine Lpu rfl rfl ?_; refine Lpu rfl rfl ?_; refine L.nil (QE.seq (C.ret ?_)); refine QE.ret (js := []) (hs := []) (vs := [_]) rfl ⟨rfl, trivial⟩ (by decide) ?_
   refine ⟨congrArg Value.bool ?_, rfl, rfl⟩
   exact (decide_eq_false fun h => hg10 (by rw [h])).symm

end Go.Proofs.Ytmbjknampholjaa
