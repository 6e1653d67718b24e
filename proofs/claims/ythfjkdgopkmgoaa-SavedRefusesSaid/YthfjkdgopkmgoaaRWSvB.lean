/-
  The reading of a saved record, for Restore and for Last.
-/
import Derived.Test.YthfjkdgopkmgoaaRWSvA
import Derived.Test.YthfjkdgopkmgoaaRPm
namespace Go.Proofs.Ythfjkdgopkmgoaa
open Go.Sl

theorem put_c (p : Nat) (B : Option Addr) (b : List UInt8) (n bc : Nat) (CA O : Option Addr) (out : List UInt8) (m oc : Nat) (hn : b.length = n) (hm : out.length = m) (hfit : p + b.length ≤ m) (ho : m ≤ oc) :
    Ctr X 58 [.int .i64 (p : Int), .slice B n bc, ptrOf CA 0] [Rd B (U8 b)] [Own 24 1 CA 1 1 [.slice O m oc], Own 5 1 O m oc (U8 out)] (fun v R' H' => v = .tuple #[] ∧ R' = [] ∧ H' = [Own 24 1 CA 1 1 [.slice O m oc], Own 5 1 O m oc (U8 (putB out p b))]) := by
  refine Ctr.of (X := X) (fn := Try.f58) Try.func58 rfl (by kernel_rfl) rfl ?_
  intro β
  refine C.region ?_
  refine L.step (Ev.load rfl rfl rfl (Src.o 0 rfl) rfl) rfl ?_
  refine L.step (Ev.pure rfl) rfl ?_
  refine L.step (Ev.sliceL (l := p) rfl rfl rfl rfl rfl rfl (by omega)) rfl ?_
  refine L.step (Ev.pure rfl) rfl ?_
  refine L.copy (j := 1) (o := p) rfl rfl rfl rfl rfl (fun g hg hlen => by rw [U8_len] at hlen; rw [hg]; exact subA_at (by omega)) rfl rfl (Src.r 0 rfl) (by rw [U8_len]; omega) (U8_one b) (by rw [U8_len, U8_len]; omega) rfl ?_
  refine L.nil ?_
  refine QE.retN ?_
  refine QE.ret (js := []) (hs := [0, 1]) (vs := []) rfl trivial (by decide) ?_
  refine ⟨rfl, rfl, ?_⟩
  rw [← put8]
  rfl

theorem noop_c (p : Nat) (B : Option Addr) (n bc : Nat) :
    Ctr X 77 [.int .i64 (p : Int), .slice B n bc] [] [] (fun v R' H' => v = .tuple #[] ∧ R' = [] ∧ H' = []) := by
  refine Ctr.of (X := X) (fn := Try.f77) Try.func77 rfl (by kernel_rfl) rfl ?_
  intro β
  refine C.skip ?_
  refine QE.retN ?_
  refine QE.ret (js := []) (hs := []) (vs := []) rfl trivial (by decide) ?_
  exact ⟨rfl, rfl, rfl⟩

set_option maxHeartbeats 1000000 in
theorem readR_c (RB : Option Addr) (rec : List UInt8) (rc : Nat) (size : Int) (hrc : rec.length ≤ rc) (hrl : rec.length ≤ 9223372036854775807) (CA O : Option Addr) (out : List UInt8) (oc : Nat) (ho : out.length ≤ oc) (hsz : size = (out.length : Int)) :
    Ctr X 57 [.slice RB rec.length rc, .int .i64 size, .func (.func 58) #[] #[ptrOf CA 0]] [Rd RB (U8 rec)] [Own 24 1 CA 1 1 [.slice O out.length oc], Own 5 1 O out.length oc (U8 out)] (fun v R' H' => v = .bool (parseS rec size).isSome ∧ R' = [] ∧ ∃ out' : List UInt8, out'.length = out.length ∧ (∀ ps, parseS rec size = some ps → out' = applyP out ps) ∧ H' = [Own 24 1 CA 1 1 [.slice O out.length oc], Own 5 1 O out.length oc (U8 out')]) := by
  refine Ctr.ofD (X := X) (fn := Try.f57) Try.func57 rfl (by kernel_rfl) rfl ?_
  intro β
  refine C.seq ?_
  refine C.region ?_
  refine L.step (Ev.pure rfl) rfl ?_
  refine L.nil ?_
  refine QE.seq ?_
  refine C.seq ?_
  refine C.region ?_
  refine L.defer ?_
  refine L.nil ?_
  refine QE.seq ?_
  refine C.seq ?_
  refine C.seq ?_
  refine C.region ?_
  refine L.step (Ev.pure rfl) rfl ?_
  refine L.step (Ev.pure rfl) rfl ?_
  refine L.step (Ev.pure rfl) rfl ?_
  refine L.step (Ev.pure rfl) rfl ?_
  refine L.bool 11 rfl (fun hg11 => ?_) (fun hg11 => ?_)
  · skip
    replace hg11 := of_decide_eq_true hg11
    refine L.no rfl rfl rfl ?_
    refine L.no rfl rfl rfl ?_
    refine L.no rfl rfl rfl ?_
    refine L.no rfl rfl rfl ?_
    refine L.no rfl rfl rfl ?_
    refine L.step (Ev.pure rfl) rfl ?_
    refine L.nil ?_
    refine QE.seq ?_
    refine C.cond rfl (fun _ => ?_) (fun h => by cases h)
    refine C.seq ?_
    refine C.region ?_
    refine L.step (Ev.pure rfl) rfl ?_
    refine L.nil ?_
    refine QE.seq ?_
    refine C.ret ?_
    refine QE.tR ?_
    have hE := parseS_1 (rec := rec) (size := size) (by omega)
    have hlen : out.length = out.length := rfl
    refine QE.retD (js := []) (hs := [0, 1]) (vs := [_]) rec_ok rfl ⟨rfl, trivial⟩ (by decide) ?_
    refine ⟨by rw [hE]; rfl, rfl, ?_⟩
    exact ⟨_, hlen, (fun ps h => by rw [hE] at h; cases h), rfl⟩
  · skip
    replace hg11 := of_decide_eq_false hg11
    refine L.yes rfl ?_
    refine L.step (Ev.pure rfl) rfl ?_
    refine L.yes rfl ?_
    refine L.step (Ev.idx1 (k := 0) rfl rfl rfl rfl rfl rfl rfl (by omega) (Src.r 0 rfl) (by rw [U8_len]; omega)) rfl ?_
    refine L.yes rfl ?_
    refine L.step (Ev.load rfl rfl rfl (Src.r 0 rfl) (U8_get (by omega))) rfl ?_
    refine L.yes rfl ?_
    first | refine L.step (Ev.byteInt rfl rfl rfl rfl) rfl ?_ | refine L.step (Ev.toInt rfl rfl rfl rfl (by omega) (by omega)) rfl ?_
    refine L.yes rfl ?_
    refine L.step (Ev.pure rfl) rfl ?_
    refine L.step (Ev.pure rfl) rfl ?_
    refine L.nil ?_
    refine QE.seq ?_
    refine C.condB 17 rfl (fun hc17 => ?_) (fun hc17 => ?_)
    · skip
      replace hc17 := of_decide_eq_true hc17
      refine C.seq ?_
      refine C.region ?_
      refine L.step (Ev.pure rfl) rfl ?_
      refine L.nil ?_
      refine QE.seq ?_
      refine C.ret ?_
      refine QE.tR ?_
      have hE := parseS_1 (rec := rec) (size := size) (by omega)
      have hlen : out.length = out.length := rfl
      refine QE.retD (js := []) (hs := [0, 1]) (vs := [_]) rec_ok rfl ⟨rfl, trivial⟩ (by decide) ?_
      refine ⟨by rw [hE]; rfl, rfl, ?_⟩
      exact ⟨_, hlen, (fun ps h => by rw [hE] at h; cases h), rfl⟩
    · skip
      replace hc17 := of_decide_eq_false hc17
      refine C.skip ?_
      refine QE.seq ?_
      refine C.seq ?_
      refine C.region ?_
      refine L.step (Ev.pure rfl) rfl ?_
      refine L.step (Ev.sliceL (l := 1) rfl rfl rfl rfl rfl rfl (by omega)) rfl ?_
      refine L.step (Ev.build rfl rfl rfl rfl rfl rfl rfl) rfl ?_
      refine L.step (Ev.pure rfl) rfl ?_
      refine L.step (Ev.build rfl rfl rfl rfl rfl rfl rfl) rfl ?_
      refine L.boxA rfl rfl (fun A23 => ?_)
      refine L.step (Ev.pure rfl) rfl ?_
      refine L.nil ?_
      refine QE.seq ?_
      refine C.seq ?_
      refine C.seq ?_
      refine C.le (Γ' := [(0, .slice RB rec.length rc), (1, .int .i64 size), (2, .func (.func 58) #[] #[ptrOf CA 0]), (6, .bool false), (7, ptrOf A23 0)]) (R' := [Rd RB (U8 rec)]) (H' := [Own 130 3 A23 1 1 [.slice (subA RB rc 1 1) (rec.drop 1).length (rc - 1), .int .i64 0, .int .i64 size], Own 24 1 CA 1 1 [.slice O out.length oc], Own 5 1 O out.length oc (U8 out)]) (by exact Le.mk' (rs := [0]) (hs := [2, 0, 1]) ⟨rfl, rfl, rfl, rfl, rfl, trivial⟩ ⟨rfl, trivial⟩ ⟨(congrArg some (by rw [List.length_drop]; rfl)), rfl, rfl, trivial⟩ (by decide)) ?_
      have hbig : ¬(rec.length < 5 ∨ 64 ≤ (rec.getD 0 0).toNat) := by omega
      refine C.region ?_
      refine L.step (Ev.pure rfl) rfl ?_
      refine L.step (Ev.nilCheck rfl (Src.o 0 rfl) (Nat.zero_lt_succ _)) rfl ?_
      refine L.step (Ev.fieldAddr rfl rfl rfl rfl rfl rfl (Src.o 0 rfl) (Nat.zero_lt_succ _) rfl) rfl ?_
      refine L.more (r := Rd (subA RB rc 1 1) (U8 (rec.drop 1))) (Has.dropU (Has.r 0 rfl) rc 1 hrc) ?_
      refine L.callE (js := [0]) (js' := [1, 2]) (number_c 130 3 A23 [.int .i64 0, .int .i64 size] (subA RB rc 1 1) (rec.drop 1) (rc - 1) (by rw [List.length_drop]; omega)) rfl rfl rfl (by decide) ⟨(Has.r 0 rfl), trivial⟩ rfl ?_ ?_
      rotate_left
      · skip
        rintro _ _ ⟨h27, rfl, rfl⟩
        rw [List.length_drop] at h27
        refine QE.tP ?_
        refine QE.tP ?_
        refine QE.panD (js := []) (hs := []) (vs := [_]) rec_ok rfl ⟨rfl, trivial⟩ (by decide) ?_
        omega
      rintro _ _ _ ⟨rfl, h27, rfl, rfl⟩
      refine L.step (Ev.pure rfl) rfl ?_
      refine L.nil ?_
      refine QE.seq ?_
      refine C.block ?_
      have hn0 := be2_lt (rec.drop 1)
      refine C.more (r := Rd (subA (subA RB rc 1 1) (rc - 1) 2 1) (U8 ((rec.drop 1).drop 2))) (Has.dropU (Has.r 0 rfl) (rc - 1) 2 (by rw [List.length_drop]; omega)) ?_
      refine C.loop (fun q : Nat × Option Addr × List UInt8 × Nat × Int × List Pc => [(0, .slice RB rec.length rc), (1, .int .i64 size), (2, .func (.func 58) #[] #[ptrOf CA 0]), (6, .bool false), (7, ptrOf A23 0), (27, .int .i64 ((be2 (rec.drop 1)) : Int)), (28, .int .i64 (q.1 : Int))]) (fun q : Nat × Option Addr × List UInt8 × Nat × Int × List Pc => [Rd RB (U8 rec), Rd q.2.1 (U8 q.2.2.1)]) (fun q : Nat × Option Addr × List UInt8 × Nat × Int × List Pc => [Own 130 3 A23 1 1 [.slice q.2.1 q.2.2.1.length q.2.2.2.1, .int .i64 q.2.2.2.2.1, .int .i64 size], Own 24 1 CA 1 1 [.slice O out.length oc], Own 5 1 O out.length oc (U8 (applyP out q.2.2.2.2.2))]) (fun q : Nat × Option Addr × List UInt8 × Nat × Int × List Pc => q.1 ≤ (be2 (rec.drop 1)) ∧ q.2.2.1.length ≤ q.2.2.2.1 ∧ Half (be2 (rec.drop 1)) size ((rec.drop 1).drop 2) ((be2 (rec.drop 1)) - q.1) q.2.2.1 q.2.2.2.2.1 q.2.2.2.2.2 ∧ (applyP out q.2.2.2.2.2).length = out.length) (fun q : Nat × Option Addr × List UInt8 × Nat × Int × List Pc => (be2 (rec.drop 1)) - q.1) (0, (subA (subA RB rc 1 1) (rc - 1) 2 1), ((rec.drop 1).drop 2), (rc - 1 - 2), 0, []) ⟨Nat.zero_le _, by dsimp only; rw [List.length_drop, List.length_drop]; omega, Half.start _ _ _, rfl⟩ (by exact Le.mk' (rs := [2, 0]) (hs := [0, 1, 2]) ⟨rfl, rfl, rfl, rfl, rfl, rfl, rfl, trivial⟩ ⟨rfl, rfl, trivial⟩ ⟨rfl, rfl, rfl, trivial⟩ (by decide)) ?_
      rintro ⟨k, S, l, c, last, ps⟩ ⟨hk, hc, hh, hlen⟩
      dsimp only at hk hc hh hlen ⊢
      refine C.seq ?_
      refine C.region ?_
      refine L.step (Ev.pure rfl) rfl ?_
      refine L.nil ?_
      refine QE.seq ?_
      refine C.seq ?_
      refine C.condB 29 rfl (fun hc29 => ?_) (fun hc29 => ?_)
      · skip
        replace hc29 := of_decide_eq_true hc29
        refine C.skip ?_
        refine QE.seq ?_
        refine C.seq ?_
        refine C.block ?_
        refine C.region ?_
        refine L.step (Ev.pure rfl) rfl ?_
        refine L.step (Ev.pure rfl) rfl ?_
        refine L.callE (js := [0]) (js' := [1, 2]) (piece_c 130 A23 S l c last size hc) rfl rfl rfl (by decide) ⟨(Has.r 1 rfl), trivial⟩ rfl ?_ ?_
        rotate_left
        · skip
          rintro _ _ ⟨hp, rfl, rfl⟩
          refine QE.bP ?_
          refine QE.tP ?_
          refine QE.tP ?_
          refine QE.bP ?_
          refine QE.tP ?_
          have hE := parseS_2 (rec := rec) (size := size) (Half.bad (by rw [show (be2 (rec.drop 1)) - k = (be2 (rec.drop 1)) - (k + 1) + 1 from by omega] at hh; exact hh) hp)
          refine QE.panD (js := []) (hs := [0, 1]) (vs := [_]) rec_ok rfl ⟨rfl, trivial⟩ (by decide) ?_
          refine ⟨by rw [hE]; rfl, rfl, ?_⟩
          exact ⟨_, hlen, (fun ps h => by rw [hE] at h; cases h), rfl⟩
        rintro _ _ _ ⟨hp, rfl, rfl, rfl⟩
        have hp1 := hp
        unfold PieceOk at hp1
        refine L.step (Ev.pure rfl) rfl ?_
        refine L.step (Ev.pure rfl) rfl ?_
        refine L.more (r := Rd (subA (subA S c 2 1) (c - 2) 2 1) (U8 ((l.drop 2).drop 2))) (Has.dropU (Has.dropU (Has.r 1 rfl) c 2 hc) (c - 2) 2 (by rw [List.length_drop]; omega)) ?_
        refine L.more (r := Rd (subA (subA S c 2 1) (c - 2) 2 1) (U8 (((l.drop 2).drop 2).take (be2 (l.drop 2))))) ((Has.take (Has.r 0 rfl) (be2 (l.drop 2))).cast (U8_take _ _)) ?_
        refine L.callv (js := [1, 2]) (js' := [0]) (put_c (be2 l) (subA (subA S c 2 1) (c - 2) 2 1) (((l.drop 2).drop 2).take (be2 (l.drop 2))) (be2 (l.drop 2)) (c - 2 - 2) CA O (applyP out ps) out.length oc (by rw [List.length_take, List.length_drop, List.length_drop]; omega) hlen (by rw [List.length_take, List.length_drop, List.length_drop]; omega) (by omega)) rfl rfl rfl rfl rfl (by decide) ⟨(Has.r 0 rfl), trivial⟩ rfl ?_
        rintro _ _ _ ⟨rfl, rfl, rfl⟩
        refine L.nil ?_
        refine QE.blkN ?_
        refine QE.seq ?_
        refine C.region ?_
        refine L.step (Ev.add rfl rfl (by omega) (by omega)) rfl ?_
        refine L.step (Ev.pure rfl) rfl ?_
        refine L.nil ?_
        refine QE.more (r := Rd (subA (subA (subA S c 2 1) (c - 2) 2 1) (c - 2 - 2) (be2 (l.drop 2)) 1) (U8 (((l.drop 2).drop 2).drop (be2 (l.drop 2))))) (Has.dropU (Has.r 1 rfl) (c - 2 - 2) (be2 (l.drop 2)) (by rw [List.length_drop, List.length_drop]; omega)) ?_
        refine QE.round (i := (k, S, l, c, last, ps)) ((k + 1, (subA (subA (subA S c 2 1) (c - 2) 2 1) (c - 2 - 2) (be2 (l.drop 2)) 1), (((l.drop 2).drop 2).drop (be2 (l.drop 2))), ((c - 2 - 2) - (be2 (l.drop 2))), (be2 l : Int) + ((be2 (l.drop 2)) : Int), ps ++ [(be2 l, ((l.drop 2).drop 2).take (be2 (l.drop 2)))])) (by exact ⟨by dsimp only; omega, by dsimp only; rw [List.length_drop, List.length_drop, List.length_drop]; omega, Half.next (by rw [show (be2 (rec.drop 1)) - (k + 1) + 1 = (be2 (rec.drop 1)) - k from by omega]; exact hh) hp, by dsimp only; rw [applyP_snoc, putB_len (by dsimp only; rw [List.length_take, List.length_drop, List.length_drop]; omega)]; exact hlen⟩) (by dsimp only; omega) (by exact Le.mk' (rs := [3, 0]) (hs := [2, 0, 1]) ⟨rfl, rfl, rfl, rfl, rfl, rfl, rfl, trivial⟩ ⟨rfl, rfl, trivial⟩ ⟨rfl, rfl, (congrArg some (by rw [applyP_snoc])), trivial⟩ (by decide))
      · skip
        replace hc29 := of_decide_eq_false hc29
        obtain rfl : k = (be2 (rec.drop 1)) := by omega
        have hdone := Half.done (by rw [Nat.sub_self] at hh; exact hh)
        refine C.exit ?_
        refine QE.tX ?_
        refine QE.tX ?_
        refine QE.blk ?_
        refine QE.seq ?_
        refine C.seq ?_
        refine C.region ?_
        refine L.step (Ev.pure rfl) rfl ?_
        first | refine L.step (Ev.nilCheck rfl (Src.o 0 rfl) (Nat.zero_lt_succ _)) rfl ?_ | refine L.step (Ev.nilCheck rfl (Src.o 1 rfl) (Nat.zero_lt_succ _)) rfl ?_ | refine L.step (Ev.nilCheck rfl (Src.o 2 rfl) (Nat.zero_lt_succ _)) rfl ?_ | refine L.step (Ev.nilCheck rfl (Src.o 3 rfl) (Nat.zero_lt_succ _)) rfl ?_ | refine L.step (Ev.nilCheck rfl (Src.o 4 rfl) (Nat.zero_lt_succ _)) rfl ?_ | refine L.step (Ev.nilCheck rfl (Src.o 5 rfl) (Nat.zero_lt_succ _)) rfl ?_ | refine L.step (Ev.nilCheck rfl (Src.o 6 rfl) (Nat.zero_lt_succ _)) rfl ?_ | refine L.step (Ev.nilCheck rfl (Src.o 7 rfl) (Nat.zero_lt_succ _)) rfl ?_ | refine L.step (Ev.nilCheck rfl (Src.r 0 rfl) (Nat.zero_lt_succ _)) rfl ?_ | refine L.step (Ev.nilCheck rfl (Src.r 1 rfl) (Nat.zero_lt_succ _)) rfl ?_ | refine L.step (Ev.nilCheck rfl (Src.r 2 rfl) (Nat.zero_lt_succ _)) rfl ?_ | refine L.step (Ev.nilCheck rfl (Src.r 3 rfl) (Nat.zero_lt_succ _)) rfl ?_ | refine L.step (Ev.nilCheck rfl (Src.r 4 rfl) (Nat.zero_lt_succ _)) rfl ?_ | refine L.step (Ev.nilCheck rfl (Src.r 5 rfl) (Nat.zero_lt_succ _)) rfl ?_
        first | refine L.step (Ev.fieldAddr rfl rfl rfl rfl rfl rfl (Src.o 0 rfl) (Nat.zero_lt_succ _) rfl) rfl ?_ | refine L.step (Ev.fieldAddr rfl rfl rfl rfl rfl rfl (Src.o 1 rfl) (Nat.zero_lt_succ _) rfl) rfl ?_ | refine L.step (Ev.fieldAddr rfl rfl rfl rfl rfl rfl (Src.o 2 rfl) (Nat.zero_lt_succ _) rfl) rfl ?_ | refine L.step (Ev.fieldAddr rfl rfl rfl rfl rfl rfl (Src.o 3 rfl) (Nat.zero_lt_succ _) rfl) rfl ?_ | refine L.step (Ev.fieldAddr rfl rfl rfl rfl rfl rfl (Src.o 4 rfl) (Nat.zero_lt_succ _) rfl) rfl ?_ | refine L.step (Ev.fieldAddr rfl rfl rfl rfl rfl rfl (Src.o 5 rfl) (Nat.zero_lt_succ _) rfl) rfl ?_ | refine L.step (Ev.fieldAddr rfl rfl rfl rfl rfl rfl (Src.o 6 rfl) (Nat.zero_lt_succ _) rfl) rfl ?_ | refine L.step (Ev.fieldAddr rfl rfl rfl rfl rfl rfl (Src.o 7 rfl) (Nat.zero_lt_succ _) rfl) rfl ?_ | refine L.step (Ev.fieldAddr rfl rfl rfl rfl rfl rfl (Src.r 0 rfl) (Nat.zero_lt_succ _) rfl) rfl ?_ | refine L.step (Ev.fieldAddr rfl rfl rfl rfl rfl rfl (Src.r 1 rfl) (Nat.zero_lt_succ _) rfl) rfl ?_ | refine L.step (Ev.fieldAddr rfl rfl rfl rfl rfl rfl (Src.r 2 rfl) (Nat.zero_lt_succ _) rfl) rfl ?_ | refine L.step (Ev.fieldAddr rfl rfl rfl rfl rfl rfl (Src.r 3 rfl) (Nat.zero_lt_succ _) rfl) rfl ?_ | refine L.step (Ev.fieldAddr rfl rfl rfl rfl rfl rfl (Src.r 4 rfl) (Nat.zero_lt_succ _) rfl) rfl ?_ | refine L.step (Ev.fieldAddr rfl rfl rfl rfl rfl rfl (Src.r 5 rfl) (Nat.zero_lt_succ _) rfl) rfl ?_
        refine L.callE (js := [0]) (js' := [1, 2]) (number_c 130 3 A23 [.int .i64 last, .int .i64 size] S l c hc) rfl rfl rfl (by decide) ⟨(Has.r 1 rfl), trivial⟩ rfl ?_ ?_
        rotate_left
        · skip
          rintro _ _ ⟨h40, rfl, rfl⟩
          have hE := parseS_3 hbig hdone
          rw [if_neg (by omega)] at hE
          refine QE.tP ?_
          refine QE.panD (js := []) (hs := [0, 1]) (vs := [_]) rec_ok rfl ⟨rfl, trivial⟩ (by decide) ?_
          refine ⟨by rw [hE]; rfl, rfl, ?_⟩
          exact ⟨_, hlen, (fun ps h => by rw [hE] at h; cases h), rfl⟩
        rintro _ _ _ ⟨rfl, h40, rfl, rfl⟩
        have hE := parseS_3 hbig hdone
        refine L.step (Ev.pure rfl) rfl ?_
        refine L.step (Ev.pure rfl) rfl ?_
        refine L.step (Ev.pure rfl) rfl ?_
        refine L.step (Ev.pure rfl) rfl ?_
        refine L.bool 44 rfl (fun hg44 => ?_) (fun hg44 => ?_)
        · skip
          replace hg44 := i_eq hg44
          refine L.yes rfl ?_
          refine L.step (Ev.pure rfl) rfl ?_
          refine L.yes rfl ?_
          first | refine L.step (Ev.nilCheck rfl (Src.o 0 rfl) (Nat.zero_lt_succ _)) rfl ?_ | refine L.step (Ev.nilCheck rfl (Src.o 1 rfl) (Nat.zero_lt_succ _)) rfl ?_ | refine L.step (Ev.nilCheck rfl (Src.o 2 rfl) (Nat.zero_lt_succ _)) rfl ?_ | refine L.step (Ev.nilCheck rfl (Src.o 3 rfl) (Nat.zero_lt_succ _)) rfl ?_ | refine L.step (Ev.nilCheck rfl (Src.o 4 rfl) (Nat.zero_lt_succ _)) rfl ?_ | refine L.step (Ev.nilCheck rfl (Src.o 5 rfl) (Nat.zero_lt_succ _)) rfl ?_ | refine L.step (Ev.nilCheck rfl (Src.o 6 rfl) (Nat.zero_lt_succ _)) rfl ?_ | refine L.step (Ev.nilCheck rfl (Src.o 7 rfl) (Nat.zero_lt_succ _)) rfl ?_ | refine L.step (Ev.nilCheck rfl (Src.r 0 rfl) (Nat.zero_lt_succ _)) rfl ?_ | refine L.step (Ev.nilCheck rfl (Src.r 1 rfl) (Nat.zero_lt_succ _)) rfl ?_ | refine L.step (Ev.nilCheck rfl (Src.r 2 rfl) (Nat.zero_lt_succ _)) rfl ?_ | refine L.step (Ev.nilCheck rfl (Src.r 3 rfl) (Nat.zero_lt_succ _)) rfl ?_ | refine L.step (Ev.nilCheck rfl (Src.r 4 rfl) (Nat.zero_lt_succ _)) rfl ?_ | refine L.step (Ev.nilCheck rfl (Src.r 5 rfl) (Nat.zero_lt_succ _)) rfl ?_
          refine L.yes rfl ?_
          first | refine L.step (Ev.fieldAddr rfl rfl rfl rfl rfl rfl (Src.o 0 rfl) (Nat.zero_lt_succ _) rfl) rfl ?_ | refine L.step (Ev.fieldAddr rfl rfl rfl rfl rfl rfl (Src.o 1 rfl) (Nat.zero_lt_succ _) rfl) rfl ?_ | refine L.step (Ev.fieldAddr rfl rfl rfl rfl rfl rfl (Src.o 2 rfl) (Nat.zero_lt_succ _) rfl) rfl ?_ | refine L.step (Ev.fieldAddr rfl rfl rfl rfl rfl rfl (Src.o 3 rfl) (Nat.zero_lt_succ _) rfl) rfl ?_ | refine L.step (Ev.fieldAddr rfl rfl rfl rfl rfl rfl (Src.o 4 rfl) (Nat.zero_lt_succ _) rfl) rfl ?_ | refine L.step (Ev.fieldAddr rfl rfl rfl rfl rfl rfl (Src.o 5 rfl) (Nat.zero_lt_succ _) rfl) rfl ?_ | refine L.step (Ev.fieldAddr rfl rfl rfl rfl rfl rfl (Src.o 6 rfl) (Nat.zero_lt_succ _) rfl) rfl ?_ | refine L.step (Ev.fieldAddr rfl rfl rfl rfl rfl rfl (Src.o 7 rfl) (Nat.zero_lt_succ _) rfl) rfl ?_ | refine L.step (Ev.fieldAddr rfl rfl rfl rfl rfl rfl (Src.r 0 rfl) (Nat.zero_lt_succ _) rfl) rfl ?_ | refine L.step (Ev.fieldAddr rfl rfl rfl rfl rfl rfl (Src.r 1 rfl) (Nat.zero_lt_succ _) rfl) rfl ?_ | refine L.step (Ev.fieldAddr rfl rfl rfl rfl rfl rfl (Src.r 2 rfl) (Nat.zero_lt_succ _) rfl) rfl ?_ | refine L.step (Ev.fieldAddr rfl rfl rfl rfl rfl rfl (Src.r 3 rfl) (Nat.zero_lt_succ _) rfl) rfl ?_ | refine L.step (Ev.fieldAddr rfl rfl rfl rfl rfl rfl (Src.r 4 rfl) (Nat.zero_lt_succ _) rfl) rfl ?_ | refine L.step (Ev.fieldAddr rfl rfl rfl rfl rfl rfl (Src.r 5 rfl) (Nat.zero_lt_succ _) rfl) rfl ?_
          refine L.yes rfl ?_
          first | refine L.step (Ev.fieldAddr rfl rfl rfl rfl rfl rfl (Src.o 0 rfl) (Nat.zero_lt_succ _) rfl) rfl ?_ | refine L.step (Ev.fieldAddr rfl rfl rfl rfl rfl rfl (Src.o 1 rfl) (Nat.zero_lt_succ _) rfl) rfl ?_ | refine L.step (Ev.fieldAddr rfl rfl rfl rfl rfl rfl (Src.o 2 rfl) (Nat.zero_lt_succ _) rfl) rfl ?_ | refine L.step (Ev.fieldAddr rfl rfl rfl rfl rfl rfl (Src.o 3 rfl) (Nat.zero_lt_succ _) rfl) rfl ?_ | refine L.step (Ev.fieldAddr rfl rfl rfl rfl rfl rfl (Src.o 4 rfl) (Nat.zero_lt_succ _) rfl) rfl ?_ | refine L.step (Ev.fieldAddr rfl rfl rfl rfl rfl rfl (Src.o 5 rfl) (Nat.zero_lt_succ _) rfl) rfl ?_ | refine L.step (Ev.fieldAddr rfl rfl rfl rfl rfl rfl (Src.o 6 rfl) (Nat.zero_lt_succ _) rfl) rfl ?_ | refine L.step (Ev.fieldAddr rfl rfl rfl rfl rfl rfl (Src.o 7 rfl) (Nat.zero_lt_succ _) rfl) rfl ?_ | refine L.step (Ev.fieldAddr rfl rfl rfl rfl rfl rfl (Src.r 0 rfl) (Nat.zero_lt_succ _) rfl) rfl ?_ | refine L.step (Ev.fieldAddr rfl rfl rfl rfl rfl rfl (Src.r 1 rfl) (Nat.zero_lt_succ _) rfl) rfl ?_ | refine L.step (Ev.fieldAddr rfl rfl rfl rfl rfl rfl (Src.r 2 rfl) (Nat.zero_lt_succ _) rfl) rfl ?_ | refine L.step (Ev.fieldAddr rfl rfl rfl rfl rfl rfl (Src.r 3 rfl) (Nat.zero_lt_succ _) rfl) rfl ?_ | refine L.step (Ev.fieldAddr rfl rfl rfl rfl rfl rfl (Src.r 4 rfl) (Nat.zero_lt_succ _) rfl) rfl ?_ | refine L.step (Ev.fieldAddr rfl rfl rfl rfl rfl rfl (Src.r 5 rfl) (Nat.zero_lt_succ _) rfl) rfl ?_
          refine L.yes rfl ?_
          first | refine L.step (Ev.load rfl rfl rfl (Src.o 0 rfl) rfl) rfl ?_ | refine L.step (Ev.load rfl rfl rfl (Src.o 1 rfl) rfl) rfl ?_ | refine L.step (Ev.load rfl rfl rfl (Src.o 2 rfl) rfl) rfl ?_ | refine L.step (Ev.load rfl rfl rfl (Src.o 3 rfl) rfl) rfl ?_ | refine L.step (Ev.load rfl rfl rfl (Src.o 4 rfl) rfl) rfl ?_ | refine L.step (Ev.load rfl rfl rfl (Src.o 5 rfl) rfl) rfl ?_ | refine L.step (Ev.load rfl rfl rfl (Src.o 6 rfl) rfl) rfl ?_ | refine L.step (Ev.load rfl rfl rfl (Src.o 7 rfl) rfl) rfl ?_ | refine L.step (Ev.load rfl rfl rfl (Src.r 0 rfl) rfl) rfl ?_ | refine L.step (Ev.load rfl rfl rfl (Src.r 1 rfl) rfl) rfl ?_ | refine L.step (Ev.load rfl rfl rfl (Src.r 2 rfl) rfl) rfl ?_ | refine L.step (Ev.load rfl rfl rfl (Src.r 3 rfl) rfl) rfl ?_ | refine L.step (Ev.load rfl rfl rfl (Src.r 4 rfl) rfl) rfl ?_ | refine L.step (Ev.load rfl rfl rfl (Src.r 5 rfl) rfl) rfl ?_
          refine L.yes rfl ?_
          refine L.step (Ev.pure rfl) rfl ?_
          refine L.yes rfl ?_
          refine L.step (Ev.pure rfl) rfl ?_
          refine L.step (Ev.pure rfl) rfl ?_
          refine L.step (Ev.pure rfl) rfl ?_
          refine L.nil ?_
          refine QE.seq ?_
          refine C.ret ?_
          refine QE.retD (js := []) (hs := [1, 2]) (vs := [_]) rec_ok rfl ⟨rfl, trivial⟩ (by decide) ?_
          exact ⟨congrArg Value.bool (fin_eq hE h40 hg44), rfl, _, hlen, fin_ps hE, rfl⟩
        · skip
          replace hg44 := i_ne hg44
          refine L.no rfl rfl rfl ?_
          refine L.no rfl rfl rfl ?_
          refine L.no rfl rfl rfl ?_
          refine L.no rfl rfl rfl ?_
          refine L.no rfl rfl rfl ?_
          refine L.no rfl rfl rfl ?_
          refine L.no rfl rfl rfl ?_
          refine L.step (Ev.pure rfl) rfl ?_
          refine L.step (Ev.pure rfl) rfl ?_
          refine L.nil ?_
          refine QE.seq ?_
          refine C.ret ?_
          rw [if_neg (by omega)] at hE
          refine QE.retD (js := []) (hs := [1, 2]) (vs := [_]) rec_ok rfl ⟨rfl, trivial⟩ (by decide) ?_
          refine ⟨by rw [hE]; rfl, rfl, ?_⟩
          exact ⟨_, hlen, (fun ps h => by rw [hE] at h; cases h), rfl⟩

set_option maxHeartbeats 1000000 in
theorem readL_c (RB : Option Addr) (rec : List UInt8) (rc : Nat) (size : Int) (hrc : rec.length ≤ rc) (hrl : rec.length ≤ 9223372036854775807) (_hs1 : size ≤ 1000000) :
    Ctr X 57 [.slice RB rec.length rc, .int .i64 size, .func (.func 77) #[] #[]] [Rd RB (U8 rec)] [] (fun v R' H' => v = .bool (parseS rec size).isSome ∧ R' = [] ∧ H' = []) := by
  refine Ctr.ofD (X := X) (fn := Try.f57) Try.func57 rfl (by kernel_rfl) rfl ?_
  intro β
  refine C.seq ?_
  refine C.region ?_
  refine L.step (Ev.pure rfl) rfl ?_
  refine L.nil ?_
  refine QE.seq ?_
  refine C.seq ?_
  refine C.region ?_
  refine L.defer ?_
  refine L.nil ?_
  refine QE.seq ?_
  refine C.seq ?_
  refine C.seq ?_
  refine C.region ?_
  refine L.step (Ev.pure rfl) rfl ?_
  refine L.step (Ev.pure rfl) rfl ?_
  refine L.step (Ev.pure rfl) rfl ?_
  refine L.step (Ev.pure rfl) rfl ?_
  refine L.bool 11 rfl (fun hg11 => ?_) (fun hg11 => ?_)
  · skip
    replace hg11 := of_decide_eq_true hg11
    refine L.no rfl rfl rfl ?_
    refine L.no rfl rfl rfl ?_
    refine L.no rfl rfl rfl ?_
    refine L.no rfl rfl rfl ?_
    refine L.no rfl rfl rfl ?_
    refine L.step (Ev.pure rfl) rfl ?_
    refine L.nil ?_
    refine QE.seq ?_
    refine C.cond rfl (fun _ => ?_) (fun h => by cases h)
    refine C.seq ?_
    refine C.region ?_
    refine L.step (Ev.pure rfl) rfl ?_
    refine L.nil ?_
    refine QE.seq ?_
    refine C.ret ?_
    refine QE.tR ?_
    have hE := parseS_1 (rec := rec) (size := size) (by omega)
    refine QE.retD (js := []) (hs := []) (vs := [_]) rec_ok rfl ⟨rfl, trivial⟩ (by decide) ?_
    exact ⟨by rw [hE]; rfl, rfl, rfl⟩
  · skip
    replace hg11 := of_decide_eq_false hg11
    refine L.yes rfl ?_
    refine L.step (Ev.pure rfl) rfl ?_
    refine L.yes rfl ?_
    refine L.step (Ev.idx1 (k := 0) rfl rfl rfl rfl rfl rfl rfl (by omega) (Src.r 0 rfl) (by rw [U8_len]; omega)) rfl ?_
    refine L.yes rfl ?_
    refine L.step (Ev.load rfl rfl rfl (Src.r 0 rfl) (U8_get (by omega))) rfl ?_
    refine L.yes rfl ?_
    first | refine L.step (Ev.byteInt rfl rfl rfl rfl) rfl ?_ | refine L.step (Ev.toInt rfl rfl rfl rfl (by omega) (by omega)) rfl ?_
    refine L.yes rfl ?_
    refine L.step (Ev.pure rfl) rfl ?_
    refine L.step (Ev.pure rfl) rfl ?_
    refine L.nil ?_
    refine QE.seq ?_
    refine C.condB 17 rfl (fun hc17 => ?_) (fun hc17 => ?_)
    · skip
      replace hc17 := of_decide_eq_true hc17
      refine C.seq ?_
      refine C.region ?_
      refine L.step (Ev.pure rfl) rfl ?_
      refine L.nil ?_
      refine QE.seq ?_
      refine C.ret ?_
      refine QE.tR ?_
      have hE := parseS_1 (rec := rec) (size := size) (by omega)
      refine QE.retD (js := []) (hs := []) (vs := [_]) rec_ok rfl ⟨rfl, trivial⟩ (by decide) ?_
      exact ⟨by rw [hE]; rfl, rfl, rfl⟩
    · skip
      replace hc17 := of_decide_eq_false hc17
      refine C.skip ?_
      refine QE.seq ?_
      refine C.seq ?_
      refine C.region ?_
      refine L.step (Ev.pure rfl) rfl ?_
      refine L.step (Ev.sliceL (l := 1) rfl rfl rfl rfl rfl rfl (by omega)) rfl ?_
      refine L.step (Ev.build rfl rfl rfl rfl rfl rfl rfl) rfl ?_
      refine L.step (Ev.pure rfl) rfl ?_
      refine L.step (Ev.build rfl rfl rfl rfl rfl rfl rfl) rfl ?_
      refine L.boxA rfl rfl (fun A23 => ?_)
      refine L.step (Ev.pure rfl) rfl ?_
      refine L.nil ?_
      refine QE.seq ?_
      refine C.seq ?_
      refine C.seq ?_
      refine C.le (Γ' := [(0, .slice RB rec.length rc), (1, .int .i64 size), (2, .func (.func 77) #[] #[]), (6, .bool false), (7, ptrOf A23 0)]) (R' := [Rd RB (U8 rec)]) (H' := [Own 130 3 A23 1 1 [.slice (subA RB rc 1 1) (rec.drop 1).length (rc - 1), .int .i64 0, .int .i64 size]]) (by exact Le.mk' (rs := [0]) (hs := [0]) ⟨rfl, rfl, rfl, rfl, rfl, trivial⟩ ⟨rfl, trivial⟩ ⟨(congrArg some (by rw [List.length_drop]; rfl)), trivial⟩ (by decide)) ?_
      have hbig : ¬(rec.length < 5 ∨ 64 ≤ (rec.getD 0 0).toNat) := by omega
      refine C.region ?_
      refine L.step (Ev.pure rfl) rfl ?_
      refine L.step (Ev.nilCheck rfl (Src.o 0 rfl) (Nat.zero_lt_succ _)) rfl ?_
      refine L.step (Ev.fieldAddr rfl rfl rfl rfl rfl rfl (Src.o 0 rfl) (Nat.zero_lt_succ _) rfl) rfl ?_
      refine L.more (r := Rd (subA RB rc 1 1) (U8 (rec.drop 1))) (Has.dropU (Has.r 0 rfl) rc 1 hrc) ?_
      refine L.callE (js := [0]) (js' := []) (number_c 130 3 A23 [.int .i64 0, .int .i64 size] (subA RB rc 1 1) (rec.drop 1) (rc - 1) (by rw [List.length_drop]; omega)) rfl rfl rfl (by decide) ⟨(Has.r 0 rfl), trivial⟩ rfl ?_ ?_
      rotate_left
      · skip
        rintro _ _ ⟨h27, rfl, rfl⟩
        rw [List.length_drop] at h27
        refine QE.tP ?_
        refine QE.tP ?_
        refine QE.panD (js := []) (hs := []) (vs := [_]) rec_ok rfl ⟨rfl, trivial⟩ (by decide) ?_
        omega
      rintro _ _ _ ⟨rfl, h27, rfl, rfl⟩
      refine L.step (Ev.pure rfl) rfl ?_
      refine L.nil ?_
      refine QE.seq ?_
      refine C.block ?_
      have hn0 := be2_lt (rec.drop 1)
      refine C.more (r := Rd (subA (subA RB rc 1 1) (rc - 1) 2 1) (U8 ((rec.drop 1).drop 2))) (Has.dropU (Has.r 0 rfl) (rc - 1) 2 (by rw [List.length_drop]; omega)) ?_
      refine C.loop (fun q : Nat × Option Addr × List UInt8 × Nat × Int × List Pc => [(0, .slice RB rec.length rc), (1, .int .i64 size), (2, .func (.func 77) #[] #[]), (6, .bool false), (7, ptrOf A23 0), (27, .int .i64 ((be2 (rec.drop 1)) : Int)), (28, .int .i64 (q.1 : Int))]) (fun q : Nat × Option Addr × List UInt8 × Nat × Int × List Pc => [Rd RB (U8 rec), Rd q.2.1 (U8 q.2.2.1)]) (fun q : Nat × Option Addr × List UInt8 × Nat × Int × List Pc => [Own 130 3 A23 1 1 [.slice q.2.1 q.2.2.1.length q.2.2.2.1, .int .i64 q.2.2.2.2.1, .int .i64 size]]) (fun q : Nat × Option Addr × List UInt8 × Nat × Int × List Pc => q.1 ≤ (be2 (rec.drop 1)) ∧ q.2.2.1.length ≤ q.2.2.2.1 ∧ Half (be2 (rec.drop 1)) size ((rec.drop 1).drop 2) ((be2 (rec.drop 1)) - q.1) q.2.2.1 q.2.2.2.2.1 q.2.2.2.2.2) (fun q : Nat × Option Addr × List UInt8 × Nat × Int × List Pc => (be2 (rec.drop 1)) - q.1) (0, (subA (subA RB rc 1 1) (rc - 1) 2 1), ((rec.drop 1).drop 2), (rc - 1 - 2), 0, []) ⟨Nat.zero_le _, by dsimp only; rw [List.length_drop, List.length_drop]; omega, Half.start _ _ _⟩ (by exact Le.mk' (rs := [2, 0]) (hs := [0]) ⟨rfl, rfl, rfl, rfl, rfl, rfl, rfl, trivial⟩ ⟨rfl, rfl, trivial⟩ ⟨rfl, trivial⟩ (by decide)) ?_
      rintro ⟨k, S, l, c, last, ps⟩ ⟨hk, hc, hh⟩
      dsimp only at hk hc hh ⊢
      refine C.seq ?_
      refine C.region ?_
      refine L.step (Ev.pure rfl) rfl ?_
      refine L.nil ?_
      refine QE.seq ?_
      refine C.seq ?_
      refine C.condB 29 rfl (fun hc29 => ?_) (fun hc29 => ?_)
      · skip
        replace hc29 := of_decide_eq_true hc29
        refine C.skip ?_
        refine QE.seq ?_
        refine C.seq ?_
        refine C.block ?_
        refine C.region ?_
        refine L.step (Ev.pure rfl) rfl ?_
        refine L.step (Ev.pure rfl) rfl ?_
        refine L.callE (js := [0]) (js' := []) (piece_c 130 A23 S l c last size hc) rfl rfl rfl (by decide) ⟨(Has.r 1 rfl), trivial⟩ rfl ?_ ?_
        rotate_left
        · skip
          rintro _ _ ⟨hp, rfl, rfl⟩
          refine QE.bP ?_
          refine QE.tP ?_
          refine QE.tP ?_
          refine QE.bP ?_
          refine QE.tP ?_
          have hE := parseS_2 (rec := rec) (size := size) (Half.bad (by rw [show (be2 (rec.drop 1)) - k = (be2 (rec.drop 1)) - (k + 1) + 1 from by omega] at hh; exact hh) hp)
          refine QE.panD (js := []) (hs := []) (vs := [_]) rec_ok rfl ⟨rfl, trivial⟩ (by decide) ?_
          exact ⟨by rw [hE]; rfl, rfl, rfl⟩
        rintro _ _ _ ⟨hp, rfl, rfl, rfl⟩
        have hp1 := hp
        unfold PieceOk at hp1
        refine L.step (Ev.pure rfl) rfl ?_
        refine L.step (Ev.pure rfl) rfl ?_
        refine L.more (r := Rd (subA (subA S c 2 1) (c - 2) 2 1) (U8 ((l.drop 2).drop 2))) (Has.dropU (Has.dropU (Has.r 1 rfl) c 2 hc) (c - 2) 2 (by rw [List.length_drop]; omega)) ?_
        refine L.more (r := Rd (subA (subA S c 2 1) (c - 2) 2 1) (U8 (((l.drop 2).drop 2).take (be2 (l.drop 2))))) ((Has.take (Has.r 0 rfl) (be2 (l.drop 2))).cast (U8_take _ _)) ?_
        refine L.callv (js := []) (js' := [0]) (noop_c (be2 l) (subA (subA S c 2 1) (c - 2) 2 1) (be2 (l.drop 2)) (c - 2 - 2)) rfl rfl rfl rfl rfl (by decide) trivial rfl ?_
        rintro _ _ _ ⟨rfl, rfl, rfl⟩
        refine L.nil ?_
        refine QE.blkN ?_
        refine QE.seq ?_
        refine C.region ?_
        refine L.step (Ev.add rfl rfl (by omega) (by omega)) rfl ?_
        refine L.step (Ev.pure rfl) rfl ?_
        refine L.nil ?_
        refine QE.more (r := Rd (subA (subA (subA S c 2 1) (c - 2) 2 1) (c - 2 - 2) (be2 (l.drop 2)) 1) (U8 (((l.drop 2).drop 2).drop (be2 (l.drop 2))))) (Has.dropU (Has.r 1 rfl) (c - 2 - 2) (be2 (l.drop 2)) (by rw [List.length_drop, List.length_drop]; omega)) ?_
        refine QE.round (i := (k, S, l, c, last, ps)) ((k + 1, (subA (subA (subA S c 2 1) (c - 2) 2 1) (c - 2 - 2) (be2 (l.drop 2)) 1), (((l.drop 2).drop 2).drop (be2 (l.drop 2))), ((c - 2 - 2) - (be2 (l.drop 2))), (be2 l : Int) + ((be2 (l.drop 2)) : Int), ps ++ [(be2 l, ((l.drop 2).drop 2).take (be2 (l.drop 2)))])) (by exact ⟨by dsimp only; omega, by dsimp only; rw [List.length_drop, List.length_drop, List.length_drop]; omega, Half.next (by rw [show (be2 (rec.drop 1)) - (k + 1) + 1 = (be2 (rec.drop 1)) - k from by omega]; exact hh) hp⟩) (by dsimp only; omega) (by exact Le.mk' (rs := [3, 0]) (hs := [0]) ⟨rfl, rfl, rfl, rfl, rfl, rfl, rfl, trivial⟩ ⟨rfl, rfl, trivial⟩ ⟨rfl, trivial⟩ (by decide))
      · skip
        replace hc29 := of_decide_eq_false hc29
        obtain rfl : k = (be2 (rec.drop 1)) := by omega
        have hdone := Half.done (by rw [Nat.sub_self] at hh; exact hh)
        refine C.exit ?_
        refine QE.tX ?_
        refine QE.tX ?_
        refine QE.blk ?_
        refine QE.seq ?_
        refine C.seq ?_
        refine C.region ?_
        refine L.step (Ev.pure rfl) rfl ?_
        first | refine L.step (Ev.nilCheck rfl (Src.o 0 rfl) (Nat.zero_lt_succ _)) rfl ?_ | refine L.step (Ev.nilCheck rfl (Src.o 1 rfl) (Nat.zero_lt_succ _)) rfl ?_ | refine L.step (Ev.nilCheck rfl (Src.o 2 rfl) (Nat.zero_lt_succ _)) rfl ?_ | refine L.step (Ev.nilCheck rfl (Src.o 3 rfl) (Nat.zero_lt_succ _)) rfl ?_ | refine L.step (Ev.nilCheck rfl (Src.o 4 rfl) (Nat.zero_lt_succ _)) rfl ?_ | refine L.step (Ev.nilCheck rfl (Src.o 5 rfl) (Nat.zero_lt_succ _)) rfl ?_ | refine L.step (Ev.nilCheck rfl (Src.o 6 rfl) (Nat.zero_lt_succ _)) rfl ?_ | refine L.step (Ev.nilCheck rfl (Src.o 7 rfl) (Nat.zero_lt_succ _)) rfl ?_ | refine L.step (Ev.nilCheck rfl (Src.r 0 rfl) (Nat.zero_lt_succ _)) rfl ?_ | refine L.step (Ev.nilCheck rfl (Src.r 1 rfl) (Nat.zero_lt_succ _)) rfl ?_ | refine L.step (Ev.nilCheck rfl (Src.r 2 rfl) (Nat.zero_lt_succ _)) rfl ?_ | refine L.step (Ev.nilCheck rfl (Src.r 3 rfl) (Nat.zero_lt_succ _)) rfl ?_ | refine L.step (Ev.nilCheck rfl (Src.r 4 rfl) (Nat.zero_lt_succ _)) rfl ?_ | refine L.step (Ev.nilCheck rfl (Src.r 5 rfl) (Nat.zero_lt_succ _)) rfl ?_
        first | refine L.step (Ev.fieldAddr rfl rfl rfl rfl rfl rfl (Src.o 0 rfl) (Nat.zero_lt_succ _) rfl) rfl ?_ | refine L.step (Ev.fieldAddr rfl rfl rfl rfl rfl rfl (Src.o 1 rfl) (Nat.zero_lt_succ _) rfl) rfl ?_ | refine L.step (Ev.fieldAddr rfl rfl rfl rfl rfl rfl (Src.o 2 rfl) (Nat.zero_lt_succ _) rfl) rfl ?_ | refine L.step (Ev.fieldAddr rfl rfl rfl rfl rfl rfl (Src.o 3 rfl) (Nat.zero_lt_succ _) rfl) rfl ?_ | refine L.step (Ev.fieldAddr rfl rfl rfl rfl rfl rfl (Src.o 4 rfl) (Nat.zero_lt_succ _) rfl) rfl ?_ | refine L.step (Ev.fieldAddr rfl rfl rfl rfl rfl rfl (Src.o 5 rfl) (Nat.zero_lt_succ _) rfl) rfl ?_ | refine L.step (Ev.fieldAddr rfl rfl rfl rfl rfl rfl (Src.o 6 rfl) (Nat.zero_lt_succ _) rfl) rfl ?_ | refine L.step (Ev.fieldAddr rfl rfl rfl rfl rfl rfl (Src.o 7 rfl) (Nat.zero_lt_succ _) rfl) rfl ?_ | refine L.step (Ev.fieldAddr rfl rfl rfl rfl rfl rfl (Src.r 0 rfl) (Nat.zero_lt_succ _) rfl) rfl ?_ | refine L.step (Ev.fieldAddr rfl rfl rfl rfl rfl rfl (Src.r 1 rfl) (Nat.zero_lt_succ _) rfl) rfl ?_ | refine L.step (Ev.fieldAddr rfl rfl rfl rfl rfl rfl (Src.r 2 rfl) (Nat.zero_lt_succ _) rfl) rfl ?_ | refine L.step (Ev.fieldAddr rfl rfl rfl rfl rfl rfl (Src.r 3 rfl) (Nat.zero_lt_succ _) rfl) rfl ?_ | refine L.step (Ev.fieldAddr rfl rfl rfl rfl rfl rfl (Src.r 4 rfl) (Nat.zero_lt_succ _) rfl) rfl ?_ | refine L.step (Ev.fieldAddr rfl rfl rfl rfl rfl rfl (Src.r 5 rfl) (Nat.zero_lt_succ _) rfl) rfl ?_
        refine L.callE (js := [0]) (js' := []) (number_c 130 3 A23 [.int .i64 last, .int .i64 size] S l c hc) rfl rfl rfl (by decide) ⟨(Has.r 1 rfl), trivial⟩ rfl ?_ ?_
        rotate_left
        · skip
          rintro _ _ ⟨h40, rfl, rfl⟩
          have hE := parseS_3 hbig hdone
          rw [if_neg (by omega)] at hE
          refine QE.tP ?_
          refine QE.panD (js := []) (hs := []) (vs := [_]) rec_ok rfl ⟨rfl, trivial⟩ (by decide) ?_
          exact ⟨by rw [hE]; rfl, rfl, rfl⟩
        rintro _ _ _ ⟨rfl, h40, rfl, rfl⟩
        have hE := parseS_3 hbig hdone
        refine L.step (Ev.pure rfl) rfl ?_
        refine L.step (Ev.pure rfl) rfl ?_
        refine L.step (Ev.pure rfl) rfl ?_
        refine L.step (Ev.pure rfl) rfl ?_
        refine L.bool 44 rfl (fun hg44 => ?_) (fun hg44 => ?_)
        · skip
          replace hg44 := i_eq hg44
          refine L.yes rfl ?_
          refine L.step (Ev.pure rfl) rfl ?_
          refine L.yes rfl ?_
          first | refine L.step (Ev.nilCheck rfl (Src.o 0 rfl) (Nat.zero_lt_succ _)) rfl ?_ | refine L.step (Ev.nilCheck rfl (Src.o 1 rfl) (Nat.zero_lt_succ _)) rfl ?_ | refine L.step (Ev.nilCheck rfl (Src.o 2 rfl) (Nat.zero_lt_succ _)) rfl ?_ | refine L.step (Ev.nilCheck rfl (Src.o 3 rfl) (Nat.zero_lt_succ _)) rfl ?_ | refine L.step (Ev.nilCheck rfl (Src.o 4 rfl) (Nat.zero_lt_succ _)) rfl ?_ | refine L.step (Ev.nilCheck rfl (Src.o 5 rfl) (Nat.zero_lt_succ _)) rfl ?_ | refine L.step (Ev.nilCheck rfl (Src.o 6 rfl) (Nat.zero_lt_succ _)) rfl ?_ | refine L.step (Ev.nilCheck rfl (Src.o 7 rfl) (Nat.zero_lt_succ _)) rfl ?_ | refine L.step (Ev.nilCheck rfl (Src.r 0 rfl) (Nat.zero_lt_succ _)) rfl ?_ | refine L.step (Ev.nilCheck rfl (Src.r 1 rfl) (Nat.zero_lt_succ _)) rfl ?_ | refine L.step (Ev.nilCheck rfl (Src.r 2 rfl) (Nat.zero_lt_succ _)) rfl ?_ | refine L.step (Ev.nilCheck rfl (Src.r 3 rfl) (Nat.zero_lt_succ _)) rfl ?_ | refine L.step (Ev.nilCheck rfl (Src.r 4 rfl) (Nat.zero_lt_succ _)) rfl ?_ | refine L.step (Ev.nilCheck rfl (Src.r 5 rfl) (Nat.zero_lt_succ _)) rfl ?_
          refine L.yes rfl ?_
          first | refine L.step (Ev.fieldAddr rfl rfl rfl rfl rfl rfl (Src.o 0 rfl) (Nat.zero_lt_succ _) rfl) rfl ?_ | refine L.step (Ev.fieldAddr rfl rfl rfl rfl rfl rfl (Src.o 1 rfl) (Nat.zero_lt_succ _) rfl) rfl ?_ | refine L.step (Ev.fieldAddr rfl rfl rfl rfl rfl rfl (Src.o 2 rfl) (Nat.zero_lt_succ _) rfl) rfl ?_ | refine L.step (Ev.fieldAddr rfl rfl rfl rfl rfl rfl (Src.o 3 rfl) (Nat.zero_lt_succ _) rfl) rfl ?_ | refine L.step (Ev.fieldAddr rfl rfl rfl rfl rfl rfl (Src.o 4 rfl) (Nat.zero_lt_succ _) rfl) rfl ?_ | refine L.step (Ev.fieldAddr rfl rfl rfl rfl rfl rfl (Src.o 5 rfl) (Nat.zero_lt_succ _) rfl) rfl ?_ | refine L.step (Ev.fieldAddr rfl rfl rfl rfl rfl rfl (Src.o 6 rfl) (Nat.zero_lt_succ _) rfl) rfl ?_ | refine L.step (Ev.fieldAddr rfl rfl rfl rfl rfl rfl (Src.o 7 rfl) (Nat.zero_lt_succ _) rfl) rfl ?_ | refine L.step (Ev.fieldAddr rfl rfl rfl rfl rfl rfl (Src.r 0 rfl) (Nat.zero_lt_succ _) rfl) rfl ?_ | refine L.step (Ev.fieldAddr rfl rfl rfl rfl rfl rfl (Src.r 1 rfl) (Nat.zero_lt_succ _) rfl) rfl ?_ | refine L.step (Ev.fieldAddr rfl rfl rfl rfl rfl rfl (Src.r 2 rfl) (Nat.zero_lt_succ _) rfl) rfl ?_ | refine L.step (Ev.fieldAddr rfl rfl rfl rfl rfl rfl (Src.r 3 rfl) (Nat.zero_lt_succ _) rfl) rfl ?_ | refine L.step (Ev.fieldAddr rfl rfl rfl rfl rfl rfl (Src.r 4 rfl) (Nat.zero_lt_succ _) rfl) rfl ?_ | refine L.step (Ev.fieldAddr rfl rfl rfl rfl rfl rfl (Src.r 5 rfl) (Nat.zero_lt_succ _) rfl) rfl ?_
          refine L.yes rfl ?_
          first | refine L.step (Ev.fieldAddr rfl rfl rfl rfl rfl rfl (Src.o 0 rfl) (Nat.zero_lt_succ _) rfl) rfl ?_ | refine L.step (Ev.fieldAddr rfl rfl rfl rfl rfl rfl (Src.o 1 rfl) (Nat.zero_lt_succ _) rfl) rfl ?_ | refine L.step (Ev.fieldAddr rfl rfl rfl rfl rfl rfl (Src.o 2 rfl) (Nat.zero_lt_succ _) rfl) rfl ?_ | refine L.step (Ev.fieldAddr rfl rfl rfl rfl rfl rfl (Src.o 3 rfl) (Nat.zero_lt_succ _) rfl) rfl ?_ | refine L.step (Ev.fieldAddr rfl rfl rfl rfl rfl rfl (Src.o 4 rfl) (Nat.zero_lt_succ _) rfl) rfl ?_ | refine L.step (Ev.fieldAddr rfl rfl rfl rfl rfl rfl (Src.o 5 rfl) (Nat.zero_lt_succ _) rfl) rfl ?_ | refine L.step (Ev.fieldAddr rfl rfl rfl rfl rfl rfl (Src.o 6 rfl) (Nat.zero_lt_succ _) rfl) rfl ?_ | refine L.step (Ev.fieldAddr rfl rfl rfl rfl rfl rfl (Src.o 7 rfl) (Nat.zero_lt_succ _) rfl) rfl ?_ | refine L.step (Ev.fieldAddr rfl rfl rfl rfl rfl rfl (Src.r 0 rfl) (Nat.zero_lt_succ _) rfl) rfl ?_ | refine L.step (Ev.fieldAddr rfl rfl rfl rfl rfl rfl (Src.r 1 rfl) (Nat.zero_lt_succ _) rfl) rfl ?_ | refine L.step (Ev.fieldAddr rfl rfl rfl rfl rfl rfl (Src.r 2 rfl) (Nat.zero_lt_succ _) rfl) rfl ?_ | refine L.step (Ev.fieldAddr rfl rfl rfl rfl rfl rfl (Src.r 3 rfl) (Nat.zero_lt_succ _) rfl) rfl ?_ | refine L.step (Ev.fieldAddr rfl rfl rfl rfl rfl rfl (Src.r 4 rfl) (Nat.zero_lt_succ _) rfl) rfl ?_ | refine L.step (Ev.fieldAddr rfl rfl rfl rfl rfl rfl (Src.r 5 rfl) (Nat.zero_lt_succ _) rfl) rfl ?_
          refine L.yes rfl ?_
          first | refine L.step (Ev.load rfl rfl rfl (Src.o 0 rfl) rfl) rfl ?_ | refine L.step (Ev.load rfl rfl rfl (Src.o 1 rfl) rfl) rfl ?_ | refine L.step (Ev.load rfl rfl rfl (Src.o 2 rfl) rfl) rfl ?_ | refine L.step (Ev.load rfl rfl rfl (Src.o 3 rfl) rfl) rfl ?_ | refine L.step (Ev.load rfl rfl rfl (Src.o 4 rfl) rfl) rfl ?_ | refine L.step (Ev.load rfl rfl rfl (Src.o 5 rfl) rfl) rfl ?_ | refine L.step (Ev.load rfl rfl rfl (Src.o 6 rfl) rfl) rfl ?_ | refine L.step (Ev.load rfl rfl rfl (Src.o 7 rfl) rfl) rfl ?_ | refine L.step (Ev.load rfl rfl rfl (Src.r 0 rfl) rfl) rfl ?_ | refine L.step (Ev.load rfl rfl rfl (Src.r 1 rfl) rfl) rfl ?_ | refine L.step (Ev.load rfl rfl rfl (Src.r 2 rfl) rfl) rfl ?_ | refine L.step (Ev.load rfl rfl rfl (Src.r 3 rfl) rfl) rfl ?_ | refine L.step (Ev.load rfl rfl rfl (Src.r 4 rfl) rfl) rfl ?_ | refine L.step (Ev.load rfl rfl rfl (Src.r 5 rfl) rfl) rfl ?_
          refine L.yes rfl ?_
          refine L.step (Ev.pure rfl) rfl ?_
          refine L.yes rfl ?_
          refine L.step (Ev.pure rfl) rfl ?_
          refine L.step (Ev.pure rfl) rfl ?_
          refine L.step (Ev.pure rfl) rfl ?_
          refine L.nil ?_
          refine QE.seq ?_
          refine C.ret ?_
          refine QE.retD (js := []) (hs := []) (vs := [_]) rec_ok rfl ⟨rfl, trivial⟩ (by decide) ?_
          exact ⟨congrArg Value.bool (fin_eq hE h40 hg44), rfl, rfl⟩
        · skip
          replace hg44 := i_ne hg44
          refine L.no rfl rfl rfl ?_
          refine L.no rfl rfl rfl ?_
          refine L.no rfl rfl rfl ?_
          refine L.no rfl rfl rfl ?_
          refine L.no rfl rfl rfl ?_
          refine L.no rfl rfl rfl ?_
          refine L.no rfl rfl rfl ?_
          refine L.step (Ev.pure rfl) rfl ?_
          refine L.step (Ev.pure rfl) rfl ?_
          refine L.nil ?_
          refine QE.seq ?_
          refine C.ret ?_
          rw [if_neg (by omega)] at hE
          refine QE.retD (js := []) (hs := []) (vs := [_]) rec_ok rfl ⟨rfl, trivial⟩ (by decide) ?_
          exact ⟨by rw [hE]; rfl, rfl, rfl⟩

end Go.Proofs.Ythfjkdgopkmgoaa
