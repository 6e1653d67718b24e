/-
  The contracts of the reference functions Made and Op.
-/
import Derived.Test.YthfjkdgopkmgoaaWFlH
import Derived.Test.YthfjkdgopkmgoaaPm
namespace Go.Proofs.Ythfjkdgopkmgoaa
open Go.Sl

theorem new17o_c (s m : Nat) (l : Int) (hs1 : 1 ≤ s) (hs2 : s ≤ 4096) (hm1 : 1 ≤ m) (hm2 : m ≤ 64) (hl1 : 1 ≤ l) (hl2 : l ≤ 100000) :
    Ctr X 47 [.int .i64 (s : Int), .int .i64 (m : Int), .int .i64 l] [] [] (fun v R' H' => ∃ b : Fa, v = .tuple #[.agg (List.toArray [.int .i64 (s : Int), .slice b.D m b.cD, .slice b.W m b.cW, .int .i64 l, .slice b.E m b.cE]), .int .i64 0] ∧ R' = [] ∧
      H' = [Own 24 1 b.D m b.cD (V0 b.hs s m), OwnKids 5 b.hs (B8 (List.replicate m (List.replicate s 255))), Own 3 1 b.W m b.cW (I64 (List.replicate m 0)), Own 4 1 b.E m b.cE (Bs (List.replicate m false))] ∧ b.hs.length = m) := by
  refine (new17_c s m l hs1 hs2 hm1 hm2 hl1 hl2).mono ?_
  rintro v R' H' ⟨b, rfl, rfl, rfl, h⟩
  exact ⟨b, by simp [flV, flL, fl0], rfl, by simp [flO, fl0, V0], h⟩

theorem made_c (rs : UInt8) (rd : List (List UInt8)) (rw : List UInt8) (re : UInt8) (RD RW : Option Addr) (rc rwc : Nat) (rhs : List Hd) (hrh : rhs.length = rd.length) (hrl : rd.length ≤ 9223372036854775807) (hrr : ∀ i, (rd.getD i []).length ≤ 9223372036854775807) (hrw : rw.length ≤ 9223372036854775807) :
    Ctr X 35 [.agg (List.toArray [.int .u8 (rs.toNat : Int), .slice RD rd.length rc, .slice RW rw.length rwc, .int .u8 (re.toNat : Int)])] [Rd RD (rowsV rhs (B8 rd)), KidsR rhs (B8 rd), Rd RW (U8 rw)] [] (fun v R' H' => ∃ (f : Fl) (b : Fa), f.Ok ∧ f.limit = 3 ∧ f.size ≤ 12 ∧ f.data.length ≤ 4 ∧ b.hs.length = f.data.length ∧ v = flV f b ∧ R' = [] ∧ H' = flO f b) := by
  obtain ⟨s, hs⟩ : ∃ s : Nat, 1 + (rs.toNat : Int) % 12 = s := ⟨1 + rs.toNat % 12, by omega⟩
  obtain ⟨m, hm⟩ : ∃ m : Nat, 1 + (if (3 : Int) < (rd.length : Int) then 3 else (rd.length : Int)) = m := ⟨1 + min rd.length 3, by split <;> omega⟩
  have hm2 : 1 ≤ m ∧ m ≤ 4 := by split at hm <;> omega
  refine Ctr.of (X := X) (fn := Try.f35) Try.func35 rfl (by kernel_rfl) rfl ?_
  intro β
  refine C.seq ?_
  refine C.region ?_
  refine L.boxA rfl rfl (fun A1 => ?_)
  refine L.alloc rfl rfl rfl (fun A2 => ?_)
  refine L.nil ?_
  refine QE.seq ?_
  refine C.seq ?_
  refine C.freeze 0 rfl [1] (by decide) (by decide) ?_
  refine C.region ?_
  refine L.step (Ev.fieldAddr rfl rfl rfl rfl rfl rfl (Src.r 0 rfl) (Nat.zero_lt_succ _) rfl) rfl ?_
  refine L.step (Ev.load rfl rfl rfl (Src.r 0 rfl) rfl) rfl ?_
  refine L.step (Ev.byteInt rfl rfl rfl rfl) rfl ?_
  refine L.step (Ev.rem rfl rfl (by omega) (by omega)) rfl ?_
  refine L.step (Ev.cast (Ev.add rfl rfl (by omega) (by omega)) (congrArg (Value.int .i64) hs)) rfl ?_
  refine L.step (Ev.fieldAddr rfl rfl rfl rfl rfl rfl (Src.r 0 rfl) (Nat.zero_lt_succ _) rfl) rfl ?_
  refine L.step (Ev.load rfl rfl rfl (Src.r 0 rfl) rfl) rfl ?_
  refine L.step (Ev.pure rfl) rfl ?_
  refine L.step (Ev.pure rfl) rfl ?_
  refine L.step (Ev.cast (Ev.add (b := if (3 : Int) < (rd.length : Int) then 3 else (rd.length : Int)) rfl rfl (by rw [hm]; omega) (by rw [hm]; omega)) (congrArg (Value.int .i64) hm)) rfl ?_
  refine L.call (js := []) (js' := [0]) (new17o_c s m 3 (by omega) (by omega) (by omega) (by omega) (by decide) (by decide)) rfl rfl rfl (by decide) trivial rfl ?_
  rintro _ _ _ ⟨b, rfl, rfl, rfl, hb⟩
  refine L.step (Ev.pure rfl) rfl ?_
  refine L.step (Ev.pure rfl) rfl ?_
  refine L.step (Ev.pure rfl) rfl ?_
  refine L.alloc rfl rfl rfl (fun A3 => ?_)
  refine L.storeA (j := 5) rfl rfl rfl rfl rfl (Nat.zero_lt_succ _) rfl rfl ?_
  refine L.step (Ev.pure rfl) rfl ?_
  refine L.nil ?_
  refine QE.seq ?_
  refine C.seq ?_
  refine C.seq ?_
  refine C.freeze 5 rfl [0, 1, 2, 3, 4] (by decide) (by decide) ?_
  refine C.region ?_
  refine L.step (Ev.pure rfl) rfl ?_
  refine L.nil ?_
  refine QE.seq ?_
  refine C.block ?_
  refine C.loop (fun q : Nat × List (List UInt8) × List Int × List Bool => [(1, ptrOf A1 0), (2, ptrOf A2 0), (3, ptrOf A3 0), (5, .int .i64 (q.1 : Int))]) (fun q : Nat × List (List UInt8) × List Int × List Bool => [Rd A3 [.int .i64 (s : Int), .slice b.D m b.cD, .slice b.W m b.cW, .int .i64 3, .slice b.E m b.cE], Rd A1 [.int .u8 (rs.toNat : Int), .slice RD rd.length rc, .slice RW rw.length rwc, .int .u8 (re.toNat : Int)], Rd RD (rowsV rhs (B8 rd)), KidsR rhs (B8 rd), Rd RW (U8 rw)]) (fun q : Nat × List (List UInt8) × List Int × List Bool => [Own 32 5 A2 1 1 [.int .i64 0, .slice none 0 0, .slice none 0 0, .int .i64 0, .slice none 0 0], Own 24 1 b.D m b.cD (V0 b.hs s m), OwnKids 5 b.hs (B8 q.2.1), Own 3 1 b.W m b.cW (I64 q.2.2.1), Own 4 1 b.E m b.cE (Bs q.2.2.2)]) (fun q : Nat × List (List UInt8) × List Int × List Bool => q.1 ≤ m ∧ Mk s m q.2.1 q.2.2.1 q.2.2.2) (fun q : Nat × List (List UInt8) × List Int × List Bool => m - q.1) (0, List.replicate m (List.replicate s 255), List.replicate m 0, List.replicate m false) ⟨Nat.zero_le _, Mk.start s m⟩ (by exact Le.mk' (rs := [0, 1, 2, 3, 4]) (hs := [4, 0, 1, 2, 3]) ⟨rfl, rfl, rfl, rfl, trivial⟩ ⟨rfl, rfl, rfl, rfl, rfl, trivial⟩ ⟨rfl, rfl, rfl, rfl, rfl, trivial⟩ (by decide)) ?_
  rintro ⟨k, dl, wl, el⟩ ⟨hk, hmk⟩
  dsimp only at hk hmk ⊢
  refine C.seq ?_
  refine C.seq ?_
  refine C.region ?_
  refine L.step (Ev.pure rfl) rfl ?_
  refine L.step (Ev.fieldAddr rfl rfl rfl rfl rfl rfl (Src.r 0 rfl) (Nat.zero_lt_succ _) rfl) rfl ?_
  refine L.step (Ev.load rfl rfl rfl (Src.r 0 rfl) rfl) rfl ?_
  refine L.step (Ev.pure rfl) rfl ?_
  refine L.step (Ev.pure rfl) rfl ?_
  refine L.nil ?_
  refine QE.seq ?_
  refine C.condB 25 rfl (fun hc25 => ?_) (fun hc25 => ?_)
  · skip
    replace hc25 := of_decide_eq_true hc25
    refine C.skip ?_
    refine QE.seq ?_
    refine C.seq ?_
    refine C.block ?_
    refine C.seqJ (fun q : List (List UInt8) => [(1, ptrOf A1 0), (2, ptrOf A2 0), (3, ptrOf A3 0), (5, .int .i64 (k : Int))]) (fun q : List (List UInt8) => [Rd A3 [.int .i64 (s : Int), .slice b.D m b.cD, .slice b.W m b.cW, .int .i64 3, .slice b.E m b.cE], Rd A1 [.int .u8 (rs.toNat : Int), .slice RD rd.length rc, .slice RW rw.length rwc, .int .u8 (re.toNat : Int)], Rd RD (rowsV rhs (B8 rd)), KidsR rhs (B8 rd), Rd RW (U8 rw)]) (fun q : List (List UInt8) => [Own 32 5 A2 1 1 [.int .i64 0, .slice none 0 0, .slice none 0 0, .int .i64 0, .slice none 0 0], Own 24 1 b.D m b.cD (V0 b.hs s m), OwnKids 5 b.hs (B8 q), Own 3 1 b.W m b.cW (I64 wl), Own 4 1 b.E m b.cE (Bs el)]) (fun q : List (List UInt8) => Mk s m q wl el) ?_ ?_
    · skip
      refine C.seq ?_
      refine C.region ?_
      refine L.step (Ev.pure rfl) rfl ?_
      refine L.nil ?_
      refine QE.seq ?_
      refine C.block ?_
      have hkm : k < m := by omega
      have hrk := hrr k
      refine C.loop (fun q : Nat × List (List UInt8) => [(1, ptrOf A1 0), (2, ptrOf A2 0), (3, ptrOf A3 0), (5, .int .i64 (k : Int)), (6, .int .i64 (q.1 : Int))]) (fun q : Nat × List (List UInt8) => [Rd A3 [.int .i64 (s : Int), .slice b.D m b.cD, .slice b.W m b.cW, .int .i64 3, .slice b.E m b.cE], Rd A1 [.int .u8 (rs.toNat : Int), .slice RD rd.length rc, .slice RW rw.length rwc, .int .u8 (re.toNat : Int)], Rd RD (rowsV rhs (B8 rd)), KidsR rhs (B8 rd), Rd RW (U8 rw)]) (fun q : Nat × List (List UInt8) => [Own 32 5 A2 1 1 [.int .i64 0, .slice none 0 0, .slice none 0 0, .int .i64 0, .slice none 0 0], Own 24 1 b.D m b.cD (V0 b.hs s m), OwnKids 5 b.hs (B8 q.2), Own 3 1 b.W m b.cW (I64 wl), Own 4 1 b.E m b.cE (Bs el)]) (fun q : Nat × List (List UInt8) => q.1 ≤ s ∧ Mk s m q.2 wl el) (fun q : Nat × List (List UInt8) => s - q.1) (0, dl) ⟨Nat.zero_le _, hmk⟩ (by exact Le.mk' (rs := [0, 1, 2, 3, 4]) (hs := [0, 1, 2, 3, 4]) ⟨rfl, rfl, rfl, rfl, rfl, trivial⟩ ⟨rfl, rfl, rfl, rfl, rfl, trivial⟩ ⟨rfl, rfl, rfl, rfl, rfl, trivial⟩ (by decide)) ?_
      clear hmk
      rintro ⟨k2, dl2⟩ ⟨hk2, hmk⟩
      dsimp only at hk2 hmk ⊢
      refine C.seq ?_
      refine C.seq ?_
      refine C.region ?_
      refine L.step (Ev.pure rfl) rfl ?_
      refine L.step (Ev.fieldAddr rfl rfl rfl rfl rfl rfl (Src.r 1 rfl) (Nat.zero_lt_succ _) rfl) rfl ?_
      refine L.step (Ev.load rfl rfl rfl (Src.r 1 rfl) rfl) rfl ?_
      refine L.step (Ev.pure rfl) rfl ?_
      refine L.step (Ev.pure rfl) rfl ?_
      refine L.step (Ev.pure rfl) rfl ?_
      refine L.bool 33 rfl (fun hg33 => ?_) (fun hg33 => ?_)
      · skip
        replace hg33 := of_decide_eq_true hg33
        refine L.yes rfl ?_
        refine L.step (Ev.pure rfl) rfl ?_
        refine L.yes rfl ?_
        refine L.step (Ev.fieldAddr rfl rfl rfl rfl rfl rfl (Src.r 1 rfl) (Nat.zero_lt_succ _) rfl) rfl ?_
        refine L.yes rfl ?_
        refine L.step (Ev.load rfl rfl rfl (Src.r 1 rfl) rfl) rfl ?_
        refine L.yes rfl ?_
        refine L.step (Ev.pure rfl) rfl ?_
        refine L.yes rfl ?_
        refine L.step (Ev.idx1 (k := k) rfl rfl rfl rfl rfl rfl rfl (by omega) (Src.r 2 rfl) (by rw [rowsV_len (by rw [B8_len]; exact hrh), B8_len]; omega)) rfl ?_
        refine L.yes rfl ?_
        refine L.step (Ev.load rfl rfl rfl (Src.r 2 rfl) (rows8_get hrh (by omega))) rfl ?_
        refine L.yes rfl ?_
        refine L.step (Ev.pure rfl) rfl ?_
        refine L.yes rfl ?_
        refine L.step (Ev.pure rfl) rfl ?_
        refine L.step (Ev.pure rfl) rfl ?_
        refine L.step (Ev.pure rfl) rfl ?_
        refine L.bool 43 rfl (fun hg43 => ?_) (fun hg43 => ?_)
        · skip
          replace hg43 := of_decide_eq_true hg43
          refine L.yes rfl ?_
          refine L.step (Ev.pure rfl) rfl ?_
          refine L.yes rfl ?_
          refine L.step (Ev.fieldAddr rfl rfl rfl rfl rfl rfl (Src.r 0 rfl) (Nat.zero_lt_succ _) rfl) rfl ?_
          refine L.yes rfl ?_
          refine L.step (Ev.load rfl rfl rfl (Src.r 0 rfl) rfl) rfl ?_
          refine L.yes rfl ?_
          refine L.step (Ev.pure rfl) rfl ?_
          refine L.step (Ev.pure rfl) rfl ?_
          refine L.nil ?_
          refine QE.seq ?_
          refine C.condB 48 rfl (fun hc48 => ?_) (fun hc48 => ?_)
          · skip
            replace hc48 := of_decide_eq_true hc48
            refine C.skip ?_
            refine QE.seq ?_
            refine C.seq ?_
            refine C.block ?_
            refine C.regionM [Rd A3 [.int .i64 (s : Int), .slice b.D m b.cD, .slice b.W m b.cW, .int .i64 3, .slice b.E m b.cE], Rd A1 [.int .u8 (rs.toNat : Int), .slice RD rd.length rc, .slice RW rw.length rwc, .int .u8 (re.toNat : Int)], Rd RD (rowsV rhs (B8 rd)), KidsR rhs (B8 rd), Rd RW (U8 rw), Rd b.D (V0 b.hs s m)] ⟨Has.r 0 rfl, Has.r 1 rfl, Has.r 2 rfl, Has.r 3 rfl, Has.r 4 rfl, Has.o 1 rfl, trivial⟩ ?_
            refine LM.q 0 rfl (by kernel_rfl) (Ev.fieldAddr rfl rfl rfl rfl rfl rfl (Src.r 0 rfl) (Nat.zero_lt_succ _) rfl) rfl ⟨Has.r 0 rfl, Has.r 1 rfl, Has.r 2 rfl, Has.r 3 rfl, Has.r 4 rfl, Has.o 1 rfl, trivial⟩ ?_
            refine LM.q 1 rfl (by kernel_rfl) (Ev.load rfl rfl rfl (Src.r 0 rfl) rfl) rfl ⟨Has.r 0 rfl, Has.r 1 rfl, Has.r 2 rfl, Has.r 3 rfl, Has.r 4 rfl, Has.o 1 rfl, trivial⟩ ?_
            refine LM.q 2 rfl (by kernel_rfl) (Ev.pure rfl) rfl ⟨Has.r 0 rfl, Has.r 1 rfl, Has.r 2 rfl, Has.r 3 rfl, Has.r 4 rfl, Has.o 1 rfl, trivial⟩ ?_
            refine LM.q 3 rfl (by kernel_rfl) (Ev.idx1 (k := k) rfl rfl rfl rfl rfl rfl rfl (by omega) (Src.r 5 rfl) (by rw [V0_len hb]; omega)) rfl ⟨Has.r 0 rfl, Has.r 1 rfl, Has.r 2 rfl, Has.r 3 rfl, Has.r 4 rfl, Has.o 1 rfl, trivial⟩ ?_
            refine LM.q 4 rfl (by kernel_rfl) (Ev.load rfl rfl rfl (Src.r 5 rfl) (V0_get hb (by omega))) rfl ⟨Has.r 0 rfl, Has.r 1 rfl, Has.r 2 rfl, Has.r 3 rfl, Has.r 4 rfl, Has.o 1 rfl, trivial⟩ ?_
            refine LM.q 5 rfl (by kernel_rfl) (Ev.pure rfl) rfl ⟨Has.r 0 rfl, Has.r 1 rfl, Has.r 2 rfl, Has.r 3 rfl, Has.r 4 rfl, Has.o 1 rfl, trivial⟩ ?_
            refine LM.q 6 rfl (by kernel_rfl) (Ev.fieldAddr rfl rfl rfl rfl rfl rfl (Src.r 1 rfl) (Nat.zero_lt_succ _) rfl) rfl ⟨Has.r 0 rfl, Has.r 1 rfl, Has.r 2 rfl, Has.r 3 rfl, Has.r 4 rfl, Has.o 1 rfl, trivial⟩ ?_
            refine LM.q 7 rfl (by kernel_rfl) (Ev.load rfl rfl rfl (Src.r 1 rfl) rfl) rfl ⟨Has.r 0 rfl, Has.r 1 rfl, Has.r 2 rfl, Has.r 3 rfl, Has.r 4 rfl, Has.o 1 rfl, trivial⟩ ?_
            refine LM.q 8 rfl (by kernel_rfl) (Ev.pure rfl) rfl ⟨Has.r 0 rfl, Has.r 1 rfl, Has.r 2 rfl, Has.r 3 rfl, Has.r 4 rfl, Has.o 1 rfl, trivial⟩ ?_
            refine LM.q 9 rfl (by kernel_rfl) (Ev.idx1 (k := k) rfl rfl rfl rfl rfl rfl rfl (by omega) (Src.r 2 rfl) (by rw [rowsV_len (by rw [B8_len]; exact hrh), B8_len]; omega)) rfl ⟨Has.r 0 rfl, Has.r 1 rfl, Has.r 2 rfl, Has.r 3 rfl, Has.r 4 rfl, Has.o 1 rfl, trivial⟩ ?_
            refine LM.q 10 rfl (by kernel_rfl) (Ev.load rfl rfl rfl (Src.r 2 rfl) (rows8_get hrh (by omega))) rfl ⟨Has.r 0 rfl, Has.r 1 rfl, Has.r 2 rfl, Has.r 3 rfl, Has.r 4 rfl, Has.o 1 rfl, trivial⟩ ?_
            refine LM.f 11 rfl (by kernel_rfl) ⟨Has.r 0 rfl, Has.r 1 rfl, Has.r 2 rfl, Has.r 3 rfl, Has.r 4 rfl, Has.o 1 rfl, trivial⟩ ?_
            refine L.step (Ev.pure rfl) rfl ?_
            refine L.nil (QE.m (by kernel_rfl) ?_)
            refine LM.f 12 rfl (by kernel_rfl) ⟨Has.r 0 rfl, Has.r 1 rfl, Has.r 2 rfl, Has.r 3 rfl, Has.r 4 rfl, Has.o 1 rfl, trivial⟩ ?_
            refine L.step (Ev.idx1 (k := k2) rfl rfl rfl rfl rfl rfl rfl (by omega) ((Src.kid 3 rfl (by rw [B8_len]; exact hrh) (k) (by rw [B8_len]; omega)).cast (B8_get _)) (by rw [U8_len]; omega)) rfl ?_
            refine L.nil (QE.m (by kernel_rfl) ?_)
            refine LM.f 13 rfl (by kernel_rfl) ⟨Has.r 0 rfl, Has.r 1 rfl, Has.r 2 rfl, Has.r 3 rfl, Has.r 4 rfl, Has.o 1 rfl, trivial⟩ ?_
            refine L.step (Ev.load rfl rfl rfl ((Src.kid 3 rfl (by rw [B8_len]; exact hrh) (k) (by rw [B8_len]; omega)).cast (B8_get _)) (U8_get (by omega))) rfl ?_
            refine L.nil (QE.m (by kernel_rfl) ?_)
            refine LM.cut [] (by kernel_rfl) ⟨Has.r 0 rfl, Has.r 1 rfl, Has.r 2 rfl, Has.r 3 rfl, Has.r 4 rfl, Has.o 1 rfl, trivial⟩ ?_
            refine LM.f 14 rfl (by kernel_rfl) trivial ?_
            refine L.step (Ev.idx1 (k := k2) rfl rfl rfl rfl rfl rfl rfl (by omega) (Src.okid 2 rfl (by rw [B8_len, hmk.d]; exact hb) (k) (by rw [B8_len, hmk.d]; omega)) (by rw [B8_get, U8_len, hmk.r k (by omega)]; omega)) rfl ?_
            refine L.nil (QE.m (by kernel_rfl) ?_)
            refine LM.f 15 rfl (by kernel_rfl) trivial ?_
            refine L.storeKid (j := 2) (i := k) rfl rfl (by rw [B8_len, hmk.d]; exact hb) (by rw [B8_len, hmk.d]; omega) rfl rfl rfl rfl rfl (by rw [B8_get, U8_len, hmk.r k (by omega)]; omega) ?_
            refine L.nil (QE.m (by kernel_rfl) ?_)
            refine LM.nil (by kernel_rfl) trivial ?_
            refine QE.blkN ?_
            refine QE.seq ?_
            refine C.region ?_
            refine L.step (Ev.pure rfl) rfl ?_
            refine L.step (Ev.add rfl rfl (by omega) (by omega)) rfl ?_
            refine L.step (Ev.pure rfl) rfl ?_
            refine L.nil ?_
            refine QE.round (i := (k2, dl2)) ((k2 + 1, dl2.set k ((dl2.getD k []).set k2 ((rd.getD k []).getD k2 0)))) (by exact ⟨by dsimp only; omega, hmk.data hkm ((dl2.getD k []).set k2 ((rd.getD k []).getD k2 0)) (by rw [List.length_set]; exact hmk.r k hkm)⟩) (by dsimp only; omega) (by exact Le.mk' (rs := [0, 1, 2, 3, 4]) (hs := [0, 1, 2, 3, 4]) ⟨rfl, rfl, rfl, rfl, rfl, trivial⟩ ⟨rfl, rfl, rfl, rfl, rfl, trivial⟩ ⟨rfl, rfl, (congrArg some (by rw [B8_get, U8_set, B8_set])), rfl, rfl, trivial⟩ (by decide))
          · skip
            replace hc48 := of_decide_eq_false hc48
            refine C.exit ?_
            refine QE.tX ?_
            refine QE.tX ?_
            refine QE.blk ?_
            refine QE.join (dl2) (by exact hmk) (by exact Le.mk' (rs := [0, 1, 2, 3, 4]) (hs := [0, 1, 2, 3, 4]) ⟨rfl, rfl, rfl, rfl, trivial⟩ ⟨rfl, rfl, rfl, rfl, rfl, trivial⟩ ⟨rfl, rfl, rfl, rfl, rfl, trivial⟩ (by decide))
        · skip
          replace hg43 := of_decide_eq_false hg43
          refine L.no rfl rfl rfl ?_
          refine L.no rfl rfl rfl ?_
          refine L.no rfl rfl rfl ?_
          refine L.no rfl rfl rfl ?_
          refine L.step (Ev.pure rfl) rfl ?_
          refine L.nil ?_
          refine QE.seq ?_
          refine C.cond rfl (fun h => by cases h) (fun _ => ?_)
          refine C.exit ?_
          refine QE.tX ?_
          refine QE.tX ?_
          refine QE.blk ?_
          refine QE.join (dl2) (by exact hmk) (by exact Le.mk' (rs := [0, 1, 2, 3, 4]) (hs := [0, 1, 2, 3, 4]) ⟨rfl, rfl, rfl, rfl, trivial⟩ ⟨rfl, rfl, rfl, rfl, rfl, trivial⟩ ⟨rfl, rfl, rfl, rfl, rfl, trivial⟩ (by decide))
      · skip
        replace hg33 := of_decide_eq_false hg33
        refine L.no rfl rfl rfl ?_
        refine L.no rfl rfl rfl ?_
        refine L.no rfl rfl rfl ?_
        refine L.no rfl rfl rfl ?_
        refine L.no rfl rfl rfl ?_
        refine L.no rfl rfl rfl ?_
        refine L.no rfl rfl rfl ?_
        refine L.no rfl rfl rfl ?_
        refine L.step (Ev.pure rfl) rfl ?_
        refine L.step (Ev.pure rfl) rfl ?_
        refine L.no rfl rfl rfl ?_
        refine L.no rfl rfl rfl ?_
        refine L.no rfl rfl rfl ?_
        refine L.no rfl rfl rfl ?_
        refine L.step (Ev.pure rfl) rfl ?_
        refine L.nil ?_
        refine QE.seq ?_
        refine C.cond rfl (fun h => by cases h) (fun _ => ?_)
        refine C.exit ?_
        refine QE.tX ?_
        refine QE.tX ?_
        refine QE.blk ?_
        refine QE.join (dl2) (by exact hmk) (by exact Le.mk' (rs := [0, 1, 2, 3, 4]) (hs := [0, 1, 2, 3, 4]) ⟨rfl, rfl, rfl, rfl, trivial⟩ ⟨rfl, rfl, rfl, rfl, rfl, trivial⟩ ⟨rfl, rfl, rfl, rfl, rfl, trivial⟩ (by decide))
    · skip
      clear hmk
      intro dl3 hmk
      refine C.seqJ (fun q : List Int => [(1, ptrOf A1 0), (2, ptrOf A2 0), (3, ptrOf A3 0), (5, .int .i64 (k : Int))]) (fun q : List Int => [Rd A3 [.int .i64 (s : Int), .slice b.D m b.cD, .slice b.W m b.cW, .int .i64 3, .slice b.E m b.cE], Rd A1 [.int .u8 (rs.toNat : Int), .slice RD rd.length rc, .slice RW rw.length rwc, .int .u8 (re.toNat : Int)], Rd RD (rowsV rhs (B8 rd)), KidsR rhs (B8 rd), Rd RW (U8 rw)]) (fun q : List Int => [Own 32 5 A2 1 1 [.int .i64 0, .slice none 0 0, .slice none 0 0, .int .i64 0, .slice none 0 0], Own 24 1 b.D m b.cD (V0 b.hs s m), OwnKids 5 b.hs (B8 dl3), Own 3 1 b.W m b.cW (I64 q), Own 4 1 b.E m b.cE (Bs el)]) (fun q : List Int => Mk s m dl3 q el) ?_ ?_
      · skip
        refine C.seq ?_
        refine C.region ?_
        refine L.step (Ev.pure rfl) rfl ?_
        refine L.step (Ev.fieldAddr rfl rfl rfl rfl rfl rfl (Src.r 1 rfl) (Nat.zero_lt_succ _) rfl) rfl ?_
        refine L.step (Ev.load rfl rfl rfl (Src.r 1 rfl) rfl) rfl ?_
        refine L.step (Ev.pure rfl) rfl ?_
        refine L.step (Ev.pure rfl) rfl ?_
        refine L.nil ?_
        refine QE.seq ?_
        refine C.condB 70 rfl (fun hc70 => ?_) (fun hc70 => ?_)
        · skip
          replace hc70 := of_decide_eq_true hc70
          refine C.regionM [Rd A3 [.int .i64 (s : Int), .slice b.D m b.cD, .slice b.W m b.cW, .int .i64 3, .slice b.E m b.cE], Rd A1 [.int .u8 (rs.toNat : Int), .slice RD rd.length rc, .slice RW rw.length rwc, .int .u8 (re.toNat : Int)], Rd RD (rowsV rhs (B8 rd)), KidsR rhs (B8 rd), Rd RW (U8 rw)] ⟨Has.r 0 rfl, Has.r 1 rfl, Has.r 2 rfl, Has.r 3 rfl, Has.r 4 rfl, trivial⟩ ?_
          refine LM.q 0 rfl (by kernel_rfl) (Ev.fieldAddr rfl rfl rfl rfl rfl rfl (Src.r 0 rfl) (Nat.zero_lt_succ _) rfl) rfl ⟨Has.r 0 rfl, Has.r 1 rfl, Has.r 2 rfl, Has.r 3 rfl, Has.r 4 rfl, trivial⟩ ?_
          refine LM.q 1 rfl (by kernel_rfl) (Ev.load rfl rfl rfl (Src.r 0 rfl) rfl) rfl ⟨Has.r 0 rfl, Has.r 1 rfl, Has.r 2 rfl, Has.r 3 rfl, Has.r 4 rfl, trivial⟩ ?_
          refine LM.q 2 rfl (by kernel_rfl) (Ev.pure rfl) rfl ⟨Has.r 0 rfl, Has.r 1 rfl, Has.r 2 rfl, Has.r 3 rfl, Has.r 4 rfl, trivial⟩ ?_
          refine LM.q 3 rfl (by kernel_rfl) (Ev.fieldAddr rfl rfl rfl rfl rfl rfl (Src.r 1 rfl) (Nat.zero_lt_succ _) rfl) rfl ⟨Has.r 0 rfl, Has.r 1 rfl, Has.r 2 rfl, Has.r 3 rfl, Has.r 4 rfl, trivial⟩ ?_
          refine LM.q 4 rfl (by kernel_rfl) (Ev.load rfl rfl rfl (Src.r 1 rfl) rfl) rfl ⟨Has.r 0 rfl, Has.r 1 rfl, Has.r 2 rfl, Has.r 3 rfl, Has.r 4 rfl, trivial⟩ ?_
          refine LM.f 5 rfl (by kernel_rfl) ⟨Has.r 0 rfl, Has.r 1 rfl, Has.r 2 rfl, Has.r 3 rfl, Has.r 4 rfl, trivial⟩ ?_
          refine L.step (Ev.pure rfl) rfl ?_
          refine L.nil (QE.m (by kernel_rfl) ?_)
          refine LM.f 6 rfl (by kernel_rfl) ⟨Has.r 0 rfl, Has.r 1 rfl, Has.r 2 rfl, Has.r 3 rfl, Has.r 4 rfl, trivial⟩ ?_
          refine L.step (Ev.idx1 (k := k) rfl rfl rfl rfl rfl rfl rfl (by omega) (Src.r 4 rfl) (by rw [U8_len]; omega)) rfl ?_
          refine L.nil (QE.m (by kernel_rfl) ?_)
          refine LM.f 7 rfl (by kernel_rfl) ⟨Has.r 0 rfl, Has.r 1 rfl, Has.r 2 rfl, Has.r 3 rfl, Has.r 4 rfl, trivial⟩ ?_
          refine L.step (Ev.load rfl rfl rfl (Src.r 4 rfl) (U8_get (by omega))) rfl ?_
          refine L.nil (QE.m (by kernel_rfl) ?_)
          refine LM.f 8 rfl (by kernel_rfl) ⟨Has.r 0 rfl, Has.r 1 rfl, Has.r 2 rfl, Has.r 3 rfl, Has.r 4 rfl, trivial⟩ ?_
          refine L.step (Ev.byteInt rfl rfl rfl rfl) rfl ?_
          refine L.nil (QE.m (by kernel_rfl) ?_)
          refine LM.f 9 rfl (by kernel_rfl) ⟨Has.r 0 rfl, Has.r 1 rfl, Has.r 2 rfl, Has.r 3 rfl, Has.r 4 rfl, trivial⟩ ?_
          refine L.step (Ev.rem rfl rfl (by omega) (by omega)) rfl ?_
          refine L.nil (QE.m (by kernel_rfl) ?_)
          refine LM.cut [] (by kernel_rfl) ⟨Has.r 0 rfl, Has.r 1 rfl, Has.r 2 rfl, Has.r 3 rfl, Has.r 4 rfl, trivial⟩ ?_
          refine LM.f 10 rfl (by kernel_rfl) trivial ?_
          refine L.step (Ev.idx1 (k := k) rfl rfl rfl rfl rfl rfl rfl (by omega) (Src.o 3 rfl) (by rw [I64_len, hmk.w]; omega)) rfl ?_
          refine L.nil (QE.m (by kernel_rfl) ?_)
          refine LM.f 11 rfl (by kernel_rfl) trivial ?_
          refine L.store (j := 3) rfl rfl rfl rfl rfl rfl rfl (by exact I64_get (by rw [hmk.w]; omega)) ?_
          refine L.nil (QE.m (by kernel_rfl) ?_)
          refine LM.nil (by kernel_rfl) trivial ?_
          have hkm2 : k < m := by omega
          refine QE.join (wl.set k (((rw.getD k 0).toNat : Int) % 4)) (by exact hmk.wear hkm2 _ (by omega)) (by exact Le.mk' (rs := [0, 1, 2, 3, 4]) (hs := [0, 1, 2, 3, 4]) ⟨rfl, rfl, rfl, rfl, trivial⟩ ⟨rfl, rfl, rfl, rfl, rfl, trivial⟩ ⟨rfl, rfl, rfl, (congrArg some (by rw [I64_set])), rfl, trivial⟩ (by decide))
        · skip
          replace hc70 := of_decide_eq_false hc70
          refine C.skip ?_
          refine QE.join (wl) (by exact hmk) (by exact Le.mk' (rs := [0, 1, 2, 3, 4]) (hs := [0, 1, 2, 3, 4]) ⟨rfl, rfl, rfl, rfl, trivial⟩ ⟨rfl, rfl, rfl, rfl, rfl, trivial⟩ ⟨rfl, rfl, rfl, rfl, rfl, trivial⟩ (by decide))
      · skip
        clear hmk
        intro wl3 hmk
        refine C.regionM [Rd A3 [.int .i64 (s : Int), .slice b.D m b.cD, .slice b.W m b.cW, .int .i64 3, .slice b.E m b.cE], Rd A1 [.int .u8 (rs.toNat : Int), .slice RD rd.length rc, .slice RW rw.length rwc, .int .u8 (re.toNat : Int)], Rd RD (rowsV rhs (B8 rd)), KidsR rhs (B8 rd), Rd RW (U8 rw)] ⟨Has.r 0 rfl, Has.r 1 rfl, Has.r 2 rfl, Has.r 3 rfl, Has.r 4 rfl, trivial⟩ ?_
        refine LM.q 0 rfl (by kernel_rfl) (Ev.fieldAddr rfl rfl rfl rfl rfl rfl (Src.r 0 rfl) (Nat.zero_lt_succ _) rfl) rfl ⟨Has.r 0 rfl, Has.r 1 rfl, Has.r 2 rfl, Has.r 3 rfl, Has.r 4 rfl, trivial⟩ ?_
        refine LM.q 1 rfl (by kernel_rfl) (Ev.load rfl rfl rfl (Src.r 0 rfl) rfl) rfl ⟨Has.r 0 rfl, Has.r 1 rfl, Has.r 2 rfl, Has.r 3 rfl, Has.r 4 rfl, trivial⟩ ?_
        refine LM.q 2 rfl (by kernel_rfl) (Ev.pure rfl) rfl ⟨Has.r 0 rfl, Has.r 1 rfl, Has.r 2 rfl, Has.r 3 rfl, Has.r 4 rfl, trivial⟩ ?_
        refine LM.q 3 rfl (by kernel_rfl) (Ev.fieldAddr rfl rfl rfl rfl rfl rfl (Src.r 1 rfl) (Nat.zero_lt_succ _) rfl) rfl ⟨Has.r 0 rfl, Has.r 1 rfl, Has.r 2 rfl, Has.r 3 rfl, Has.r 4 rfl, trivial⟩ ?_
        refine LM.q 4 rfl (by kernel_rfl) (Ev.load rfl rfl rfl (Src.r 1 rfl) rfl) rfl ⟨Has.r 0 rfl, Has.r 1 rfl, Has.r 2 rfl, Has.r 3 rfl, Has.r 4 rfl, trivial⟩ ?_
        refine LM.f 5 rfl (by kernel_rfl) ⟨Has.r 0 rfl, Has.r 1 rfl, Has.r 2 rfl, Has.r 3 rfl, Has.r 4 rfl, trivial⟩ ?_
        refine L.step (Ev.pure rfl) rfl ?_
        refine L.nil (QE.m (by kernel_rfl) ?_)
        refine LM.f 6 rfl (by kernel_rfl) ⟨Has.r 0 rfl, Has.r 1 rfl, Has.r 2 rfl, Has.r 3 rfl, Has.r 4 rfl, trivial⟩ ?_
        refine L.step (Ev.shr rfl rfl (by omega)) rfl ?_
        refine L.nil (QE.m (by kernel_rfl) ?_)
        refine LM.f 7 rfl (by kernel_rfl) ⟨Has.r 0 rfl, Has.r 1 rfl, Has.r 2 rfl, Has.r 3 rfl, Has.r 4 rfl, trivial⟩ ?_
        first | refine L.step (Ev.and8 rfl rfl) rfl ?_ | refine L.step (Ev.pure rfl) rfl ?_
        refine L.nil (QE.m (by kernel_rfl) ?_)
        refine LM.f 8 rfl (by kernel_rfl) ⟨Has.r 0 rfl, Has.r 1 rfl, Has.r 2 rfl, Has.r 3 rfl, Has.r 4 rfl, trivial⟩ ?_
        refine L.step (Ev.pure rfl) rfl ?_
        refine L.nil (QE.m (by kernel_rfl) ?_)
        refine LM.cut [] (by kernel_rfl) ⟨Has.r 0 rfl, Has.r 1 rfl, Has.r 2 rfl, Has.r 3 rfl, Has.r 4 rfl, trivial⟩ ?_
        refine LM.f 9 rfl (by kernel_rfl) trivial ?_
        refine L.step (Ev.idx1 (k := k) rfl rfl rfl rfl rfl rfl rfl (by omega) (Src.o 4 rfl) (by rw [Bs_len, hmk.e]; omega)) rfl ?_
        refine L.nil (QE.m (by kernel_rfl) ?_)
        refine LM.f 10 rfl (by kernel_rfl) trivial ?_
        refine L.store (j := 4) rfl rfl rfl rfl rfl rfl rfl (by exact Bs_get (by rw [hmk.e]; omega)) ?_
        refine L.nil (QE.m (by kernel_rfl) ?_)
        refine LM.nil (by kernel_rfl) trivial ?_
        refine QE.blkN ?_
        refine QE.seq ?_
        refine C.region ?_
        refine L.step (Ev.pure rfl) rfl ?_
        refine L.step (Ev.add rfl rfl (by omega) (by omega)) rfl ?_
        refine L.step (Ev.pure rfl) rfl ?_
        refine L.nil ?_
        refine QE.round (i := (k, dl, wl, el)) ((k + 1, dl3, wl3, el.set k (bop .and .u8 ((re.toNat : Int).fdiv (2 ^ min ((k : Int)).toNat IntKind.u8.bits)) 1 == 1))) (by exact ⟨by dsimp only; omega, hmk.dead k _⟩) (by dsimp only; omega) (by exact Le.mk' (rs := [0, 1, 2, 3, 4]) (hs := [0, 1, 2, 3, 4]) ⟨rfl, rfl, rfl, rfl, trivial⟩ ⟨rfl, rfl, rfl, rfl, rfl, trivial⟩ ⟨rfl, rfl, rfl, rfl, (congrArg some (by rw [Bs_set])), trivial⟩ (by decide))
  · skip
    replace hc25 := of_decide_eq_false hc25
    refine C.exit ?_
    refine QE.tX ?_
    refine QE.tX ?_
    refine QE.blk ?_
    refine QE.seq ?_
    refine C.seq ?_
    refine C.region ?_
    refine L.step (Ev.loadA rfl rfl rfl (Src.r 0 rfl) rfl rfl (by decide)) rfl ?_
    refine L.storeA (j := 0) rfl rfl rfl rfl rfl (Nat.zero_lt_succ _) rfl rfl ?_
    refine L.nil ?_
    refine QE.seq ?_
    refine C.ret ?_
    refine QE.ret (js := []) (hs := [1, 2, 3, 4]) (vs := [_]) rfl ⟨⟨_, _, 0, _, rfl, rfl, Src.o 0 rfl, .inl ⟨rfl, by decide, _, rfl, rfl, rfl⟩⟩, trivial⟩ (by decide) ?_
    refine ⟨⟨s, dl, wl, 3, el⟩, b, hmk.ok (by omega) (by omega) (by omega) (by omega), rfl, ?_, ?_, ?_, ?_, rfl, ?_⟩
    · dsimp only; omega
    · dsimp only; rw [hmk.d]; omega
    · dsimp only; rw [hmk.d]; exact hb
    · unfold flV flL; dsimp only; rw [hmk.d, hmk.w, hmk.e]; rfl
    · unfold flO; dsimp only; rw [hmk.d, hmk.w, hmk.e, ← hmk.rows hb]; rfl

theorem op_c (f : Fl) (a : Fa) (ok : f.Ok) (_hh : a.hs.length = f.data.length) (er torn : Bool) (se at_ : UInt8) (data : List UInt8) (YA MA : Option Addr) (yc mn mc : Nat) (hdl : data.length ≤ 9223372036854775807) (hyc : data.length ≤ yc) :
    Ctr X 49 [.agg (List.toArray [.int .i64 (f.size : Int), .slice a.D f.data.length a.cD, .slice a.W f.wear.length a.cW, .int .i64 f.limit, .slice a.E f.dead.length a.cE]), .agg (List.toArray [.bool er, .int .u8 (se.toNat : Int), .int .u8 (at_.toNat : Int), .slice YA data.length yc, .bool torn, .slice MA mn mc])] [Rd a.D (rowsV a.hs (B8 f.data)), KidsR a.hs (B8 f.data), Rd a.W (I64 f.wear), Rd a.E (Bs f.dead), Rd YA (U8 data)] [] (fun v R' H' => ∃ A c, v = .agg (List.toArray [.int .i64 (opS f er se at_ data).kind, .int .i64 (opS f er se at_ data).sec, .int .i64 (opS f er se at_ data).at_, .slice A (opS f er se at_ data).data.length c]) ∧ R' = [Rd A (U8 (opS f er se at_ data).data)] ∧ H' = []) := by
  obtain ⟨os1, os2, on1, on2, owl, odl, orows, ol1, ol2, owear⟩ := ok
  refine Ctr.of (X := X) (fn := Try.f49) Try.func49 rfl (by kernel_rfl) rfl ?_
  intro β
  refine C.seq ?_
  refine C.region ?_
  refine L.boxA rfl rfl (fun A2 => ?_)
  refine L.boxA rfl rfl (fun A3 => ?_)
  refine L.alloc rfl rfl rfl (fun A4 => ?_)
  refine L.nil ?_
  refine QE.seq ?_
  refine C.seq ?_
  refine C.freeze 0 rfl [1, 2] (by decide) (by decide) ?_
  refine C.freeze 0 rfl [1] (by decide) (by decide) ?_
  refine C.region ?_
  refine L.step (Ev.fieldAddr rfl rfl rfl rfl rfl rfl (Src.r 0 rfl) (Nat.zero_lt_succ _) rfl) rfl ?_
  refine L.step (Ev.load rfl rfl rfl (Src.r 0 rfl) rfl) rfl ?_
  refine L.step (Ev.byteInt rfl rfl rfl rfl) rfl ?_
  refine L.step (Ev.fieldAddr rfl rfl rfl rfl rfl rfl (Src.r 1 rfl) (Nat.zero_lt_succ _) rfl) rfl ?_
  refine L.step (Ev.load rfl rfl rfl (Src.r 1 rfl) rfl) rfl ?_
  refine L.step (Ev.pure rfl) rfl ?_
  refine L.step (Ev.rem rfl rfl (by omega) (by omega)) rfl ?_
  refine L.step (Ev.pure rfl) rfl ?_
  refine L.nil ?_
  refine QE.seq ?_
  refine C.seq ?_
  refine C.seq ?_
  refine C.region ?_
  refine L.step (Ev.fieldAddr rfl rfl rfl rfl rfl rfl (Src.r 0 rfl) (Nat.zero_lt_succ _) rfl) rfl ?_
  refine L.step (Ev.load rfl rfl rfl (Src.r 0 rfl) rfl) rfl ?_
  refine L.nil ?_
  refine QE.seq ?_
  refine C.condB 15 rfl (fun hc15 => ?_) (fun hc15 => ?_)
  · skip
    refine C.seq ?_
    refine C.region ?_
    refine L.step (Ev.pure rfl) rfl ?_
    refine L.step (Ev.build rfl rfl rfl rfl rfl rfl rfl) rfl ?_
    refine L.storeA (j := 0) rfl rfl rfl rfl rfl (Nat.zero_lt_succ _) rfl rfl ?_
    refine L.nil ?_
    refine QE.seq ?_
    refine C.ret ?_
    refine QE.tR ?_
    refine QE.more (r := Rd none []) (Has.nil) ?_
    refine QE.ret (js := [0]) (hs := []) (vs := [_]) rfl ⟨⟨_, _, 0, _, rfl, rfl, Src.o 0 rfl, .inl ⟨rfl, by decide, _, rfl, rfl, rfl⟩⟩, trivial⟩ (by decide) ?_
    refine ⟨none, 0, ?_, ?_, rfl⟩
    · unfold opS; rw [if_pos hc15]; rfl
    · unfold opS; rw [if_pos hc15]; rfl
  · skip
    refine C.skip ?_
    refine QE.seq ?_
    refine C.seq ?_
    have hat : 0 ≤ (at_.toNat : Int) % ((f.size : Int) + 1) ∧ (at_.toNat : Int) % ((f.size : Int) + 1) ≤ f.size := ⟨Int.emod_nonneg _ (by omega), by have := Int.emod_lt_of_pos (at_.toNat : Int) (show (0 : Int) < (f.size : Int) + 1 by omega); omega⟩
    obtain ⟨h, hh2⟩ : ∃ h : Nat, (if (f.size : Int) - (at_.toNat : Int) % ((f.size : Int) + 1) < (data.length : Int) then (f.size : Int) - (at_.toNat : Int) % ((f.size : Int) + 1) else (data.length : Int)) = h := ⟨(if (f.size : Int) - (at_.toNat : Int) % ((f.size : Int) + 1) < (data.length : Int) then (f.size : Int) - (at_.toNat : Int) % ((f.size : Int) + 1) else (data.length : Int)).toNat, by split <;> omega⟩
    obtain ⟨hle, htk⟩ := take_min hh2 (by omega)
    refine C.region ?_
    refine L.step (Ev.fieldAddr rfl rfl rfl rfl rfl rfl (Src.r 0 rfl) (Nat.zero_lt_succ _) rfl) rfl ?_
    refine L.step (Ev.load rfl rfl rfl (Src.r 0 rfl) rfl) rfl ?_
    refine L.step (Ev.byteInt rfl rfl rfl rfl) rfl ?_
    refine L.step (Ev.fieldAddr rfl rfl rfl rfl rfl rfl (Src.r 1 rfl) (Nat.zero_lt_succ _) rfl) rfl ?_
    refine L.step (Ev.load rfl rfl rfl (Src.r 1 rfl) rfl) rfl ?_
    refine L.step (Ev.add rfl rfl (by omega) (by omega)) rfl ?_
    refine L.step (Ev.rem rfl rfl (by omega) (by omega)) rfl ?_
    refine L.step (Ev.pure rfl) rfl ?_
    refine L.nil ?_
    refine QE.seq ?_
    refine C.seq ?_
    refine C.region ?_
    refine L.step (Ev.pure rfl) rfl ?_
    refine L.step (Ev.pure rfl) rfl ?_
    refine L.step (Ev.fieldAddr rfl rfl rfl rfl rfl rfl (Src.r 0 rfl) (Nat.zero_lt_succ _) rfl) rfl ?_
    refine L.step (Ev.load rfl rfl rfl (Src.r 0 rfl) rfl) rfl ?_
    refine L.step (Ev.fieldAddr rfl rfl rfl rfl rfl rfl (Src.r 0 rfl) (Nat.zero_lt_succ _) rfl) rfl ?_
    refine L.step (Ev.load rfl rfl rfl (Src.r 0 rfl) rfl) rfl ?_
    refine L.step (Ev.pure rfl) rfl ?_
    refine L.step (Ev.fieldAddr rfl rfl rfl rfl rfl rfl (Src.r 1 rfl) (Nat.zero_lt_succ _) rfl) rfl ?_
    refine L.step (Ev.load rfl rfl rfl (Src.r 1 rfl) rfl) rfl ?_
    refine L.step (Ev.pure rfl) rfl ?_
    refine L.step (Ev.sub rfl rfl (by omega) (by omega)) rfl ?_
    refine L.step (Ev.cast (Ev.pure rfl) (congrArg (Value.int .i64) hh2)) rfl ?_
    refine L.step (Ev.sliceH (h := h) rfl rfl rfl rfl rfl rfl (by omega)) rfl ?_
    refine L.step (Ev.build rfl rfl rfl rfl rfl rfl rfl) rfl ?_
    refine L.storeA (j := 0) rfl rfl rfl rfl rfl (Nat.zero_lt_succ _) rfl rfl ?_
    refine L.nil ?_
    refine QE.seq ?_
    refine C.ret ?_
    refine QE.more (r := Rd YA ((U8 data).take h)) (Has.take (Has.r 6 rfl) h) ?_
    refine QE.ret (js := [0]) (hs := []) (vs := [_]) rfl ⟨⟨_, _, 0, _, rfl, rfl, Src.o 0 rfl, .inl ⟨rfl, by decide, _, rfl, rfl, rfl⟩⟩, trivial⟩ (by decide) ?_
    have e : opS f er se at_ data = ⟨2, (se.toNat : Int) % (f.data.length : Int), (at_.toNat : Int) % ((f.size : Int) + 1), data.take h⟩ := by unfold opS; rw [if_neg (by rw [hc15]; exact Bool.false_ne_true), htk]
    have hl : (data.take h).length = h := by rw [List.length_take]; omega
    refine ⟨YA, yc, ?_, ?_, rfl⟩
    · rw [e]; dsimp only; rw [hl]; rfl
    · rw [e]; dsimp only; rw [← U8_take]; rfl

end Go.Proofs.Ythfjkdgopkmgoaa
