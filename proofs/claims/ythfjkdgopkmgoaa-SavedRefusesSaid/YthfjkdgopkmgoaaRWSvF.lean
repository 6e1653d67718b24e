/-
  The undo area, and Toward, of the reference and of the program.
-/
import Derived.Test.YthfjkdgopkmgoaaRWSvE
import Derived.Test.YthfjkdgopkmgoaaRPv
import Derived.Test.YthfjkdgopkmgoaaRWFlH
namespace Go.Proofs.Ythfjkdgopkmgoaa
open Go.Sl

set_option maxHeartbeats 2000000 in
theorem towPU_c (f : Fl) (a : Fa) (ok : f.Ok) (hh : a.hs.length = f.data.length) (us : List Int) (U : Option Addr) (uc : Nat) (hu : UOk f us) (at_ : Int) (b : List UInt8) (W : Option Addr) (wc : Nat) (hbl : b.length ≤ 1000000) (hwc : b.length ≤ wc) (hcap : Caps f a) :
    Ctr X 60 [.agg (List.toArray [.int .i64 (f.size : Int), .slice a.D f.data.length a.cD, .slice a.W f.wear.length a.cW, .int .i64 f.limit, .slice a.E f.dead.length a.cE]), .agg (List.toArray [.int .i64 0, .int .i64 0, .int .i64 0, .int .i64 0, .int .i64 0, .slice none 0 0, .slice U us.length uc, .slice none 0 0]), .int .i64 at_, .slice W b.length wc] [Rd a.D (rowsV a.hs (B8 f.data)), KidsR a.hs (B8 f.data), Rd a.W (I64 f.wear), Rd a.E (Bs f.dead), Rd U (I64 us), Rd W (U8 b)] [] (fun v R' H' => ∃ A c, v = .tuple #[.agg (List.toArray [.int .i64 (towS f us at_ b).x.kind, .int .i64 (towS f us at_ b).x.sec, .int .i64 (towS f us at_ b).x.at_, .slice A (towS f us at_ b).x.data.length c]), .bool (towS f us at_ b).done, .int .i64 (towS f us at_ b).e] ∧ R' = [Rd A (U8 (towS f us at_ b).x.data)] ∧ H' = []) := by
  have hok := ok
  obtain ⟨os1, os2, on1, on2, owl, odl, orows, ol1, ol2, owear⟩ := ok
  have hul := hu.l
  have hlz : us.length * f.size ≤ 64 * 4096 := Nat.mul_le_mul (by omega) (by omega)
  have hz : 0 < f.size := by omega
  refine Ctr.of (X := X) (fn := Try.f60) Try.func60 rfl (by kernel_rfl) rfl ?_
  intro β
  refine C.seq ?_
  refine C.region ?_
  refine L.boxA rfl rfl (fun A4 => ?_)
  refine L.boxA rfl rfl (fun A5 => ?_)
  refine L.alloc rfl rfl rfl (fun A8 => ?_)
  refine L.step (Ev.pure rfl) rfl ?_
  refine L.step (Ev.pure rfl) rfl ?_
  refine L.nil ?_
  refine QE.seq ?_
  refine C.seq ?_
  refine C.freeze 0 rfl [1, 2] (by decide) (by decide) ?_
  refine C.freeze 0 rfl [1] (by decide) (by decide) ?_
  refine C.region ?_
  refine L.step (Ev.fieldAddr rfl rfl rfl rfl rfl rfl (Src.r 0 rfl) (Nat.zero_lt_succ _) rfl) rfl ?_
  refine L.step (Ev.load rfl rfl rfl (Src.r 0 rfl) rfl) rfl ?_
  refine L.step (Ev.pure rfl) rfl ?_
  refine L.step (Ev.fieldAddr rfl rfl rfl rfl rfl rfl (Src.r 1 rfl) (Nat.zero_lt_succ _) rfl) rfl ?_
  refine L.step (Ev.load rfl rfl rfl (Src.r 1 rfl) rfl) rfl ?_
  refine L.step (Ev.cast (u := .int .i64 ((us.length * f.size : Nat) : Int)) (Ev.mul rfl rfl (by rw [← Int.natCast_mul]; omega) (by rw [← Int.natCast_mul]; omega)) (congrArg (Value.int .i64) (by rw [Int.natCast_mul]))) rfl ?_
  refine L.step (Ev.pure rfl) rfl ?_
  refine L.nil ?_
  refine QE.seq ?_
  refine C.seq ?_
  refine C.seq ?_
  refine C.region ?_
  refine L.step (Ev.pure rfl) rfl ?_
  refine L.step (Ev.pure rfl) rfl ?_
  refine L.step (Ev.pure rfl) rfl ?_
  refine L.bool 28 rfl (fun hg28 => ?_) (fun hg28 => ?_)
  · skip
    replace hg28 := of_decide_eq_true hg28
    refine L.no rfl rfl rfl ?_
    refine L.no rfl rfl rfl ?_
    refine L.no rfl rfl rfl ?_
    refine L.step (Ev.pure rfl) rfl ?_
    refine L.step (Ev.pure rfl) rfl ?_
    refine L.no rfl rfl rfl ?_
    refine L.no rfl rfl rfl ?_
    refine L.no rfl rfl rfl ?_
    refine L.no rfl rfl rfl ?_
    refine L.no rfl rfl rfl ?_
    refine L.no rfl rfl rfl ?_
    refine L.step (Ev.pure rfl) rfl ?_
    refine L.nil ?_
    refine QE.seq ?_
    refine C.cond rfl (fun _ => ?_) (fun h => by cases h)
    refine C.seq ?_
    refine C.region ?_
    refine L.step (Ev.build rfl rfl rfl rfl rfl rfl rfl) rfl ?_
    refine L.storeA (j := 0) rfl rfl rfl rfl rfl (Nat.zero_lt_succ _) rfl rfl ?_
    refine L.step (Ev.pure rfl) rfl ?_
    refine L.step (Ev.pure rfl) rfl ?_
    refine L.nil ?_
    refine QE.seq ?_
    refine C.ret ?_
    refine QE.tR ?_
    refine QE.more (r := Rd none []) (Has.nil) ?_
    have hB : TowBad f us at_ b := by unfold TowBad; omega
    refine QE.ret (js := [0]) (hs := []) (vs := [_, _, _]) rfl ⟨⟨_, _, 0, _, rfl, rfl, Src.o 0 rfl, .inl ⟨rfl, by decide, _, rfl, rfl, rfl⟩⟩, rfl, rfl, trivial⟩ (by decide) ?_
    refine ⟨none, 0, ?_, ?_, rfl⟩
    · rw [towS_1 hB]; rfl
    · rw [towS_1 hB]; rfl
  · skip
    replace hg28 := of_decide_eq_false hg28
    refine L.yes rfl ?_
    refine L.step (Ev.pure rfl) rfl ?_
    refine L.yes rfl ?_
    refine L.step (Ev.pure rfl) rfl ?_
    refine L.yes rfl ?_
    refine L.step (Ev.pure rfl) rfl ?_
    refine L.step (Ev.pure rfl) rfl ?_
    refine L.step (Ev.pure rfl) rfl ?_
    refine L.bool 33 rfl (fun hg33 => ?_) (fun hg33 => ?_)
    · skip
      replace hg33 := of_decide_eq_true hg33
      refine L.no rfl rfl rfl ?_
      refine L.no rfl rfl rfl ?_
      refine L.no rfl rfl rfl ?_
      refine L.no rfl rfl rfl ?_
      refine L.no rfl rfl rfl ?_
      refine L.no rfl rfl rfl ?_
      refine L.step (Ev.pure rfl) rfl ?_
      refine L.nil ?_
      refine QE.seq ?_
      refine C.cond rfl (fun _ => ?_) (fun h => by cases h)
      refine C.seq ?_
      refine C.region ?_
      refine L.step (Ev.build rfl rfl rfl rfl rfl rfl rfl) rfl ?_
      refine L.storeA (j := 0) rfl rfl rfl rfl rfl (Nat.zero_lt_succ _) rfl rfl ?_
      refine L.step (Ev.pure rfl) rfl ?_
      refine L.step (Ev.pure rfl) rfl ?_
      refine L.nil ?_
      refine QE.seq ?_
      refine C.ret ?_
      refine QE.tR ?_
      refine QE.more (r := Rd none []) (Has.nil) ?_
      have hB : TowBad f us at_ b := by unfold TowBad; omega
      refine QE.ret (js := [0]) (hs := []) (vs := [_, _, _]) rfl ⟨⟨_, _, 0, _, rfl, rfl, Src.o 0 rfl, .inl ⟨rfl, by decide, _, rfl, rfl, rfl⟩⟩, rfl, rfl, trivial⟩ (by decide) ?_
      refine ⟨none, 0, ?_, ?_, rfl⟩
      · rw [towS_1 hB]; rfl
      · rw [towS_1 hB]; rfl
    · skip
      replace hg33 := of_decide_eq_false hg33
      refine L.yes rfl ?_
      refine L.step (Ev.pure rfl) rfl ?_
      refine L.yes rfl ?_
      refine L.step (Ev.pure rfl) rfl ?_
      refine L.yes rfl ?_
      refine L.step (Ev.pure rfl) rfl ?_
      refine L.yes rfl ?_
      refine L.step (Ev.pure rfl) rfl ?_
      refine L.yes rfl ?_
      refine L.step (Ev.sub rfl rfl (by omega) (by omega)) rfl ?_
      refine L.yes rfl ?_
      refine L.step (Ev.pure rfl) rfl ?_
      refine L.step (Ev.pure rfl) rfl ?_
      refine L.nil ?_
      refine QE.seq ?_
      refine C.condB 40 rfl (fun hc40 => ?_) (fun hc40 => ?_)
      · skip
        replace hc40 := of_decide_eq_true hc40
        refine C.seq ?_
        refine C.region ?_
        refine L.step (Ev.build rfl rfl rfl rfl rfl rfl rfl) rfl ?_
        refine L.storeA (j := 0) rfl rfl rfl rfl rfl (Nat.zero_lt_succ _) rfl rfl ?_
        refine L.step (Ev.pure rfl) rfl ?_
        refine L.step (Ev.pure rfl) rfl ?_
        refine L.nil ?_
        refine QE.seq ?_
        refine C.ret ?_
        refine QE.tR ?_
        refine QE.more (r := Rd none []) (Has.nil) ?_
        have hB : TowBad f us at_ b := by unfold TowBad; omega
        refine QE.ret (js := [0]) (hs := []) (vs := [_, _, _]) rfl ⟨⟨_, _, 0, _, rfl, rfl, Src.o 0 rfl, .inl ⟨rfl, by decide, _, rfl, rfl, rfl⟩⟩, rfl, rfl, trivial⟩ (by decide) ?_
        refine ⟨none, 0, ?_, ?_, rfl⟩
        · rw [towS_1 hB]; rfl
        · rw [towS_1 hB]; rfl
      · skip
        replace hc40 := of_decide_eq_false hc40
        refine C.skip ?_
        refine QE.seq ?_
        refine C.seq ?_
        have hB : ¬TowBad f us at_ b := by unfold TowBad; omega
        refine C.region ?_
        refine L.step (Ev.pure rfl) rfl ?_
        refine L.nil ?_
        refine QE.seq ?_
        refine C.seq ?_
        refine C.seq ?_
        refine C.own0 53 4 ?_
        refine C.region ?_
        refine L.step (Ev.pure rfl) rfl ?_
        refine L.step (Ev.pure rfl) rfl ?_
        refine L.nil ?_
        refine QE.seq ?_
        refine C.block ?_
        refine C.loop (fun q : Nat × Option Addr × Nat × List Value => [(2, .int .i64 at_), (3, .slice W b.length wc), (4, ptrOf A4 0), (5, ptrOf A5 0), (8, ptrOf A8 0), (12, ptrOf q.2.1 0), (13, .int .i64 ((ffr at_.toNat b.length f.size q.1 : Nat) : Int))]) (fun q : Nat × Option Addr × Nat × List Value => [Rd A5 [.int .i64 0, .int .i64 0, .int .i64 0, .int .i64 0, .int .i64 0, .slice none 0 0, .slice U us.length uc, .slice none 0 0], Rd A4 [.int .i64 (f.size : Int), .slice a.D f.data.length a.cD, .slice a.W f.wear.length a.cW, .int .i64 f.limit, .slice a.E f.dead.length a.cE], Rd a.D (rowsV a.hs (B8 f.data)), KidsR a.hs (B8 f.data), Rd a.W (I64 f.wear), Rd a.E (Bs f.dead), Rd U (I64 us), Rd W (U8 b)]) (fun q : Nat × Option Addr × Nat × List Value => [Own 53 4 A8 1 1 [.int .i64 0, .int .i64 0, .int .i64 0, .slice none 0 0], Own 53 4 q.2.1 q.2.2.1 q.2.2.1 q.2.2.2]) (fun q : Nat × Option Addr × Nat × List Value => q.1 ≤ us.length ∧ at_.toNat < q.1 * f.size + f.size ∧ okN (area f us) b at_.toNat (ffr at_.toNat b.length f.size q.1 - at_.toNat) = true ∧ NextIs (area f us) us b at_.toNat f.size W wc q.1 q.2.1 q.2.2.1 q.2.2.2) (fun q : Nat × Option Addr × Nat × List Value => us.length - q.1) (at_.toNat / f.size, none, 0, []) ⟨Nat.div_le_of_le_mul (by rw [Nat.mul_comm]; omega), (ffr_first at_.toNat b.length f.size hz).2, by rw [(ffr_first at_.toNat b.length f.size hz).1, Nat.sub_self]; rfl, .inl ⟨find_first _ _ _ _, rfl, rfl, rfl⟩⟩ (by exact Le.mk' (rs := [0, 1, 2, 3, 4, 5, 6, 7]) (hs := [0, 1]) ⟨rfl, rfl, rfl, rfl, rfl, rfl, (by dsimp only; rw [(ffr_first at_.toNat b.length f.size hz).1]; exact congrArg some (congrArg (Value.int .i64) (by omega))), trivial⟩ ⟨rfl, rfl, rfl, rfl, rfl, rfl, rfl, rfl, trivial⟩ ⟨rfl, rfl, trivial⟩ (by decide)) ?_
        rintro ⟨s, N, n, cs⟩ ⟨hsz, hps, hjj, hnx⟩
        dsimp only at hsz hps hjj hnx ⊢
        refine C.seq ?_
        refine C.seq ?_
        refine C.region ?_
        refine L.step (Ev.pure rfl) rfl ?_
        refine L.step (Ev.pure rfl) rfl ?_
        refine L.step (Ev.pure rfl) rfl ?_
        refine L.step (Ev.pure rfl) rfl ?_
        refine L.step (Ev.add rfl rfl (by omega) (by omega)) rfl ?_
        refine L.step (Ev.pure rfl) rfl ?_
        refine L.nil ?_
        refine QE.seq ?_
        refine C.condB 48 rfl (fun hc48 => ?_) (fun hc48 => ?_)
        · skip
          replace hc48 := of_decide_eq_true hc48
          have hto : too at_.toNat f.size b.length s = min (at_.toNat + b.length) (s * f.size + f.size) := by unfold too; rw [Nat.succ_mul]
          have hlt : ffr at_.toNat b.length f.size s < at_.toNat + b.length := by omega
          obtain ⟨w1, w2, w3, w4, w5, w6, w7⟩ := ffr_in hz hps hlt
          obtain ⟨d1, d2⟩ := ffr_div hz hps hlt
          have hsl : s < us.length := ffr_lt hz hps hlt (by omega)
          have hur := hu.r s hsl
          have hrow := orows (us.getD s 0).toNat (by omega)
          have hcp := hcap (us.getD s 0).toNat (by omega)
          have hcl := chunk_len (b := b) (p := at_.toNat) (z := f.size) (s := s) (by omega)
          have hq1 : ((ffr at_.toNat b.length f.size s : Nat) : Int) / (f.size : Int) = (s : Int) := by rw [← Int.natCast_ediv, d1]
          have hq2 : ((ffr at_.toNat b.length f.size s : Nat) : Int) % (f.size : Int) = ((frm at_.toNat f.size s - s * f.size : Nat) : Int) := by rw [← Int.natCast_emod, d2, w1]
          have hrp := row_part (b := b) (p := at_.toNat) hok hu hsl (by omega) (by omega) w5
          refine C.skip ?_
          refine QE.seq ?_
          refine C.block ?_
          refine C.seq ?_
          refine C.regionQ (by kernel_rfl) ?_
          refine LQ.step (Ev.pure rfl) rfl ?_
          refine LQ.step (Ev.fieldAddr rfl rfl rfl rfl rfl rfl (Src.r 1 rfl) (Nat.zero_lt_succ _) rfl) rfl ?_
          refine LQ.step (Ev.load rfl rfl rfl (Src.r 1 rfl) rfl) rfl ?_
          refine LQ.step (Ev.cast (u := .int .i64 (s : Int)) (Ev.quo rfl rfl (by omega) (by omega) (by omega)) (congrArg (Value.int .i64) hq1)) rfl ?_
          refine LQ.step (Ev.pure rfl) rfl ?_
          refine LQ.step (Ev.fieldAddr rfl rfl rfl rfl rfl rfl (Src.r 1 rfl) (Nat.zero_lt_succ _) rfl) rfl ?_
          refine LQ.step (Ev.load rfl rfl rfl (Src.r 1 rfl) rfl) rfl ?_
          refine LQ.step (Ev.cast (u := .int .i64 (((frm at_.toNat f.size s - s * f.size) : Nat) : Int)) (Ev.rem rfl rfl (by omega) (by omega)) (congrArg (Value.int .i64) hq2)) rfl ?_
          refine LQ.step (Ev.pure rfl) rfl ?_
          refine LQ.step (Ev.pure rfl) rfl ?_
          refine LQ.nil ?_
          refine QE.seq ?_
          refine C.seq ?_
          refine C.region ?_
          refine L.step (Ev.pure rfl) rfl ?_
          refine L.step (Ev.pure rfl) rfl ?_
          refine L.step (Ev.pure rfl) rfl ?_
          refine L.step (Ev.cast (u := .int .i64 (((frm at_.toNat f.size s - at_.toNat) : Nat) : Int)) (Ev.sub rfl rfl (by omega) (by omega)) (congrArg (Value.int .i64) (by omega))) rfl ?_
          refine L.step (Ev.sliceL (l := (frm at_.toNat f.size s - at_.toNat)) rfl rfl rfl rfl rfl rfl (by omega)) rfl ?_
          refine L.step (Ev.pure rfl) rfl ?_
          refine L.nil ?_
          refine QE.seq ?_
          refine C.seq ?_
          refine C.region ?_
          refine L.step (Ev.pure rfl) rfl ?_
          refine L.step (Ev.pure rfl) rfl ?_
          refine L.step (Ev.pure rfl) rfl ?_
          refine L.step (Ev.fieldAddr rfl rfl rfl rfl rfl rfl (Src.r 1 rfl) (Nat.zero_lt_succ _) rfl) rfl ?_
          refine L.step (Ev.load rfl rfl rfl (Src.r 1 rfl) rfl) rfl ?_
          refine L.step (Ev.pure rfl) rfl ?_
          refine L.step (Ev.sub rfl rfl (by omega) (by omega)) rfl ?_
          refine L.step (Ev.cast (u := .int .i64 (((chunk b at_.toNat f.size s).length : Nat) : Int)) (Ev.pure rfl) (congrArg (Value.int .i64) (by show (if _ < _ then _ else _) = _; rw [hcl]; split <;> omega))) rfl ?_
          refine L.step (Ev.sliceH (h := (chunk b at_.toNat f.size s).length) rfl rfl rfl rfl rfl rfl (by omega)) rfl ?_
          refine L.step (Ev.pure rfl) rfl ?_
          refine L.nil ?_
          refine QE.seq ?_
          refine C.seq ?_
          refine C.regionQ (by kernel_rfl) ?_
          refine LQ.step (Ev.fieldAddr rfl rfl rfl rfl rfl rfl (Src.r 1 rfl) (Nat.zero_lt_succ _) rfl) rfl ?_
          refine LQ.step (Ev.load rfl rfl rfl (Src.r 1 rfl) rfl) rfl ?_
          refine LQ.step (Ev.fieldAddr rfl rfl rfl rfl rfl rfl (Src.r 0 rfl) (Nat.zero_lt_succ _) rfl) rfl ?_
          refine LQ.step (Ev.load rfl rfl rfl (Src.r 0 rfl) rfl) rfl ?_
          refine LQ.step (Ev.pure rfl) rfl ?_
          refine LQ.step (Ev.idx1 (k := s) rfl rfl rfl rfl rfl rfl rfl (by omega) (Src.r 6 rfl) (by rw [I64_len]; omega)) rfl ?_
          refine LQ.step (Ev.load rfl rfl rfl (Src.r 6 rfl) (I64_get (by omega))) rfl ?_
          refine LQ.step (Ev.idx1 (k := (us.getD s 0).toNat) rfl rfl rfl rfl rfl rfl (by omega) (by omega) (Src.r 2 rfl) (by rw [rowsV_len (by rw [B8_len]; exact hh), B8_len]; omega)) rfl ?_
          refine LQ.step (Ev.load rfl rfl rfl (Src.r 2 rfl) (rows8_get hh (by omega))) rfl ?_
          refine LQ.step (Ev.pure rfl) rfl ?_
          refine LQ.step (Ev.sliceL (l := (frm at_.toNat f.size s - s * f.size)) rfl rfl rfl rfl rfl rfl (by omega)) rfl ?_
          refine LQ.step (Ev.pure rfl) rfl ?_
          refine LQ.nil ?_
          refine QE.seq ?_
          refine C.seq ?_
          refine C.seq ?_
          refine C.more (r := Rd (subA W wc (frm at_.toNat f.size s - at_.toNat) 1) (U8 (chunk b at_.toNat f.size s))) (((Has.dropU (Has.r 7 rfl) wc (frm at_.toNat f.size s - at_.toNat) hwc).take (too at_.toNat f.size b.length s - frm at_.toNat f.size s)).cast (U8_take _ _)) ?_
          refine C.more (r := Rd (subA (a.hs.getD (us.getD s 0).toNat (none, 0)).1 (a.hs.getD (us.getD s 0).toNat (none, 0)).2 (frm at_.toNat f.size s - s * f.size) 1) (U8 ((f.data.getD (us.getD s 0).toNat []).drop (frm at_.toNat f.size s - s * f.size)))) (Has.dropU ((Has.kid 4 rfl (by rw [B8_len]; exact hh) ((us.getD s 0).toNat) (by rw [B8_len]; omega)).cast (B8_get _)) (a.hs.getD (us.getD s 0).toNat (none, 0)).2 (frm at_.toNat f.size s - s * f.size) (by omega)) ?_
          refine C.region ?_
          refine L.step (Ev.pure rfl) rfl ?_
          refine L.step (Ev.pure rfl) rfl ?_
          refine L.step (Ev.pure rfl) rfl ?_
          refine L.nil ?_
          refine QE.seq ?_
          refine C.block ?_
          refine C.loop (fun j : Nat => [(2, .int .i64 at_), (3, .slice W b.length wc), (4, ptrOf A4 0), (5, ptrOf A5 0), (8, ptrOf A8 0), (12, ptrOf N 0), (13, .int .i64 ((ffr at_.toNat b.length f.size s : Nat) : Int)), (14, .int .i64 (s : Int)), (15, .int .i64 (((frm at_.toNat f.size s - s * f.size) : Nat) : Int)), (16, .slice (subA W wc (frm at_.toNat f.size s - at_.toNat) 1) (chunk b at_.toNat f.size s).length (wc - (frm at_.toNat f.size s - at_.toNat))), (17, .slice (subA (a.hs.getD (us.getD s 0).toNat (none, 0)).1 (a.hs.getD (us.getD s 0).toNat (none, 0)).2 (frm at_.toNat f.size s - s * f.size) 1) ((f.data.getD (us.getD s 0).toNat []).length - (frm at_.toNat f.size s - s * f.size)) ((a.hs.getD (us.getD s 0).toNat (none, 0)).2 - (frm at_.toNat f.size s - s * f.size))), (82, .slice (subA W wc (frm at_.toNat f.size s - at_.toNat) 1) (chunk b at_.toNat f.size s).length (wc - (frm at_.toNat f.size s - at_.toNat))), (83, .int .i64 (((chunk b at_.toNat f.size s).length : Nat) : Int)), (84, .int .i64 (j : Int))]) (fun j : Nat => [Rd (subA (a.hs.getD (us.getD s 0).toNat (none, 0)).1 (a.hs.getD (us.getD s 0).toNat (none, 0)).2 (frm at_.toNat f.size s - s * f.size) 1) (U8 ((f.data.getD (us.getD s 0).toNat []).drop (frm at_.toNat f.size s - s * f.size))), Rd (subA W wc (frm at_.toNat f.size s - at_.toNat) 1) (U8 (chunk b at_.toNat f.size s)), Rd A5 [.int .i64 0, .int .i64 0, .int .i64 0, .int .i64 0, .int .i64 0, .slice none 0 0, .slice U us.length uc, .slice none 0 0], Rd A4 [.int .i64 (f.size : Int), .slice a.D f.data.length a.cD, .slice a.W f.wear.length a.cW, .int .i64 f.limit, .slice a.E f.dead.length a.cE], Rd a.D (rowsV a.hs (B8 f.data)), KidsR a.hs (B8 f.data), Rd a.W (I64 f.wear), Rd a.E (Bs f.dead), Rd U (I64 us), Rd W (U8 b)]) (fun j : Nat => [Own 53 4 A8 1 1 [.int .i64 0, .int .i64 0, .int .i64 0, .slice none 0 0], Own 53 4 N n n cs]) (fun j : Nat => j ≤ (chunk b at_.toNat f.size s).length ∧ okN (area f us) b at_.toNat ((frm at_.toNat f.size s - at_.toNat) + j) = true) (fun j : Nat => (chunk b at_.toNat f.size s).length - j) 0 ⟨Nat.zero_le _, by rw [Nat.add_zero, ← w1]; exact hjj⟩ (by exact Le.mk' (rs := [0, 1, 2, 3, 4, 5, 6, 7, 8, 9]) (hs := [0, 1]) ⟨rfl, rfl, rfl, rfl, rfl, rfl, rfl, rfl, rfl, rfl, rfl, rfl, rfl, rfl, trivial⟩ ⟨rfl, rfl, rfl, rfl, rfl, rfl, rfl, rfl, rfl, rfl, trivial⟩ ⟨rfl, rfl, trivial⟩ (by decide)) ?_
          clear hjj
          rintro j ⟨hj, hjj⟩
          refine C.seq ?_
          refine C.region ?_
          refine L.step (Ev.pure rfl) rfl ?_
          refine L.nil ?_
          refine QE.seq ?_
          refine C.seq ?_
          refine C.condB 85 rfl (fun hc85 => ?_) (fun hc85 => ?_)
          · skip
            replace hc85 := of_decide_eq_true hc85
            have hj2 : j < (chunk b at_.toNat f.size s).length := by omega
            have g1 := chunk_get hj2
            have g2 := row_get (j := j) (p := at_.toNat) hok hu hsl (by omega) (by omega) (by omega)
            refine C.skip ?_
            refine QE.seq ?_
            refine C.seq ?_
            refine C.block ?_
            refine C.seq ?_
            refine C.region ?_
            refine L.step (Ev.pure rfl) rfl ?_
            refine L.step (Ev.idx1 (k := j) rfl rfl rfl rfl rfl rfl rfl (by omega) (Src.r 1 rfl) (by rw [U8_len]; omega)) rfl ?_
            refine L.step (Ev.load rfl rfl rfl (Src.r 1 rfl) (U8_get (by omega))) rfl ?_
            refine L.step (Ev.pure rfl) rfl ?_
            refine L.step (Ev.pure rfl) rfl ?_
            refine L.nil ?_
            refine QE.seq ?_
            refine C.seq ?_
            refine C.region ?_
            refine L.step (Ev.pure rfl) rfl ?_
            refine L.step (Ev.pure rfl) rfl ?_
            refine L.step (Ev.idx1 (k := j) rfl rfl rfl rfl rfl rfl rfl (by omega) (Src.r 0 rfl) (by rw [U8_len, List.length_drop]; omega)) rfl ?_
            refine L.step (Ev.load rfl rfl rfl (Src.r 0 rfl) (U8_get (by rw [List.length_drop]; omega))) rfl ?_
            refine L.step (Ev.pure rfl) rfl ?_
            first | refine L.step (Ev.and8 rfl rfl) rfl ?_ | refine L.step (Ev.pure rfl) rfl ?_
            refine L.step (Ev.pure rfl) rfl ?_
            refine L.step (Ev.pure rfl) rfl ?_
            refine L.nil ?_
            refine QE.seq ?_
            refine C.condB 96 rfl (fun hc96 => ?_) (fun hc96 => ?_)
            · skip
              replace hc96 := b_ne hc96
              have hno : okN (area f us) b at_.toNat b.length = false := okN_no (k := (frm at_.toNat f.size s - at_.toNat) + j) (by omega) (by rw [← g1, ← g2]; exact fun e => hc96 (u8_eq.2 e))
              refine C.seq ?_
              refine C.region ?_
              refine L.step (Ev.build rfl rfl rfl rfl rfl rfl rfl) rfl ?_
              refine L.storeA (j := 0) rfl rfl rfl rfl rfl (Nat.zero_lt_succ _) rfl rfl ?_
              refine L.step (Ev.pure rfl) rfl ?_
              refine L.step (Ev.pure rfl) rfl ?_
              refine L.nil ?_
              refine QE.seq ?_
              refine C.ret ?_
              refine QE.bR ?_
              refine QE.tR ?_
              refine QE.tR ?_
              refine QE.bR ?_
              refine QE.tR ?_
              refine QE.bR ?_
              refine QE.tR ?_
              refine QE.bR ?_
              refine QE.tR ?_
              refine QE.more (r := Rd none []) (Has.nil) ?_
              refine QE.ret (js := [0]) (hs := []) (vs := [_, _, _]) rfl ⟨⟨_, _, 0, _, rfl, rfl, Src.o 0 rfl, .inl ⟨rfl, by decide, _, rfl, rfl, rfl⟩⟩, rfl, rfl, trivial⟩ (by decide) ?_
              refine ⟨none, 0, ?_, ?_, rfl⟩
              · rw [towS_2 hB hno]; rfl
              · rw [towS_2 hB hno]; rfl
            · skip
              replace hc96 := b_eq hc96
              have hyes : (area f us).getD (at_.toNat + ((frm at_.toNat f.size s - at_.toNat) + j)) 0 &&& b.getD ((frm at_.toNat f.size s - at_.toNat) + j) 0 = b.getD ((frm at_.toNat f.size s - at_.toNat) + j) 0 := by rw [← g1, ← g2]; exact u8_eq.1 hc96
              refine C.skip ?_
              refine QE.blkN ?_
              refine QE.seq ?_
              refine C.region ?_
              refine L.step (Ev.add rfl rfl (by omega) (by omega)) rfl ?_
              refine L.step (Ev.pure rfl) rfl ?_
              refine L.nil ?_
              refine QE.round (j + 1) (by exact ⟨by omega, by rw [← Nat.add_assoc, okN_succ, hjj, hyes]; simp⟩) (by omega) (by exact Le.mk' (rs := [0, 1, 2, 3, 4, 5, 6, 7, 8, 9]) (hs := [0, 1]) ⟨rfl, rfl, rfl, rfl, rfl, rfl, rfl, rfl, rfl, rfl, rfl, rfl, rfl, rfl, trivial⟩ ⟨rfl, rfl, rfl, rfl, rfl, rfl, rfl, rfl, rfl, rfl, trivial⟩ ⟨rfl, rfl, trivial⟩ (by decide))
          · skip
            replace hc85 := of_decide_eq_false hc85
            refine C.exit ?_
            refine QE.tX ?_
            refine QE.tX ?_
            refine QE.blk ?_
            refine QE.seq ?_
            refine C.seq ?_
            refine C.seq ?_
            obtain rfl : j = (chunk b at_.toNat f.size s).length := by omega
            refine C.region ?_
            refine L.step (Ev.pure rfl) rfl ?_
            refine L.step (Ev.eqNilP rfl rfl rfl rfl) rfl ?_
            refine L.step (Ev.pure rfl) rfl ?_
            refine L.bool 101 rfl (fun hg101 => ?_) (fun hg101 => ?_)
            · skip
              have hnf := hnx.none hg101
              obtain ⟨hn1, rfl, rfl, rfl⟩ := hnf
              refine L.yes rfl ?_
              refine L.step (Ev.pure rfl) rfl ?_
              refine L.yes rfl ?_
              refine L.step (Ev.pure rfl) rfl ?_
              refine L.yes rfl ?_
              refine L.step (Ev.pure rfl) rfl ?_
              refine L.yes rfl ?_
              refine L.step (Ev.cast (u := .slice (subA (a.hs.getD (us.getD s 0).toNat (none, 0)).1 (a.hs.getD (us.getD s 0).toNat (none, 0)).2 (frm at_.toNat f.size s - s * f.size) 1) (((f.data.getD (us.getD s 0).toNat []).drop (frm at_.toNat f.size s - s * f.size)).take (chunk b at_.toNat f.size s).length).length ((a.hs.getD (us.getD s 0).toNat (none, 0)).2 - (frm at_.toNat f.size s - s * f.size))) (Ev.sliceH (h := (chunk b at_.toNat f.size s).length) rfl rfl rfl rfl rfl rfl (by omega)) (by rw [List.length_take, List.length_drop, Nat.min_eq_left (by omega)])) rfl ?_
              refine L.yes rfl ?_
              refine L.step (Ev.pure rfl) rfl ?_
              refine L.yes rfl ?_
              refine L.call (js := []) (js' := [0, 1]) (eq8_c _ _ _ _ (((f.data.getD (us.getD s 0).toNat []).drop (frm at_.toNat f.size s - s * f.size)).take (chunk b at_.toNat f.size s).length) (chunk b at_.toNat f.size s) (by rw [List.length_take]; omega)) rfl rfl rfl (by decide) ⟨(((Has.r 0 rfl)).take (chunk b at_.toNat f.size s).length |>.cast (U8_take _ _)), (Has.r 1 rfl), trivial⟩ rfl ?_
              rintro _ _ _ ⟨rfl, rfl, rfl⟩
              refine L.yes rfl ?_
              refine L.step (Ev.pure rfl) rfl ?_
              refine L.step (Ev.pure rfl) rfl ?_
              refine L.nil ?_
              refine QE.seq ?_
              refine C.condB 109 rfl (fun hc109 => ?_) (fun hc109 => ?_)
              · skip
                have hdf : (area f us).drop (frm at_.toNat f.size s) |>.take (too at_.toNat f.size b.length s - frm at_.toNat f.size s) |> (· ≠ chunk b at_.toNat f.size s) := by show _ ≠ _; rw [hrp]; simpa using hc109
                refine C.region ?_
                refine L.step (Ev.fieldAddr rfl rfl rfl rfl rfl rfl (Src.r 2 rfl) (Nat.zero_lt_succ _) rfl) rfl ?_
                refine L.step (Ev.load rfl rfl rfl (Src.r 2 rfl) rfl) rfl ?_
                refine L.step (Ev.pure rfl) rfl ?_
                refine L.step (Ev.idx1 (k := s) rfl rfl rfl rfl rfl rfl rfl (by omega) (Src.r 8 rfl) (by rw [I64_len]; omega)) rfl ?_
                refine L.step (Ev.load rfl rfl rfl (Src.r 8 rfl) (I64_get (by omega))) rfl ?_
                refine L.step (Ev.pure rfl) rfl ?_
                refine L.step (Ev.pure rfl) rfl ?_
                refine L.step (Ev.build rfl rfl rfl rfl rfl rfl rfl) rfl ?_
                refine L.boxA rfl rfl (fun A118 => ?_)
                refine L.step (Ev.pure rfl) rfl ?_
                refine L.nil ?_
                refine QE.seq ?_
                refine C.region ?_
                refine L.step (Ev.pure rfl) rfl ?_
                refine L.step (Ev.pure rfl) rfl ?_
                refine L.step (Ev.pure rfl) rfl ?_
                refine L.step (Ev.add rfl rfl (by omega) (by omega)) rfl ?_
                refine L.step (Ev.pure rfl) rfl ?_
                refine L.nil ?_
                refine QE.blkN ?_
                refine QE.someA 2 rfl (Nat.zero_lt_succ _) (fun h118 => ?_)
                refine QE.round (i := (s, none, 0, [])) ((s + 1, A118, 1, [.int .i64 2, .int .i64 (us.getD s 0), .int .i64 (((frm at_.toNat f.size s - s * f.size) : Nat) : Int), .slice (subA W wc (frm at_.toNat f.size s - at_.toNat) 1) (chunk b at_.toNat f.size s).length (wc - (frm at_.toNat f.size s - at_.toNat))])) (by exact ⟨by dsimp only; omega, (ffr_next (n := b.length) hps).2, by rw [(ffr_next (n := b.length) hps).1, show too at_.toNat f.size b.length s - at_.toNat = (frm at_.toNat f.size s - at_.toNat) + (chunk b at_.toNat f.size s).length from by omega]; exact hjj, .inr ⟨s, find_yes hn1 (diffB_yes w5 hdf), h118, rfl, rfl⟩⟩) (by dsimp only; omega) (by exact Le.mk' (rs := [2, 3, 4, 5, 6, 7, 8, 9]) (hs := [0, 2]) ⟨rfl, rfl, rfl, rfl, rfl, rfl, (by dsimp only; rw [(ffr_next (n := b.length) hps).1]; exact congrArg some (congrArg (Value.int .i64) (by omega))), trivial⟩ ⟨rfl, rfl, rfl, rfl, rfl, rfl, rfl, rfl, trivial⟩ ⟨rfl, rfl, trivial⟩ (by decide))
              · skip
                have hdf : (area f us).drop (frm at_.toNat f.size s) |>.take (too at_.toNat f.size b.length s - frm at_.toNat f.size s) |> (· = chunk b at_.toNat f.size s) := by show _ = _; rw [hrp]; simpa using hc109
                refine C.skip ?_
                refine QE.seq ?_
                refine C.region ?_
                refine L.step (Ev.pure rfl) rfl ?_
                refine L.step (Ev.pure rfl) rfl ?_
                refine L.step (Ev.pure rfl) rfl ?_
                refine L.step (Ev.add rfl rfl (by omega) (by omega)) rfl ?_
                refine L.step (Ev.pure rfl) rfl ?_
                refine L.nil ?_
                refine QE.blkN ?_
                refine QE.round (i := (s, none, 0, [])) ((s + 1, none, 0, [])) (by exact ⟨by dsimp only; omega, (ffr_next (n := b.length) hps).2, by rw [(ffr_next (n := b.length) hps).1, show too at_.toNat f.size b.length s - at_.toNat = (frm at_.toNat f.size s - at_.toNat) + (chunk b at_.toNat f.size s).length from by omega]; exact hjj, .inl ⟨find_no hn1 (diffB_no2 hdf), rfl, rfl, rfl⟩⟩) (by dsimp only; omega) (by exact Le.mk' (rs := [2, 3, 4, 5, 6, 7, 8, 9]) (hs := [0, 1]) ⟨rfl, rfl, rfl, rfl, rfl, rfl, (by dsimp only; rw [(ffr_next (n := b.length) hps).1]; exact congrArg some (congrArg (Value.int .i64) (by omega))), trivial⟩ ⟨rfl, rfl, rfl, rfl, rfl, rfl, rfl, rfl, trivial⟩ ⟨rfl, rfl, trivial⟩ (by decide))
            · skip
              refine L.no rfl rfl rfl ?_
              refine L.no rfl rfl rfl ?_
              refine L.no rfl rfl rfl ?_
              refine L.no rfl rfl rfl ?_
              refine L.no rfl rfl rfl ?_
              refine L.no rfl rfl rfl ?_
              refine L.no rfl rfl rfl ?_
              refine L.step (Ev.pure rfl) rfl ?_
              refine L.nil ?_
              refine QE.seq ?_
              refine C.cond rfl (fun h => by cases h) (fun _ => ?_)
              refine C.skip ?_
              refine QE.seq ?_
              refine C.region ?_
              refine L.step (Ev.pure rfl) rfl ?_
              refine L.step (Ev.pure rfl) rfl ?_
              refine L.step (Ev.pure rfl) rfl ?_
              refine L.step (Ev.add rfl rfl (by omega) (by omega)) rfl ?_
              refine L.step (Ev.pure rfl) rfl ?_
              refine L.nil ?_
              refine QE.blkN ?_
              refine QE.round (i := (s, N, n, cs)) ((s + 1, N, n, cs)) (by exact ⟨by dsimp only; omega, (ffr_next (n := b.length) hps).2, by rw [(ffr_next (n := b.length) hps).1, show too at_.toNat f.size b.length s - at_.toNat = (frm at_.toNat f.size s - at_.toNat) + (chunk b at_.toNat f.size s).length from by omega]; exact hjj, hnx.keep hg101⟩) (by dsimp only; omega) (by exact Le.mk' (rs := [2, 3, 4, 5, 6, 7, 8, 9]) (hs := [0, 1]) ⟨rfl, rfl, rfl, rfl, rfl, rfl, (by dsimp only; rw [(ffr_next (n := b.length) hps).1]; exact congrArg some (congrArg (Value.int .i64) (by omega))), trivial⟩ ⟨rfl, rfl, rfl, rfl, rfl, rfl, rfl, rfl, trivial⟩ ⟨rfl, rfl, trivial⟩ (by decide))
        · skip
          replace hc48 := of_decide_eq_false hc48
          have hnl : ¬ffr at_.toNat b.length f.size s < at_.toNat + b.length := by omega
          have hjf : okN (area f us) b at_.toNat b.length = true := by rw [show ffr at_.toNat b.length f.size s - at_.toNat = b.length from by unfold ffr at *; omega] at hjj; exact hjj
          refine C.exit ?_
          refine QE.tX ?_
          refine QE.tX ?_
          refine QE.blk ?_
          refine QE.seq ?_
          refine C.seq ?_
          refine C.block ?_
          refine C.seq ?_
          refine C.region ?_
          refine L.step (Ev.pure rfl) rfl ?_
          refine L.step (Ev.eqNilP rfl rfl rfl rfl) rfl ?_
          refine L.step (Ev.pure rfl) rfl ?_
          refine L.nil ?_
          refine QE.seq ?_
          refine C.condB 123 rfl (fun hc123 => ?_) (fun hc123 => ?_)
          · skip
            have hnf := (hnx.none hc123).1
            have hfr := find_rest hnf hsz (fun t ht => ffr_after hnl ht)
            refine C.seq ?_
            refine C.region ?_
            refine L.step (Ev.build rfl rfl rfl rfl rfl rfl rfl) rfl ?_
            refine L.storeA (j := 0) rfl rfl rfl rfl rfl (Nat.zero_lt_succ _) rfl rfl ?_
            refine L.step (Ev.pure rfl) rfl ?_
            refine L.step (Ev.pure rfl) rfl ?_
            refine L.nil ?_
            refine QE.seq ?_
            refine C.ret ?_
            refine QE.bR ?_
            refine QE.tR ?_
            refine QE.more (r := Rd none []) (Has.nil) ?_
            refine QE.ret (js := [0]) (hs := []) (vs := [_, _, _]) rfl ⟨⟨_, _, 0, _, rfl, rfl, Src.o 0 rfl, .inl ⟨rfl, by decide, _, rfl, rfl, rfl⟩⟩, rfl, rfl, trivial⟩ (by decide) ?_
            refine ⟨none, 0, ?_, ?_, rfl⟩
            · rw [towS_3 hB hjf hfr]; rfl
            · rw [towS_3 hB hjf hfr]; rfl
          · skip
            obtain ⟨t, ht, rfl, rfl⟩ := hnx.some hc123
            have htl := find_lt ht
            have hur := hu.r t (by omega)
            have hfm := find_mono ht hsz
            refine C.seq ?_
            refine C.regionQ (by kernel_rfl) ?_
            refine LQ.step (Ev.fieldAddr rfl rfl rfl rfl rfl rfl (Src.r 1 rfl) (Nat.zero_lt_succ _) rfl) rfl ?_
            refine LQ.step (Ev.load rfl rfl rfl (Src.r 1 rfl) rfl) rfl ?_
            refine LQ.step (Ev.pure rfl) rfl ?_
            refine LQ.step (Ev.nilCheck rfl (Src.o 1 rfl) (Nat.zero_lt_succ _)) rfl ?_
            refine LQ.step (Ev.fieldAddr rfl rfl rfl rfl rfl rfl (Src.o 1 rfl) (Nat.zero_lt_succ _) rfl) rfl ?_
            refine LQ.step (Ev.load rfl rfl rfl (Src.o 1 rfl) rfl) rfl ?_
            refine LQ.step (Ev.idx1 (k := (us.getD t 0).toNat) rfl rfl rfl rfl rfl rfl (by omega) (by omega) (Src.r 5 rfl) (by rw [Bs_len]; omega)) rfl ?_
            refine LQ.step (Ev.load rfl rfl rfl (Src.r 5 rfl) (Bs_get (by omega))) rfl ?_
            refine LQ.step (Ev.pure rfl) rfl ?_
            refine LQ.nil ?_
            refine QE.seq ?_
            refine C.condB 127 rfl (fun hc127 => ?_) (fun hc127 => ?_)
            · skip
              refine C.seq ?_
              refine C.region ?_
              refine L.step (Ev.build rfl rfl rfl rfl rfl rfl rfl) rfl ?_
              refine L.storeA (j := 0) rfl rfl rfl rfl rfl (Nat.zero_lt_succ _) rfl rfl ?_
              refine L.step (Ev.pure rfl) rfl ?_
              refine L.step (Ev.pure rfl) rfl ?_
              refine L.nil ?_
              refine QE.seq ?_
              refine C.ret ?_
              refine QE.bR ?_
              refine QE.tR ?_
              refine QE.more (r := Rd none []) (Has.nil) ?_
              refine QE.ret (js := [0]) (hs := []) (vs := [_, _, _]) rfl ⟨⟨_, _, 0, _, rfl, rfl, Src.o 0 rfl, .inl ⟨rfl, by decide, _, rfl, rfl, rfl⟩⟩, rfl, rfl, trivial⟩ (by decide) ?_
              refine ⟨none, 0, ?_, ?_, rfl⟩
              · rw [towS_4 hB hjf hfm hc127]; rfl
              · rw [towS_4 hB hjf hfm hc127]; rfl
            · skip
              refine C.skip ?_
              refine QE.blkN ?_
              refine QE.seq ?_
              refine C.seq ?_
              refine C.region ?_
              refine L.step (Ev.pure rfl) rfl ?_
              refine L.step (Ev.nilCheck rfl (Src.o 1 rfl) (Nat.zero_lt_succ _)) rfl ?_
              refine L.step (Ev.loadA rfl rfl rfl (Src.o 1 rfl) rfl rfl (by decide)) rfl ?_
              refine L.storeA (j := 0) rfl rfl rfl rfl rfl (Nat.zero_lt_succ _) rfl rfl ?_
              refine L.step (Ev.pure rfl) rfl ?_
              refine L.step (Ev.pure rfl) rfl ?_
              refine L.nil ?_
              refine QE.seq ?_
              refine C.ret ?_
              refine QE.more (r := Rd (subA W wc (frm at_.toNat f.size t - at_.toNat) 1) (U8 (chunk b at_.toNat f.size t))) (((Has.dropU (Has.r 7 rfl) wc (frm at_.toNat f.size t - at_.toNat) hwc).take (too at_.toNat f.size b.length t - frm at_.toNat f.size t)).cast (U8_take _ _)) ?_
              refine QE.ret (js := [0]) (hs := []) (vs := [_, _, _]) rfl ⟨⟨_, _, 0, _, rfl, rfl, Src.o 0 rfl, .inl ⟨rfl, by decide, _, rfl, rfl, rfl⟩⟩, rfl, rfl, trivial⟩ (by decide) ?_
              refine ⟨subA W wc (frm at_.toNat f.size t - at_.toNat) 1, wc - (frm at_.toNat f.size t - at_.toNat), ?_, ?_, rfl⟩
              · rw [towS_5 hB hjf hfm hc127]; rfl
              · rw [towS_5 hB hjf hfm hc127]; rfl

theorem ltowU_c (f : Fl) (a : Fa) (ok : f.Ok) (hh : a.hs.length = f.data.length) (us : List Int) (U : Option Addr) (uc : Nat) (hu : UOk f us) (at_ : Int) (b : List UInt8) (W : Option Addr) (wc : Nat) (hbl : b.length ≤ 1000000) (hwc : b.length ≤ wc) (hcap : Caps f a) :
    Ctr X 27 [.agg (List.toArray [.int .i64 (f.size : Int), .slice a.D f.data.length a.cD, .slice a.W f.wear.length a.cW, .int .i64 f.limit, .slice a.E f.dead.length a.cE]), .agg (List.toArray [.int .i64 0, .int .i64 0, .int .i64 0, .int .i64 0, .int .i64 0, .slice none 0 0, .slice U us.length uc, .slice none 0 0]), .agg (List.toArray [.int .i64 at_, .slice W b.length wc])] [Rd a.D (rowsV a.hs (B8 f.data)), KidsR a.hs (B8 f.data), Rd a.W (I64 f.wear), Rd a.E (Bs f.dead), Rd U (I64 us), Rd W (U8 b)] [] (fun v R' H' => ∃ A c, v = .agg (List.toArray [.int .i64 (towS f us at_ b).x.kind, .int .i64 (towS f us at_ b).x.sec, .int .i64 (towS f us at_ b).x.at_, .slice A (towS f us at_ b).x.data.length c, .bool (towS f us at_ b).done, .int .i64 (towS f us at_ b).e]) ∧ R' = [Rd A (U8 (towS f us at_ b).x.data)] ∧ H' = []) := by
  refine Ctr.of (X := X) (fn := Try.f27) Try.func27 rfl (by kernel_rfl) rfl ?_
  intro β
  refine C.seq ?_
  refine C.region ?_
  refine L.boxA rfl rfl (fun A3 => ?_)
  refine L.boxA rfl rfl (fun A4 => ?_)
  refine L.boxA rfl rfl (fun A5 => ?_)
  refine L.alloc rfl rfl rfl (fun A6 => ?_)
  refine L.nil ?_
  refine QE.seq ?_
  refine C.seq ?_
  refine C.freeze 0 rfl [1, 2, 3] (by decide) (by decide) ?_
  refine C.freeze 0 rfl [1, 2] (by decide) (by decide) ?_
  refine C.freeze 0 rfl [1] (by decide) (by decide) ?_
  refine C.region ?_
  refine L.step (Ev.loadA rfl rfl rfl (Src.r 2 rfl) rfl rfl (by decide)) rfl ?_
  refine L.step (Ev.loadA rfl rfl rfl (Src.r 1 rfl) rfl rfl (by decide)) rfl ?_
  refine L.step (Ev.fieldAddr rfl rfl rfl rfl rfl rfl (Src.r 0 rfl) (Nat.zero_lt_succ _) rfl) rfl ?_
  refine L.step (Ev.load rfl rfl rfl (Src.r 0 rfl) rfl) rfl ?_
  refine L.step (Ev.fieldAddr rfl rfl rfl rfl rfl rfl (Src.r 0 rfl) (Nat.zero_lt_succ _) rfl) rfl ?_
  refine L.step (Ev.load rfl rfl rfl (Src.r 0 rfl) rfl) rfl ?_
  refine L.callR (js := []) (js' := [0]) (towPU_c f a ok hh us U uc hu at_ b W wc hbl hwc hcap) rfl rfl rfl (by decide) ⟨(Has.r 3 rfl), (Has.r 4 rfl), (Has.r 5 rfl), (Has.r 6 rfl), (Has.r 7 rfl), (Has.r 8 rfl), trivial⟩ rfl ?_
  rintro _ _ _ ⟨NA, nc, rfl, rfl, rfl⟩
  refine L.step (Ev.pure rfl) rfl ?_
  refine L.step (Ev.pure rfl) rfl ?_
  refine L.step (Ev.pure rfl) rfl ?_
  refine L.step (Ev.pure rfl) rfl ?_
  refine L.alloc rfl rfl rfl (fun A7 => ?_)
  refine L.storeA (j := 1) rfl rfl rfl rfl rfl (Nat.zero_lt_succ _) rfl rfl ?_
  refine L.step (Ev.pure rfl) rfl ?_
  refine L.step (Ev.pure rfl) rfl ?_
  refine L.nil ?_
  refine QE.seq ?_
  refine C.seq ?_
  refine C.region ?_
  refine L.step (Ev.loadA rfl rfl rfl (Src.o 1 rfl) rfl rfl (by decide)) rfl ?_
  refine L.step (Ev.pure rfl) rfl ?_
  refine L.step (Ev.pure rfl) rfl ?_
  refine L.step (Ev.build rfl rfl rfl rfl rfl rfl rfl) rfl ?_
  refine L.storeA (j := 0) rfl rfl rfl rfl rfl (Nat.zero_lt_succ _) rfl rfl ?_
  refine L.nil ?_
  refine QE.seq ?_
  refine C.ret ?_
  refine QE.ret (js := [0]) (hs := []) (vs := [_]) rfl ⟨⟨_, _, 0, _, rfl, rfl, Src.o 0 rfl, .inl ⟨rfl, by decide, _, rfl, rfl, rfl⟩⟩, trivial⟩ (by decide) ?_
  exact ⟨NA, nc, rfl, rfl, rfl⟩

end Go.Proofs.Ythfjkdgopkmgoaa
