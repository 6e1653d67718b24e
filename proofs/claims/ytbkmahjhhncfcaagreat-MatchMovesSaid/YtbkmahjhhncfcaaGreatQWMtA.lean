/-
  The automaton of all pieces of a text.
-/
import Derived.Test.YtbkmahjhhncfcaaGreatQSlT
import Derived.Test.YtbkmahjhhncfcaaGreatQMd
import Derived.Test.YtbkmahjhhncfcaaGreatQSlR
import Derived.Test.YtbkmahjhhncfcaaGreatQSlV
namespace Go.Proofs.YtbkmahjhhncfcaaGreat
open Go.Sl

theorem copied_c (g : Nat) (f : UInt8 → Option Nat) :
   Ctr X 109 [.map (some g)] [MapF g f] [] (fun v R' H' => ∃ g', v = .map (some g') ∧ R' = [] ∧ H' = [MapF g' f]) := by
 refine Ctr.of (X := X) (fn := Tryz.f109) Tryz.func109 rfl (by kernel_rfl) rfl ?_
 intro β
 refine C.openF 0 rfl (fun m es clock hm => ?_)
 refine C.seq (C.region ?_); refine Lpu rfl rfl ?_; refine L.nil (QE.seq (C.seq (C.region ?_))); refine Lpu rfl rfl ?_; refine L.step (Ev.lenF 0 rfl rfl rfl rfl) rfl ?_
 refine L.makeMapN rfl rfl rfl rfl (fun g2 => ?_)
 refine Lpu rfl rfl ?_; refine L.nil (QE.seq (C.seq (C.seq (C.region ?_)))); refine Lpu rfl rfl ?_
 refine L.rangeF 0 rfl rfl rfl rfl rfl (fun r => ?_)
 refine L.nil (QE.seq (C.block ?_)); refine C.loop (fun q : Array Nat × (UInt8 → Option Nat) => [(3, .map (some g2)), (10, .pointer (some ⟨r, 0, none⟩))]) (fun q : Array Nat × (UInt8 → Option Nat) => [MapE g es clock]) (fun q : Array Nat × (UInt8 → Option Nat) => [MapF g2 q.2, ItP r g clock q.1]) (fun q : Array Nat × (UInt8 → Option Nat) => CopOk m es q.1 q.2) (fun q : Array Nat × (UInt8 → Option Nat) => (leftOf es q.1).size) (#[], fun _ => none) CopOk.start (by exact Le.mk' (rs := [0]) (hs := [0, 1]) ⟨rfl, rfl, trivial⟩ ⟨rfl, trivial⟩ ⟨rfl, rfl, trivial⟩ (by decide)) ?_
 rintro ⟨seen, fo⟩ hq
 dsimp only at hq ⊢
 refine C.seq ?_; refine C.join (fun p : Bool × MapEntry => [(3, .map (some g2)), (10, .pointer (some ⟨r, 0, none⟩)), (12, .bool p.1)]) (fun p : Bool × MapEntry => [MapE g es clock]) (fun p : Bool × MapEntry => [MapF g2 fo, ItP r g clock (bif p.1 then seen.push p.2.born else seen)]) (fun p : Bool × MapEntry => (p.1 = false → (leftOf es seen).size = 0) ∧ (p.1 = true → p.2 ∈ (leftOf es seen).toList)) ?_ ?_
 ·
  refine C.region ?_
  refine L.nextF 0 1 rfl rfl rfl hm.stamp rfl (fun h0 => ?_) (fun e he => ?_)
  ·
   refine Lpu rfl rfl ?_; refine L.nil ?_
   refine QE.joined ((false, ⟨.bool false, .bool false, 0⟩)) ⟨fun _ => h0, fun h => (by cases h)⟩ (by exact Le.mk' (rs := [0]) (hs := [0, 1]) ⟨rfl, rfl, rfl, trivial⟩ ⟨rfl, trivial⟩ ⟨rfl, rfl, trivial⟩ (by decide))
  ·
   refine Lpu rfl rfl ?_; refine L.nil ?_
   refine QE.joined ((true, e)) ⟨fun h => (by cases h), fun _ => he⟩ (by exact Le.mk' (rs := [0]) (hs := [0, 1]) ⟨rfl, rfl, rfl, trivial⟩ ⟨rfl, trivial⟩ ⟨rfl, rfl, trivial⟩ (by decide))
 ·
  rintro ⟨b, e⟩ ⟨hp1, hp2⟩
  dsimp only at hp1 hp2 ⊢
  refine QE.seq (C.seq ?_)
  refine C.condB 12 rfl (fun hc12 => ?_) (fun hc12 => ?_)
  ·
   subst hc12
   have hmem := hp2 rfl
   obtain ⟨c, v, hk, hv⟩ := hm.mem (mem_left hmem).1
   refine C.skip (QE.seq (C.block (C.seq (C.region ?_)))); refine L.step (Ev.entryF (e := e) 0 1 rfl rfl rfl hm.stamp (mem_left hmem).1) rfl ?_; refine L.step (Ev.cast (u := .int .u8 (c.toNat : Int)) (Ev.pure rfl) hk) rfl ?_; refine L.step (Ev.cast (u := .int .i64 (v : Int)) (Ev.pure rfl) hv) rfl ?_; refine Lpu rfl rfl ?_; refine Lpu rfl rfl ?_; refine L.nil (QE.seq (C.region ?_)); refine Lpu rfl rfl ?_; refine Lpu rfl rfl ?_; refine Lpu rfl rfl ?_; refine L.setF (j := 0) (q' := c) (v := v) rfl rfl rfl rfl rfl rfl rfl rfl rfl rfl ?_; refine L.nil ?_; refine QE.blkN ?_
   refine QE.round (i := (seen, fo)) ((seen.push e.born, updA fo c v)) (by exact (hq.step hm (mem_left hmem).1 hk hv)) (left_shrinks es seen e hmem) (by exact Le.mk' (rs := [0]) (hs := [0, 1]) ⟨rfl, rfl, trivial⟩ ⟨rfl, trivial⟩ ⟨rfl, rfl, trivial⟩ (by decide))
  ·
   subst hc12
   have hfo := hq.done hm (hp1 rfl)
   refine C.exit ?_; refine QE.tX ?_; refine QE.tX ?_; refine QE.blk ?_; refine QE.seq (C.seq (C.region ?_)); refine Lpu rfl rfl ?_; refine Lpu rfl rfl ?_; refine L.nil (QE.seq (C.ret ?_)); refine QE.ret (js := []) (hs := [0]) (vs := [_]) rfl ⟨rfl, trivial⟩ (by decide) ?_
   exact ⟨g2, rfl, rfl, by subst hfo; rfl⟩

set_option maxHeartbeats 4000000 in
theorem build_c (B : Option Addr) (b : List UInt8) (bc : Nat) (hb : b.length ≤ 65536) :
   Ctr X 83 [.slice B b.length bc] [Rd B (U8 b)] [] (fun v R' H' => ∃ (z : List Au) (gs : List Nat) (A : Option Addr) (c : Nat), v = .slice A z.length c ∧ R' = [] ∧ H' = [Own 169 4 A z.length c (auV gs z), OwnMs gs (z.map Au.nx)] ∧ gs.length = z.length ∧ z.length ≤ 131073 ∧ ∃ (L : Nat → List UInt8) (last : Nat), AuOk b (Dn z) (Ag z) L last) := by
 refine Ctr.of (X := X) (fn := Tryz.f83) Tryz.func83 rfl (by kernel_rfl) rfl ?_
 intro β
 refine C.seq (C.region ?_); refine Lpu rfl rfl ?_; refine L.nil (QE.seq (C.seq (C.region ?_)))
 refine L.makeMapF rfl (fun g0 => ?_)
 refine L.step (Ev.build rfl rfl rfl rfl rfl rfl rfl) rfl ?_
 refine L.lit1S (cs := [.map (some g0), .int .i64 (-1), .int .i64 0, .int .i64 0]) rfl rfl rfl rfl (Nat.zero_lt_succ _) rfl rfl rfl (fun A15 => ?_)
 refine Lpu rfl rfl ?_; refine L.nil (QE.seq (C.seq ?_)); refine C.ms0 ?_; refine C.absorbF 2 0 rfl rfl [1] (by decide) ?_; refine C.region ?_; refine Lpu rfl rfl ?_; refine L.nil (QE.seq (C.seq (C.seq (C.region ?_)))); refine Lpu rfl rfl ?_; refine Lpu rfl rfl ?_; refine Lpu rfl rfl ?_; refine L.nil (QE.seq (C.block ?_)); refine C.loop (fun s : Nat × List Au × List Nat × Option Addr × Nat × Nat × Nat => [(16, .slice B b.length bc), (17, .int .i64 (b.length : Int)), (18, .int .i64 (s.1 : Int)), (3, .slice s.2.2.2.1 s.2.2.2.2.2.1 s.2.2.2.2.1), (4, .int .i64 (s.2.2.2.2.2.2 : Int))]) (fun s : Nat × List Au × List Nat × Option Addr × Nat × Nat × Nat => [Rd B (U8 b)]) (fun s : Nat × List Au × List Nat × Option Addr × Nat × Nat × Nat => [Own 169 4 s.2.2.2.1 s.2.2.2.2.2.1 s.2.2.2.2.1 (auV s.2.2.1 s.2.1), OwnMs s.2.2.1 (s.2.1.map Au.nx)]) (fun s : Nat × List Au × List Nat × Option Addr × Nat × Nat × Nat => s.1 ≤ b.length ∧ s.2.1.length = s.2.2.2.2.2.1 ∧ s.2.2.1.length = s.2.1.length ∧ s.2.1.length ≤ 2 * s.1 + 1 ∧ ∃ L : Nat → List UInt8, AuOk (b.take s.1) (Dn s.2.1) (Ag s.2.1) L s.2.2.2.2.2.2) (fun s : Nat × List Au × List Nat × Option Addr × Nat × Nat × Nat => b.length - s.1) (0, [⟨fun _ => none, -1, 0, 0⟩], [g0], A15, 1, 1, 0) ⟨Nat.zero_le _, rfl, rfl, Nat.le_refl _, _, au_start⟩ (by exact Le.mk' (rs := [0]) (hs := [1, 0]) ⟨rfl, rfl, rfl, rfl, rfl, trivial⟩ ⟨rfl, trivial⟩ ⟨rfl, rfl, trivial⟩ (by decide)) ?_
 rintro ⟨i, z, gs, A, cA, n, last⟩ ⟨hi, hn, hgl, hzi, Lw, hA⟩
 dsimp only at hi hn hgl hzi hA ⊢
 subst hn
 obtain ⟨c, hc⟩ : ∃ c, c = b.getD i 0 := ⟨_, rfl⟩
 have hwl : (b.take i).length = i := by rw [List.length_take]; omega
 have hln : (Ag z last).ln = i := by rw [hA.len last hA.last.1, hA.last.2, hwl]
 refine C.seq (C.region ?_); refine Lpu rfl rfl ?_; refine L.nil (QE.seq (C.seq ?_))
 refine C.condB 19 rfl (fun hc19 => ?_) (fun hc19 => ?_)
 ·
  replace hc19 := of_decide_eq_true hc19
  refine C.skip (QE.seq ?_); refine C.seqJ (fun s : List Au × List Nat × Option Addr × Nat × Nat => [(16, .slice B b.length bc), (17, .int .i64 (b.length : Int)), (18, .int .i64 (i : Int)), (3, .slice s.2.2.1 s.2.2.2.2 s.2.2.2.1), (4, .int .i64 (z.length : Int))]) (fun s : List Au × List Nat × Option Addr × Nat × Nat => [Rd B (U8 b)]) (fun s : List Au × List Nat × Option Addr × Nat × Nat => [Own 169 4 s.2.2.1 s.2.2.2.2 s.2.2.2.1 (auV s.2.1 s.1), OwnMs s.2.1 (s.1.map Au.nx)]) (fun s : List Au × List Nat × Option Addr × Nat × Nat => s.1.length = s.2.2.2.2 ∧ s.2.1.length = s.1.length ∧ s.1.length ≤ z.length + 2 ∧ ∃ L' : Nat → List UInt8, AuOk (b.take i ++ [c]) (Dn s.1) (Ag s.1) L' z.length) ?_ ?_
  ·
   refine C.block (C.seq (C.region ?_)); refine Lpu rfl rfl ?_; refine L.step (Ev.idx1 (k := i) rfl rfl rfl rfl rfl rfl rfl (by omega) (Src.r 0 rfl) (by rw [U8_len]; omega)) rfl ?_; refine L.step (Ev.cast (u := .int .u8 (c.toNat : Int)) (Ev.load rfl rfl rfl (Src.r 0 rfl) (U8_get (by omega))) (by rw [hc])) rfl ?_; refine Lpu rfl rfl ?_; refine Lpu rfl rfl ?_; refine L.nil (QE.seq (C.seq (C.region ?_))); refine Lpu rfl rfl ?_; refine Lpu rfl rfl ?_; refine Lpu rfl rfl ?_; refine L.nil (QE.seq (C.seq (C.region ?_))); refine Lpu rfl rfl ?_
   refine L.makeMapF rfl (fun g1 => ?_)
   refine Lpu rfl rfl ?_; refine Lpu rfl rfl ?_; refine L.step (Ev.idx (k := last) (m := last * 4) rfl rfl rfl rfl rfl rfl hA.last.1 (Src.o 0 rfl) (auV_pos hgl hA.last.1) rfl) rfl ?_; refine L.step (Ev.fieldAddr rfl rfl rfl rfl rfl rfl (Src.o 0 rfl) (auV_pos hgl hA.last.1) rfl) rfl ?_; refine L.step (Ev.cast (u := .int .i64 (i : Int)) (Ev.load rfl rfl rfl (Src.o 0 rfl) (auV_get (k := last) (q := 2) hgl hA.last.1 (by decide))) (congrArg (fun n : Nat => Value.int .i64 (n : Int)) hln)) rfl ?_; refine L.step (Ev.add rfl rfl (by omega) (by omega)) rfl ?_; refine Lpu rfl rfl ?_; refine L.step (Ev.add rfl rfl (by omega) (by omega)) rfl ?_; refine L.step (Ev.build rfl rfl rfl rfl rfl rfl rfl) rfl ?_
   refine L.lit1S (cs := [.map (some g1), .int .i64 0, .int .i64 ((i : Int) + 1), .int .i64 ((i : Int) + 1)]) rfl rfl rfl rfl (Nat.zero_lt_succ _) rfl rfl rfl (fun A36 => ?_)
   refine L.append (j := 0) rfl rfl rfl rfl (by decide) rfl rfl rfl rfl (Src.o 3 rfl) rfl (allOne rfl) (by omega) (by show _ * 32 ≤ _; omega) rfl (fun A37 cc37 => ?_)
   refine Lpu rfl rfl ?_; refine L.nil (QE.seq (C.seq ?_)); refine C.absorbF 1 2 rfl rfl [0, 3] (by decide) ?_; refine C.le (Γ' := [(16, .slice B b.length bc), (17, .int .i64 (b.length : Int)), (18, .int .i64 (i : Int)), (6, .int .u8 (c.toNat : Int)), (7, .int .i64 (z.length : Int)), (5, .int .i64 (i : Int)), (3, .slice A37 (z.length + 1) cc37), (4, .int .i64 (last : Int))]) (R' := [Rd B (U8 b)]) (H' := [Own 169 4 A37 (z.length + 1) cc37 (auV (gs ++ [g1]) (z ++ [(⟨fun _ => none, 0, i + 1, i + 1⟩ : Au)])), OwnMs (gs ++ [g1]) ((z ++ [(⟨fun _ => none, 0, i + 1, i + 1⟩ : Au)]).map Au.nx)]) (by exact Le.mk' (rs := [0]) (hs := [1, 0]) ⟨rfl, rfl, rfl, rfl, rfl, rfl, rfl, rfl, trivial⟩ ⟨rfl, trivial⟩ ⟨(congrArg some (congrArg (Own 169 4 A37 (z.length + 1) cc37) (auV_app hgl g1 (⟨fun _ => none, 0, i + 1, i + 1⟩ : Au)))), (congrArg some (congrArg (OwnMs _) (by rw [List.map_append]; rfl))), trivial⟩ (by decide)) ?_; refine C.region ?_; refine Lpu rfl rfl ?_; refine Lpu rfl rfl ?_; refine L.nil (QE.seq ?_); refine C.seqJ (fun s : List Au × Int => [(16, .slice B b.length bc), (17, .int .i64 (b.length : Int)), (18, .int .i64 (i : Int)), (6, .int .u8 (c.toNat : Int)), (7, .int .i64 (z.length : Int)), (5, .int .i64 (i : Int)), (3, .slice A37 (z.length + 1) cc37), (8, .int .i64 s.2)]) (fun s : List Au × Int => [Rd B (U8 b)]) (fun s : List Au × Int => [Own 169 4 A37 (z.length + 1) cc37 (auV (gs ++ [g1]) s.1), OwnMs (gs ++ [g1]) (s.1.map Au.nx)]) (fun s : List Au × Int => s.1.length = z.length + 1 ∧ PhX (b.take i) z Lw c s.1 s.2) ?_ ?_
   ·
    refine C.block ?_; refine C.loop (fun s : List Au × Int => [(16, .slice B b.length bc), (17, .int .i64 (b.length : Int)), (18, .int .i64 (i : Int)), (6, .int .u8 (c.toNat : Int)), (7, .int .i64 (z.length : Int)), (5, .int .i64 (i : Int)), (3, .slice A37 (z.length + 1) cc37), (8, .int .i64 s.2)]) (fun s : List Au × Int => [Rd B (U8 b)]) (fun s : List Au × Int => [Own 169 4 A37 (z.length + 1) cc37 (auV (gs ++ [g1]) s.1), OwnMs (gs ++ [g1]) (s.1.map Au.nx)]) (fun s : List Au × Int => s.1.length = z.length + 1 ∧ PhI (b.take i) z Lw c s.1 s.2) (fun s : List Au × Int => PhM Lw s.2) (z ++ [(⟨fun _ => none, 0, i + 1, i + 1⟩ : Au)], (last : Int)) ⟨by rw [List.length_append]; rfl, by have := PhI.start (c := c) hA; rw [hwl] at this; exact this⟩ (by exact Le.mk' (rs := [0]) (hs := [0, 1]) ⟨rfl, rfl, rfl, rfl, rfl, rfl, rfl, rfl, trivial⟩ ⟨rfl, trivial⟩ ⟨rfl, rfl, trivial⟩ (by decide)) ?_
    rintro ⟨zz, p⟩ ⟨hzl, hph⟩
    dsimp only at hzl hph ⊢
    have hgl1 : (gs ++ [g1]).length = zz.length := by rw [List.length_append, hgl, hzl]; rfl
    refine C.seq (C.seq (C.region ?_)); refine Lpu rfl rfl ?_; refine Lpu rfl rfl ?_; refine L.nil (QE.seq ?_)
    refine C.condB 40 rfl (fun hc40 => ?_) (fun hc40 => ?_)
    ·
     replace hc40 := of_decide_eq_true hc40
     obtain ⟨v, rfl, hv, hp1⟩ := hph.pos hc40
     have hvz : v < z.length := hv.1
     have hv1 : v < zz.length := by omega
     refine C.skip (QE.seq (C.seq (C.block (C.seq (C.seq (C.region ?_)))))); refine Lpu rfl rfl ?_; refine Lpu rfl rfl ?_; refine L.step (Ev.idx (k := v) (m := v * 4) rfl rfl rfl rfl rfl rfl (by omega) (Src.o 0 rfl) (auV_pos hgl1 hv1) rfl) rfl ?_; refine L.step (Ev.fieldAddr rfl rfl rfl rfl rfl rfl (Src.o 0 rfl) (auV_pos hgl1 hv1) rfl) rfl ?_; refine L.step (Ev.load rfl rfl rfl (Src.o 0 rfl) (auV_get (k := v) (q := 0) hgl1 hv1 (by decide))) rfl ?_; refine Lpu rfl rfl ?_; refine L.step (Ev.cast (Ev.lookF (q' := c) rfl rfl rfl rfl rfl rfl rfl rfl rfl (HasF.ms 1 rfl v (by rw [List.length_map]; exact hv1) (by rw [List.length_map]; exact hgl1))) (congrArg (fun f : UInt8 → Option Nat => lkV (f c)) (nxs_get hv1))) rfl ?_; refine Lpu rfl rfl ?_; refine Lpu rfl rfl ?_; refine Lpu rfl rfl ?_; refine Lpu rfl rfl ?_; refine Lpu rfl rfl ?_; refine L.nil (QE.seq (C.seq (C.region ?_))); refine Lpu rfl rfl ?_; refine L.nil (QE.seq ?_)
     refine C.condB 56 rfl (fun hc56 => ?_) (fun hc56 => ?_)
     ·
      refine C.exit ?_; refine QE.tX ?_; refine QE.blkX rfl ?_; refine QE.tX ?_; refine QE.tX ?_; refine QE.blk ?_
      refine QE.join ((zz, (v : Int))) (by exact ⟨hzl, .inr ⟨v, _, rfl, hv, hp1, Option.eq_some_of_isSome hc56⟩⟩) (by exact Le.mk' (rs := [0]) (hs := [0, 1]) ⟨rfl, rfl, rfl, rfl, rfl, rfl, rfl, rfl, trivial⟩ ⟨rfl, trivial⟩ ⟨rfl, rfl, trivial⟩ (by decide))
     ·
      refine C.skip (QE.seq (C.region ?_)); refine Lpu rfl rfl ?_; refine Lpu rfl rfl ?_; refine L.step (Ev.idx (k := v) (m := v * 4) rfl rfl rfl rfl rfl rfl (by omega) (Src.o 0 rfl) (auV_pos hgl1 hv1) rfl) rfl ?_; refine L.step (Ev.fieldAddr rfl rfl rfl rfl rfl rfl (Src.o 0 rfl) (auV_pos hgl1 hv1) rfl) rfl ?_; refine L.step (Ev.load rfl rfl rfl (Src.o 0 rfl) (auV_get (k := v) (q := 0) hgl1 hv1 (by decide))) rfl ?_; refine Lpu rfl rfl ?_; refine Lpu rfl rfl ?_; refine L.setMs v (j := 1) (q' := c) (v := z.length) rfl rfl rfl rfl rfl rfl rfl rfl rfl rfl (by rw [List.length_map]; exact hv1) (by rw [List.length_map]; exact hgl1) ?_; refine L.nil ?_; refine QE.blkN ?_; refine QE.seq (C.region ?_); refine Lpu rfl rfl ?_; refine Lpu rfl rfl ?_; refine L.step (Ev.idx (k := v) (m := v * 4) rfl rfl rfl rfl rfl rfl (by omega) (Src.o 0 rfl) (auV_pos hgl1 hv1) rfl) rfl ?_; refine L.step (Ev.fieldAddr rfl rfl rfl rfl rfl rfl (Src.o 0 rfl) (auV_pos hgl1 hv1) rfl) rfl ?_; refine L.step (Ev.load rfl rfl rfl (Src.o 0 rfl) (auV_get (k := v) (q := 1) hgl1 hv1 (by decide))) rfl ?_; refine Lpu rfl rfl ?_; refine L.nil ?_
      have hnn : (Ag zz v).nx c = none := Option.not_isSome_iff_eq_none.1 (by rw [hc56]; decide)
      obtain ⟨n1, n2⟩ := PhI.next hA hp1 hv hnn
      refine QE.round (i := (zz, (v : Int))) ((zz.set v { Ag zz v with nx := updA (Ag zz v).nx c z.length }, (Ag zz v).lk)) (by exact ⟨by dsimp only; rw [List.length_set]; exact hzl, n1⟩) n2 (by exact Le.mk' (rs := [0]) (hs := [0, 1]) ⟨rfl, rfl, rfl, rfl, rfl, rfl, rfl, rfl, trivial⟩ ⟨rfl, trivial⟩ ⟨(congrArg some (congrArg (Own 169 4 A37 (z.length + 1) cc37) (auV_nx hgl1 hv1 _).symm)), (congrArg some (congrArg (OwnMs _) (by dsimp only; rw [nxs_set, nxs_get hv1]))), trivial⟩ (by decide))
    ·
     replace hc40 := of_decide_eq_false hc40
     refine C.exit ?_; refine QE.tX ?_; refine QE.tX ?_; refine QE.blk ?_
     refine QE.join ((zz, p)) (by exact ⟨hzl, .inl (hph.neg (by omega))⟩) (by exact Le.mk' (rs := [0]) (hs := [0, 1]) ⟨rfl, rfl, rfl, rfl, rfl, rfl, rfl, rfl, trivial⟩ ⟨rfl, trivial⟩ ⟨rfl, rfl, trivial⟩ (by decide))
   ·
    rintro ⟨zz, p⟩ ⟨hzl, hpx⟩
    dsimp only at hzl hpx ⊢
    have hgl1 : (gs ++ [g1]).length = zz.length := by rw [List.length_append, hgl, hzl]; rfl
    refine C.seq (C.region ?_); refine Lpu rfl rfl ?_; refine Lpu rfl rfl ?_; refine L.nil (QE.seq (C.seq (C.seq (C.region ?_)))); refine Lpu rfl rfl ?_; refine Lpu rfl rfl ?_; refine L.nil (QE.seq ?_)
    refine C.condB 66 rfl (fun hc66 => ?_) (fun hc66 => ?_)
    ·
     replace hc66 := of_decide_eq_true hc66
     refine C.exit ?_; refine QE.tX ?_; refine QE.blk ?_
     obtain ⟨L', hL⟩ := (hpx.neg hc66).fresh hA
     refine QE.join ((zz, (gs ++ [g1]), A37, cc37, (z.length + 1))) (by exact ⟨hzl, hgl1, by dsimp only; omega, L', hL⟩) (by exact Le.mk' (rs := [0]) (hs := [0, 1]) ⟨rfl, rfl, rfl, rfl, rfl, trivial⟩ ⟨rfl, trivial⟩ ⟨rfl, rfl, trivial⟩ (by decide))
    ·
     replace hc66 := of_decide_eq_false hc66
     obtain ⟨v, q, rfl, hv, hp1, hq⟩ := hpx.pos hc66
     obtain ⟨hqa, hq0, hqn, hvn⟩ := hp1.target hA hv hq
     have hvz : v < z.length := hv.1
     have hv1 : v < zz.length := by omega
     have hq1 : q < zz.length := by omega
     have hn1 : z.length < zz.length := by omega
     have hvb := (hA.fac v hv.1).length_le
     rw [hwl] at hvb
     have haq := (hp1.found hA hv hq).1
     refine C.skip (QE.seq (C.seq (C.region ?_))); refine Lpu rfl rfl ?_; refine Lpu rfl rfl ?_; refine L.step (Ev.idx (k := v) (m := v * 4) rfl rfl rfl rfl rfl rfl (by omega) (Src.o 0 rfl) (auV_pos hgl1 hv1) rfl) rfl ?_; refine L.step (Ev.fieldAddr rfl rfl rfl rfl rfl rfl (Src.o 0 rfl) (auV_pos hgl1 hv1) rfl) rfl ?_; refine L.step (Ev.load rfl rfl rfl (Src.o 0 rfl) (auV_get (k := v) (q := 0) hgl1 hv1 (by decide))) rfl ?_; refine Lpu rfl rfl ?_; refine L.step (Ev.cast (u := .int .i64 (q : Int)) (Ev.cast (Ev.lookF1 (q' := c) rfl rfl rfl rfl rfl rfl rfl rfl rfl (HasF.ms 1 rfl v (by rw [List.length_map]; exact hv1) (by rw [List.length_map]; exact hgl1))) (congrArg (fun f : UInt8 → Option Nat => Value.int .i64 (((f c).getD 0 : Nat) : Int)) (nxs_get hv1))) (by rw [hq]; rfl)) rfl ?_; refine Lpu rfl rfl ?_; refine L.nil (QE.seq (C.seq (C.seq ?_))); refine C.regionQ (by kernel_rfl) ?_; refine LQ.step (Ev.pure rfl) rfl ?_; refine LQ.step (Ev.pure rfl) rfl ?_; refine LQ.step (Ev.idx (k := q) (m := q * 4) rfl rfl rfl rfl rfl rfl (by omega) (Src.o 0 rfl) (auV_pos hgl1 hq1) rfl) rfl ?_; refine LQ.step (Ev.fieldAddr rfl rfl rfl rfl rfl rfl (Src.o 0 rfl) (auV_pos hgl1 hq1) rfl) rfl ?_; refine LQ.step (Ev.load rfl rfl rfl (Src.o 0 rfl) (auV_get (k := q) (q := 2) hgl1 hq1 (by decide))) rfl ?_; refine LQ.step (Ev.pure rfl) rfl ?_; refine LQ.step (Ev.pure rfl) rfl ?_; refine LQ.step (Ev.idx (k := v) (m := v * 4) rfl rfl rfl rfl rfl rfl (by omega) (Src.o 0 rfl) (auV_pos hgl1 hv1) rfl) rfl ?_; refine LQ.step (Ev.fieldAddr rfl rfl rfl rfl rfl rfl (Src.o 0 rfl) (auV_pos hgl1 hv1) rfl) rfl ?_; refine LQ.step (Ev.load rfl rfl rfl (Src.o 0 rfl) (auV_get (k := v) (q := 2) hgl1 hv1 (by decide))) rfl ?_; refine LQ.step (Ev.add rfl rfl (by omega) (by omega)) rfl ?_; refine LQ.step (Ev.pure rfl) rfl ?_; refine LQ.nil ?_; refine QE.seq ?_
     refine C.condB 85 rfl (fun hc85 => ?_) (fun hc85 => ?_)
     ·
      replace hc85 := i_eq hc85
      refine C.seq (C.region ?_); refine Lpu rfl rfl ?_; refine Lpu rfl rfl ?_; refine Lpu rfl rfl ?_; refine L.step (Ev.idx (k := z.length) (m := z.length * 4) rfl rfl rfl rfl rfl rfl (Nat.lt_succ_self _) (Src.o 0 rfl) (auV_pos hgl1 hn1) rfl) rfl ?_; refine L.step (Ev.fieldAddr rfl rfl rfl rfl rfl rfl (Src.o 0 rfl) (auV_pos hgl1 hn1) rfl) rfl ?_; refine L.store (j := 0) rfl rfl rfl rfl rfl rfl rfl (auV_get (k := z.length) (q := 1) hgl1 hn1 (by decide)) ?_; refine L.nil (QE.seq ?_); refine C.exit ?_; refine QE.tX ?_; refine QE.blk ?_
      obtain ⟨L', hL⟩ := hp1.same hA hv hq (by omega)
      refine QE.join ((zz.set z.length { Ag zz z.length with lk := (q : Int) }, (gs ++ [g1]), A37, cc37, (z.length + 1))) (by exact ⟨by dsimp only; rw [List.length_set]; exact hzl, by dsimp only; rw [List.length_set]; exact hgl1, by dsimp only; rw [List.length_set]; omega, L', hL⟩) (by exact Le.mk' (rs := [0]) (hs := [0, 1]) ⟨rfl, rfl, rfl, rfl, rfl, trivial⟩ ⟨rfl, trivial⟩ ⟨(congrArg some (congrArg (Own 169 4 A37 (z.length + 1) cc37) (auV_lk hgl1 hn1 _))), (congrArg some (congrArg (OwnMs _) (nxs_lk zz hn1 _).symm)), trivial⟩ (by decide))
     ·
      replace hc85 := i_ne hc85
      refine C.skip (QE.seq (C.seq (C.region ?_))); refine Lpu rfl rfl ?_; refine Lpu rfl rfl ?_; refine Lpu rfl rfl ?_; refine L.nil (QE.seq (C.seq ?_)); refine C.regionM [Rd A37 (auV (gs ++ [g1]) zz), Rd B (U8 b)] ⟨Has.o 0 rfl, Has.r 0 rfl, trivial⟩ ?_; refine LM.q 0 rfl (by kernel_rfl) (Ev.pure rfl) rfl ⟨Has.o 0 rfl, Has.r 0 rfl, trivial⟩ ?_; refine LM.q 1 rfl (by kernel_rfl) (Ev.pure rfl) rfl ⟨Has.o 0 rfl, Has.r 0 rfl, trivial⟩ ?_; refine LM.q 2 rfl (by kernel_rfl) (Ev.pure rfl) rfl ⟨Has.o 0 rfl, Has.r 0 rfl, trivial⟩ ?_; refine LM.q 3 rfl (by kernel_rfl) (Ev.idx (k := q) (m := q * 4) rfl rfl rfl rfl rfl rfl (by omega) (Src.r 0 rfl) (auV_pos hgl1 hq1) rfl) rfl ⟨Has.o 0 rfl, Has.r 0 rfl, trivial⟩ ?_; refine LM.q 4 rfl (by kernel_rfl) (Ev.fieldAddr rfl rfl rfl rfl rfl rfl (Src.r 0 rfl) (auV_pos hgl1 hq1) rfl) rfl ⟨Has.o 0 rfl, Has.r 0 rfl, trivial⟩ ?_; refine LM.q 5 rfl (by kernel_rfl) (Ev.load rfl rfl rfl (Src.r 0 rfl) (auV_get (k := q) (q := 0) hgl1 hq1 (by decide))) rfl ⟨Has.o 0 rfl, Has.r 0 rfl, trivial⟩ ?_; refine LM.q 7 rfl (by kernel_rfl) (Ev.pure rfl) rfl ⟨Has.o 0 rfl, Has.r 0 rfl, trivial⟩ ?_; refine LM.q 8 rfl (by kernel_rfl) (Ev.pure rfl) rfl ⟨Has.o 0 rfl, Has.r 0 rfl, trivial⟩ ?_; refine LM.q 9 rfl (by kernel_rfl) (Ev.idx (k := q) (m := q * 4) rfl rfl rfl rfl rfl rfl (by omega) (Src.r 0 rfl) (auV_pos hgl1 hq1) rfl) rfl ⟨Has.o 0 rfl, Has.r 0 rfl, trivial⟩ ?_; refine LM.q 10 rfl (by kernel_rfl) (Ev.fieldAddr rfl rfl rfl rfl rfl rfl (Src.r 0 rfl) (auV_pos hgl1 hq1) rfl) rfl ⟨Has.o 0 rfl, Has.r 0 rfl, trivial⟩ ?_; refine LM.q 11 rfl (by kernel_rfl) (Ev.load rfl rfl rfl (Src.r 0 rfl) (auV_get (k := q) (q := 1) hgl1 hq1 (by decide))) rfl ⟨Has.o 0 rfl, Has.r 0 rfl, trivial⟩ ?_; refine LM.q 12 rfl (by kernel_rfl) (Ev.pure rfl) rfl ⟨Has.o 0 rfl, Has.r 0 rfl, trivial⟩ ?_; refine LM.q 13 rfl (by kernel_rfl) (Ev.pure rfl) rfl ⟨Has.o 0 rfl, Has.r 0 rfl, trivial⟩ ?_; refine LM.q 14 rfl (by kernel_rfl) (Ev.idx (k := v) (m := v * 4) rfl rfl rfl rfl rfl rfl (by omega) (Src.r 0 rfl) (auV_pos hgl1 hv1) rfl) rfl ⟨Has.o 0 rfl, Has.r 0 rfl, trivial⟩ ?_; refine LM.q 15 rfl (by kernel_rfl) (Ev.fieldAddr rfl rfl rfl rfl rfl rfl (Src.r 0 rfl) (auV_pos hgl1 hv1) rfl) rfl ⟨Has.o 0 rfl, Has.r 0 rfl, trivial⟩ ?_; refine LM.q 16 rfl (by kernel_rfl) (Ev.load rfl rfl rfl (Src.r 0 rfl) (auV_get (k := v) (q := 2) hgl1 hv1 (by decide))) rfl ⟨Has.o 0 rfl, Has.r 0 rfl, trivial⟩ ?_; refine LM.q 17 rfl (by kernel_rfl) (Ev.add rfl rfl (by omega) (by omega)) rfl ⟨Has.o 0 rfl, Has.r 0 rfl, trivial⟩ ?_; refine LM.q 18 rfl (by kernel_rfl) (Ev.pure rfl) rfl ⟨Has.o 0 rfl, Has.r 0 rfl, trivial⟩ ?_; refine LM.q 19 rfl (by kernel_rfl) (Ev.pure rfl) rfl ⟨Has.o 0 rfl, Has.r 0 rfl, trivial⟩ ?_; refine LM.q 20 rfl (by kernel_rfl) (Ev.idx (k := q) (m := q * 4) rfl rfl rfl rfl rfl rfl (by omega) (Src.r 0 rfl) (auV_pos hgl1 hq1) rfl) rfl ⟨Has.o 0 rfl, Has.r 0 rfl, trivial⟩ ?_; refine LM.q 21 rfl (by kernel_rfl) (Ev.fieldAddr rfl rfl rfl rfl rfl rfl (Src.r 0 rfl) (auV_pos hgl1 hq1) rfl) rfl ⟨Has.o 0 rfl, Has.r 0 rfl, trivial⟩ ?_; refine LM.q 22 rfl (by kernel_rfl) (Ev.load rfl rfl rfl (Src.r 0 rfl) (auV_get (k := q) (q := 3) hgl1 hq1 (by decide))) rfl ⟨Has.o 0 rfl, Has.r 0 rfl, trivial⟩ ?_; refine LM.f 6 rfl (by kernel_rfl) ⟨Has.o 0 rfl, Has.r 0 rfl, trivial⟩ ?_; refine L.call (js := []) (js' := [0, 1]) (copied_c _ _) rfl rfl rfl (by decide) ⟨Has.msOne 1 rfl q (by rw [List.length_map]; exact hq1) (by rw [List.length_map]; exact hgl1), trivial⟩ rfl ?_
      rintro _ _ _ ⟨g2, rfl, rfl, rfl⟩
      refine L.nil (QE.m (by kernel_rfl) ?_)
      refine LM.f 23 rfl (by kernel_rfl) ⟨Has.o 1 rfl, Has.r 0 rfl, trivial⟩ ?_; refine L.step (Ev.build rfl rfl rfl rfl rfl rfl rfl) rfl ?_
      refine L.nil (QE.m (by kernel_rfl) ?_)
      refine LM.f 24 rfl (by kernel_rfl) ⟨Has.o 1 rfl, Has.r 0 rfl, trivial⟩ ?_
      refine L.lit1S (cs := [.map (some g2), .int .i64 (Ag zz q).lk, .int .i64 (((Ag zz v).ln : Int) + 1), .int .i64 ((Ag zz q).en : Int)]) rfl rfl rfl rfl (Nat.zero_lt_succ _) rfl rfl rfl (fun A117 => ?_)
      refine L.nil (QE.m (by kernel_rfl) ?_)
      refine LM.cut [] (by kernel_rfl) ⟨Has.o 1 rfl, Has.r 0 rfl, trivial⟩ ?_; refine LM.f 25 rfl (by kernel_rfl) trivial ?_
      refine L.append (j := 1) rfl rfl rfl rfl (by decide) rfl rfl rfl rfl (Src.o 3 rfl) rfl (allOne rfl) (by omega) (by show _ * 32 ≤ _; omega) rfl (fun A118 cc118 => ?_)
      refine L.nil (QE.m (by kernel_rfl) ?_)
      refine LM.f 26 rfl (by kernel_rfl) trivial ?_; refine Lpu rfl rfl ?_
      refine L.nil (QE.m (by kernel_rfl) ?_)
      refine LM.nil (by kernel_rfl) trivial ?_; refine QE.seq ?_; refine C.seqJ (fun y : List Au => [(16, .slice B b.length bc), (17, .int .i64 (b.length : Int)), (18, .int .i64 (i : Int)), (6, .int .u8 (c.toNat : Int)), (7, .int .i64 (z.length : Int)), (5, .int .i64 (i : Int)), (4, .int .i64 (z.length : Int)), (3, .slice A118 (z.length + 1 + 1) cc118), (11, .int .i64 (q : Int)), (12, .int .i64 (((z.length + 1) : Nat) : Int))]) (fun y : List Au => [Rd B (U8 b)]) (fun y : List Au => [Own 169 4 A118 (z.length + 1 + 1) cc118 (auV (gs ++ [g1] ++ [g2]) y), OwnMs (gs ++ [g1] ++ [g2]) (y.map Au.nx)]) (fun y : List Au => y.length = z.length + 1 + 1 ∧ PhK (b.take i) z Lw c v q (Ag zz q).nx y) ?_ ?_
      ·
       refine C.block ?_; refine C.absorbF 2 0 rfl rfl [1, 3] (by decide) ?_; refine C.le (Γ' := [(16, .slice B b.length bc), (17, .int .i64 (b.length : Int)), (18, .int .i64 (i : Int)), (6, .int .u8 (c.toNat : Int)), (7, .int .i64 (z.length : Int)), (5, .int .i64 (i : Int)), (4, .int .i64 (z.length : Int)), (3, .slice A118 (z.length + 1 + 1) cc118), (8, .int .i64 (v : Int)), (11, .int .i64 (q : Int)), (12, .int .i64 (((z.length + 1) : Nat) : Int))]) (R' := [Rd B (U8 b)]) (H' := [Own 169 4 A118 (z.length + 1 + 1) cc118 (auV (gs ++ [g1] ++ [g2]) (zz ++ [(⟨(Ag zz q).nx, (Ag zz q).lk, (Ag zz v).ln + 1, (Ag zz q).en⟩ : Au)])), OwnMs (gs ++ [g1] ++ [g2]) ((zz ++ [(⟨(Ag zz q).nx, (Ag zz q).lk, (Ag zz v).ln + 1, (Ag zz q).en⟩ : Au)]).map Au.nx)]) (by exact Le.mk' (rs := [0]) (hs := [1, 0]) ⟨rfl, rfl, rfl, rfl, rfl, rfl, rfl, rfl, rfl, rfl, rfl, trivial⟩ ⟨rfl, trivial⟩ ⟨(congrArg some (congrArg (Own 169 4 A118 (z.length + 1 + 1) cc118) (auV_app hgl1 g2 (⟨(Ag zz q).nx, (Ag zz q).lk, (Ag zz v).ln + 1, (Ag zz q).en⟩ : Au)))), (congrArg some (congrArg (OwnMs _) (by rw [List.map_append, nxs_get hq1]; rfl))), trivial⟩ (by decide)) ?_; refine C.loop (fun s : List Au × Int => [(16, .slice B b.length bc), (17, .int .i64 (b.length : Int)), (18, .int .i64 (i : Int)), (6, .int .u8 (c.toNat : Int)), (7, .int .i64 (z.length : Int)), (5, .int .i64 (i : Int)), (4, .int .i64 (z.length : Int)), (3, .slice A118 (z.length + 1 + 1) cc118), (8, .int .i64 s.2), (11, .int .i64 (q : Int)), (12, .int .i64 (((z.length + 1) : Nat) : Int))]) (fun s : List Au × Int => [Rd B (U8 b)]) (fun s : List Au × Int => [Own 169 4 A118 (z.length + 1 + 1) cc118 (auV (gs ++ [g1] ++ [g2]) s.1), OwnMs (gs ++ [g1] ++ [g2]) (s.1.map Au.nx)]) (fun s : List Au × Int => s.1.length = z.length + 1 + 1 ∧ PhJ (b.take i) z Lw c v q (Ag zz q).nx s.1 s.2) (fun s : List Au × Int => PhM Lw s.2) (zz ++ [(⟨(Ag zz q).nx, (Ag zz q).lk, (Ag zz v).ln + 1, (Ag zz q).en⟩ : Au)], (v : Int)) ⟨by rw [List.length_append, hzl]; rfl, PhJ.start hA hp1 hv hq⟩ (by exact Le.mk' (rs := [0]) (hs := [0, 1]) ⟨rfl, rfl, rfl, rfl, rfl, rfl, rfl, rfl, rfl, rfl, rfl, trivial⟩ ⟨rfl, trivial⟩ ⟨rfl, rfl, trivial⟩ (by decide)) ?_
       rintro ⟨y, p⟩ ⟨hyl, hph⟩
       dsimp only at hyl hph ⊢
       have hgl2 : (gs ++ [g1] ++ [g2]).length = y.length := by rw [List.length_append, List.length_append, hgl, hyl]; rfl
       refine C.seq (C.seq (C.region ?_)); refine Lpu rfl rfl ?_; refine Lpu rfl rfl ?_; refine Lpu rfl rfl ?_
       refine L.bool 121 rfl (fun hg121 => ?_) (fun hg121 => ?_)
       ·
        replace hg121 := of_decide_eq_true hg121
        obtain ⟨u, rfl, hu, hul, hp2⟩ := hph.pos hg121
        have huz : u < z.length := hu.1
        have hu1 : u < y.length := by omega
        refine L.yes rfl ?_; refine Lpu rfl rfl ?_; refine L.yes rfl ?_; refine Lpu rfl rfl ?_; refine L.yes rfl ?_; refine L.step (Ev.idx (k := u) (m := u * 4) rfl rfl rfl rfl rfl rfl (by omega) (Src.o 0 rfl) (auV_pos hgl2 hu1) rfl) rfl ?_; refine L.yes rfl ?_; refine L.step (Ev.fieldAddr rfl rfl rfl rfl rfl rfl (Src.o 0 rfl) (auV_pos hgl2 hu1) rfl) rfl ?_; refine L.yes rfl ?_; refine L.step (Ev.load rfl rfl rfl (Src.o 0 rfl) (auV_get (k := u) (q := 0) hgl2 hu1 (by decide))) rfl ?_; refine L.yes rfl ?_; refine Lpu rfl rfl ?_; refine L.yes rfl ?_; refine L.step (Ev.cast (Ev.lookF1 (q' := c) rfl rfl rfl rfl rfl rfl rfl rfl rfl (HasF.ms 1 rfl u (by rw [List.length_map]; exact hu1) (by rw [List.length_map]; exact hgl2))) (congrArg (fun f : UInt8 → Option Nat => Value.int .i64 (((f c).getD 0 : Nat) : Int)) (nxs_get hu1))) rfl ?_; refine L.yes rfl ?_; refine Lpu rfl rfl ?_; refine L.yes rfl ?_; refine Lpu rfl rfl ?_; refine Lpu rfl rfl ?_; refine L.nil (QE.seq ?_)
        refine C.condB 131 rfl (fun hc131 => ?_) (fun hc131 => ?_)
        ·
         replace hc131 := i_eq hc131
         refine C.skip (QE.seq (C.seq (C.block (C.region ?_)))); refine Lpu rfl rfl ?_; refine Lpu rfl rfl ?_; refine L.step (Ev.idx (k := u) (m := u * 4) rfl rfl rfl rfl rfl rfl (by omega) (Src.o 0 rfl) (auV_pos hgl2 hu1) rfl) rfl ?_; refine L.step (Ev.fieldAddr rfl rfl rfl rfl rfl rfl (Src.o 0 rfl) (auV_pos hgl2 hu1) rfl) rfl ?_; refine L.step (Ev.load rfl rfl rfl (Src.o 0 rfl) (auV_get (k := u) (q := 0) hgl2 hu1 (by decide))) rfl ?_; refine Lpu rfl rfl ?_; refine Lpu rfl rfl ?_; refine L.setMs u (j := 1) (q' := c) (v := (z.length + 1)) rfl rfl rfl rfl rfl rfl rfl rfl rfl rfl (by rw [List.length_map]; exact hu1) (by rw [List.length_map]; exact hgl2) ?_; refine L.nil ?_; refine QE.blkN ?_; refine QE.seq (C.region ?_); refine Lpu rfl rfl ?_; refine Lpu rfl rfl ?_; refine L.step (Ev.idx (k := u) (m := u * 4) rfl rfl rfl rfl rfl rfl (by omega) (Src.o 0 rfl) (auV_pos hgl2 hu1) rfl) rfl ?_; refine L.step (Ev.fieldAddr rfl rfl rfl rfl rfl rfl (Src.o 0 rfl) (auV_pos hgl2 hu1) rfl) rfl ?_; refine L.step (Ev.load rfl rfl rfl (Src.o 0 rfl) (auV_get (k := u) (q := 1) hgl2 hu1 (by decide))) rfl ?_; refine Lpu rfl rfl ?_; refine L.nil ?_
         have hnu : (Ag y u).nx c = some q := optD (by omega) hq0
         obtain ⟨n1, n2⟩ := PhJ.next hA hu hul hp2 hnu
         refine QE.round (i := (y, (u : Int))) ((y.set u { Ag y u with nx := updA (Ag y u).nx c (z.length + 1) }, (Ag y u).lk)) (by exact ⟨by dsimp only; rw [List.length_set]; exact hyl, n1⟩) n2 (by exact Le.mk' (rs := [0]) (hs := [0, 1]) ⟨rfl, rfl, rfl, rfl, rfl, rfl, rfl, rfl, rfl, rfl, rfl, trivial⟩ ⟨rfl, trivial⟩ ⟨(congrArg some (congrArg (Own 169 4 A118 (z.length + 1 + 1) cc118) (auV_nx hgl2 hu1 _).symm)), (congrArg some (congrArg (OwnMs _) (by dsimp only; rw [nxs_set, nxs_get hu1]))), trivial⟩ (by decide))
        ·
         replace hc131 := i_ne hc131
         refine C.exit ?_; refine QE.tX ?_; refine QE.tX ?_; refine QE.blk ?_
         refine QE.join (y) (by exact ⟨hyl, PhJ.stop hA hv haq hu hul hp2 (fun e => hc131 (by rw [e]; rfl))⟩) (by exact Le.mk' (rs := [0]) (hs := [0, 1]) ⟨rfl, rfl, rfl, rfl, rfl, rfl, rfl, rfl, rfl, rfl, trivial⟩ ⟨rfl, trivial⟩ ⟨rfl, rfl, trivial⟩ (by decide))
       ·
        replace hg121 := of_decide_eq_false hg121
        refine L.no rfl rfl rfl ?_; refine L.no rfl rfl rfl ?_; refine L.no rfl rfl rfl ?_; refine L.no rfl rfl rfl ?_; refine L.no rfl rfl rfl ?_; refine L.no rfl rfl rfl ?_; refine L.no rfl rfl rfl ?_; refine L.no rfl rfl rfl ?_; refine L.no rfl rfl rfl ?_; refine Lpu rfl rfl ?_; refine L.nil (QE.seq ?_)
        refine C.cond rfl (fun h => by cases h) (fun _ => ?_)
        refine C.exit ?_; refine QE.tX ?_; refine QE.tX ?_; refine QE.blk ?_
        refine QE.join (y) (by exact ⟨hyl, hph.neg (by omega)⟩) (by exact Le.mk' (rs := [0]) (hs := [0, 1]) ⟨rfl, rfl, rfl, rfl, rfl, rfl, rfl, rfl, rfl, rfl, trivial⟩ ⟨rfl, trivial⟩ ⟨rfl, rfl, trivial⟩ (by decide))
      ·
       rintro y ⟨hyl, t, hp2, hno⟩
       have hgl2 : (gs ++ [g1] ++ [g2]).length = y.length := by rw [List.length_append, List.length_append, hgl, hyl]; rfl
       have hqy : q < y.length := by omega
       have hgl3 : (gs ++ [g1] ++ [g2]).length = (y.set q { Ag y q with lk := ((z.length + 1 : Nat) : Int) }).length := by rw [List.length_set]; exact hgl2
       have hny : z.length < (y.set q { Ag y q with lk := ((z.length + 1 : Nat) : Int) }).length := by rw [List.length_set]; omega
       obtain ⟨L', hL⟩ := hp2.done' hA hv haq hno hp1 rfl (by omega) hqa
       refine C.region ?_; refine Lpu rfl rfl ?_; refine Lpu rfl rfl ?_; refine Lpu rfl rfl ?_; refine Lpu rfl rfl ?_; refine Lpu rfl rfl ?_; refine Lpu rfl rfl ?_; refine L.step (Ev.idx (k := q) (m := q * 4) rfl rfl rfl rfl rfl rfl (by omega) (Src.o 0 rfl) (auV_pos hgl2 hqy) rfl) rfl ?_; refine L.step (Ev.fieldAddr rfl rfl rfl rfl rfl rfl (Src.o 0 rfl) (auV_pos hgl2 hqy) rfl) rfl ?_; refine L.store (k := q * 4 + 1) (j := 0) rfl rfl rfl rfl rfl rfl rfl (auV_get (k := q) (q := 1) hgl2 hqy (by decide)) ?_
       rw [auV_lk hgl2 hqy]
       refine L.step (Ev.idx (k := z.length) (m := z.length * 4) rfl rfl rfl rfl rfl rfl (by omega) (Src.o 0 rfl) (auV_pos hgl3 hny) rfl) rfl ?_; refine L.step (Ev.fieldAddr rfl rfl rfl rfl rfl rfl (Src.o 0 rfl) (auV_pos hgl3 hny) rfl) rfl ?_; refine L.store (k := z.length * 4 + 1) (j := 0) rfl rfl rfl rfl rfl rfl rfl (auV_get (k := z.length) (q := 1) hgl3 hny (by decide)) ?_
       rw [auV_lk hgl3 hny]
       refine L.nil ?_; refine QE.blkN ?_
       refine QE.join ((((y.set q { Ag y q with lk := ((z.length + 1 : Nat) : Int) }).set z.length { Ag (y.set q { Ag y q with lk := ((z.length + 1 : Nat) : Int) }) z.length with lk := ((z.length + 1 : Nat) : Int) }), (gs ++ [g1] ++ [g2]), A118, cc118, (z.length + 1 + 1))) (by exact ⟨by dsimp only; rw [List.length_set, List.length_set]; exact hyl, by dsimp only; rw [List.length_set]; exact hgl3, by dsimp only; rw [List.length_set, List.length_set]; omega, L', hL⟩) (by exact Le.mk' (rs := [0]) (hs := [0, 1]) ⟨rfl, rfl, rfl, rfl, rfl, trivial⟩ ⟨rfl, trivial⟩ ⟨rfl, (congrArg some (congrArg (OwnMs _) (by dsimp only; rw [nxs_lk _ hny, nxs_lk _ hqy]))), trivial⟩ (by decide))
  ·
   rintro ⟨zz, gg, A2, c2, n2⟩ ⟨hzn, hgg, hz2, L', hL⟩
   dsimp only at hzn hgg hz2 hL ⊢
   refine C.region ?_; refine L.step (Ev.add rfl rfl (by omega) (by omega)) rfl ?_; refine Lpu rfl rfl ?_; refine L.nil ?_
   refine QE.round (i := (i, z, gs, A, cA, z.length, last)) ((i + 1, zz, gg, A2, c2, n2, z.length)) (by exact ⟨by dsimp only; omega, hzn, hgg, by dsimp only; omega, L', by dsimp only; rw [take_snoc' b 0 i (by omega), ← hc]; exact hL⟩) (by dsimp only; omega) (by exact Le.mk' (rs := [0]) (hs := [0, 1]) ⟨rfl, rfl, rfl, rfl, rfl, trivial⟩ ⟨rfl, trivial⟩ ⟨rfl, rfl, trivial⟩ (by decide))
 ·
  replace hc19 := of_decide_eq_false hc19
  refine C.exit ?_; refine QE.tX ?_; refine QE.tX ?_; refine QE.blk ?_; refine QE.seq (C.seq (C.region ?_)); refine Lpu rfl rfl ?_; refine Lpu rfl rfl ?_; refine L.nil (QE.seq (C.ret ?_)); refine QE.ret (js := []) (hs := [0, 1]) (vs := [_]) rfl ⟨rfl, trivial⟩ (by decide) ?_
  obtain rfl : i = b.length := by omega
  rw [List.take_length] at hA
  exact ⟨z, gs, A, cA, rfl, rfl, rfl, hgl, by omega, Lw, last, hA⟩

end Go.Proofs.YtbkmahjhhncfcaaGreat
