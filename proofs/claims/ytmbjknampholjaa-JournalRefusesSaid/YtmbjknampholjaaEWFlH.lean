/-
  The contracts of Toward, of the reference and of the program, of toward and same.
-/
import Derived.Test.YtmbjknampholjaaEWFlG
import Derived.Test.YtmbjknampholjaaEPm
namespace Go.Proofs.Ytmbjknampholjaa
open Go.Sl

theorem Nx.beq {r s : Nx} (h1 : r.x = s.x) (h2 : r.done = s.done) : (r.e == s.e) = decide (r = s) := by
 cases r; cases s
 simp only at h1 h2
 subst h1 h2
 rw [Bool.eq_iff_iff]
 simp

theorem tow17_c (f : Fl) (a : Fa) (ok : f.Ok) (hh : a.hs.length = f.data.length) (sec : Int) (want : List UInt8) (W : Option Addr) (wc : Nat) (_hwl : want.length ≤ 1000000) :
   Ctr X 48 [.agg (List.toArray [.int .i64 (f.size : Int), .slice a.D f.data.length a.cD, .slice a.W f.wear.length a.cW, .int .i64 f.limit, .slice a.E f.dead.length a.cE]), .int .i64 sec, .slice W want.length wc] [Rd a.D (rowsV a.hs (B8 f.data)), KidsR a.hs (B8 f.data), Rd a.W (I64 f.wear), Rd a.E (Bs f.dead), Rd W (U8 want)] [] (fun v R' H' => ∃ A c, v = .agg (List.toArray [.int .i64 (towN f sec want).x.kind, .int .i64 (towN f sec want).x.sec, .int .i64 (towN f sec want).x.at_, .slice A (towN f sec want).x.data.length c, .bool (towN f sec want).done, .int .i64 (towN f sec want).e]) ∧ R' = [Rd A (U8 (towN f sec want).x.data)] ∧ H' = []) := by
 obtain ⟨os1, os2, on1, on2, owl, odl, orows, ol1, ol2, owear⟩ := ok
 have hok : f.Ok := ⟨os1, os2, on1, on2, owl, odl, orows, ol1, ol2, owear⟩
 refine Ctr.of (X := X) (fn := Try.f48) Try.func48 rfl (by kernel_rfl) rfl ?_
 intro β
 refine C.seq (C.region ?_)
 refine L.boxA rfl rfl (fun A3 => ?_)
 refine L.alloc rfl rfl rfl (fun A6 => ?_)
 refine L.nil (QE.seq (C.seq (C.seq ?_))); refine C.freeze 0 rfl [1] (by decide) (by decide) ?_; refine C.region ?_; refine Lpu rfl rfl ?_; refine L.step (Ev.fieldAddr rfl rfl rfl rfl rfl rfl (Src.r 0 rfl) (Nat.zero_lt_succ _) rfl) rfl ?_; refine L.step (Ev.load rfl rfl rfl (Src.r 0 rfl) rfl) rfl ?_; refine Lpu rfl rfl ?_; refine L.step (Ev.sub rfl rfl (by omega) (by omega)) rfl ?_; refine L.call (js := []) (js' := [0]) (in_c _ _ _) rfl rfl rfl (by decide) trivial rfl ?_
 rintro _ _ _ ⟨rfl, rfl, rfl⟩
 refine Lpu rfl rfl ?_; refine Lpu rfl rfl ?_
 refine L.bool 17 rfl (fun hg17 => ?_) (fun hg17 => ?_)
 ·
  have q17 : ¬(0 ≤ sec ∧ sec ≤ (f.data.length : Int) - 1) := by simp at hg17; omega
  refine L.no rfl rfl rfl ?_; refine L.no rfl rfl rfl ?_; refine L.no rfl rfl rfl ?_; refine L.no rfl rfl rfl ?_; refine L.no rfl rfl rfl ?_; refine Lpu rfl rfl ?_; refine L.nil (QE.seq ?_)
  refine C.cond rfl (fun _ => ?_) (fun h => by cases h)
  refine C.seq (C.region ?_); refine L.step (Ev.build rfl rfl rfl rfl rfl rfl rfl) rfl ?_; refine L.storeA (j := 0) rfl rfl rfl rfl rfl (Nat.zero_lt_succ _) rfl rfl ?_; refine L.nil (QE.seq (C.ret (QE.tR ?_))); refine QE.more (r := Rd none []) (Has.nil) ?_; refine QE.ret (js := [0]) (hs := []) (vs := [_]) rfl ⟨⟨_, _, 0, _, rfl, rfl, Src.o 0 rfl, .inl ⟨rfl, by decide, _, rfl, rfl, rfl⟩⟩, trivial⟩ (by decide) ?_
  refine ⟨none, 0, ?_, ?_, rfl⟩
  · rw [towN_1 (by omega)]; rfl
  · rw [towN_1 (by omega)]; rfl
 ·
  have q17 : 0 ≤ sec ∧ sec ≤ (f.data.length : Int) - 1 := by simp at hg17; omega
  refine L.yes rfl ?_; refine Lpu rfl rfl ?_; refine L.yes rfl ?_; refine Lpu rfl rfl ?_; refine L.yes rfl ?_; refine L.step (Ev.fieldAddr rfl rfl rfl rfl rfl rfl (Src.r 0 rfl) (Nat.zero_lt_succ _) rfl) rfl ?_; refine L.yes rfl ?_; refine L.step (Ev.load rfl rfl rfl (Src.r 0 rfl) rfl) rfl ?_; refine L.yes rfl ?_; refine Lpu rfl rfl ?_; refine Lpu rfl rfl ?_; refine L.nil (QE.seq ?_)
  refine C.condB 23 rfl (fun hc23 => ?_) (fun hc23 => ?_)
  ·
   replace hc23 := b_ne hc23
   refine C.seq (C.region ?_); refine L.step (Ev.build rfl rfl rfl rfl rfl rfl rfl) rfl ?_; refine L.storeA (j := 0) rfl rfl rfl rfl rfl (Nat.zero_lt_succ _) rfl rfl ?_; refine L.nil (QE.seq (C.ret (QE.tR ?_))); refine QE.more (r := Rd none []) (Has.nil) ?_; refine QE.ret (js := [0]) (hs := []) (vs := [_]) rfl ⟨⟨_, _, 0, _, rfl, rfl, Src.o 0 rfl, .inl ⟨rfl, by decide, _, rfl, rfl, rfl⟩⟩, trivial⟩ (by decide) ?_
   refine ⟨none, 0, ?_, ?_, rfl⟩
   · rw [towN_1 (by omega)]; rfl
   · rw [towN_1 (by omega)]; rfl
  ·
   replace hc23 := b_eq hc23
   have hrow := orows sec.toNat (by omega)
   refine C.skip (QE.seq (C.seq (C.seq (C.region ?_)))); refine L.step (Ev.fieldAddr rfl rfl rfl rfl rfl rfl (Src.r 0 rfl) (Nat.zero_lt_succ _) rfl) rfl ?_; refine L.step (Ev.load rfl rfl rfl (Src.r 0 rfl) rfl) rfl ?_; refine Lpu rfl rfl ?_; refine L.step (Ev.idx1 (k := sec.toNat) rfl rfl rfl rfl rfl rfl (by omega) (by omega) (Src.r 1 rfl) (by rw [rowsV_len (by rw [B8_len]; exact hh), B8_len]; omega)) rfl ?_; refine L.step (Ev.load rfl rfl rfl (Src.r 1 rfl) (rows8_get hh (by omega))) rfl ?_; refine Lpu rfl rfl ?_; refine L.call (js := []) (js' := [0]) (same_c _ _ _ _ _ _ (by omega) (by omega)) rfl rfl rfl (by decide) ⟨((Has.kid 2 rfl (by rw [B8_len]; exact hh) (sec.toNat) (by rw [B8_len]; omega)).cast (B8_get _)), (Has.r 5 rfl), trivial⟩ rfl ?_
   rintro _ _ _ ⟨rfl, rfl, rfl⟩
   refine L.nil (QE.seq ?_)
   refine C.condB 31 rfl (fun hc31 => ?_) (fun hc31 => ?_)
   ·
    replace hc31 := eq_of_beq hc31
    refine C.seq (C.region ?_); refine L.step (Ev.build rfl rfl rfl rfl rfl rfl rfl) rfl ?_; refine L.storeA (j := 0) rfl rfl rfl rfl rfl (Nat.zero_lt_succ _) rfl rfl ?_; refine L.nil (QE.seq (C.ret (QE.tR ?_))); refine QE.more (r := Rd none []) (Has.nil) ?_; refine QE.ret (js := [0]) (hs := []) (vs := [_]) rfl ⟨⟨_, _, 0, _, rfl, rfl, Src.o 0 rfl, .inl ⟨rfl, by decide, _, rfl, rfl, rfl⟩⟩, trivial⟩ (by decide) ?_
    refine ⟨none, 0, ?_, ?_, rfl⟩
    · rw [towN_2 (by omega) hc31]; rfl
    · rw [towN_2 (by omega) hc31]; rfl
   ·
    replace hc31 : (f.data.getD sec.toNat []) ≠ want := by simpa using hc31
    refine C.skip (QE.seq (C.seq (C.region ?_))); refine Lpu rfl rfl ?_; refine Lpu rfl rfl ?_; refine L.step (Ev.build rfl rfl rfl rfl rfl rfl rfl) rfl ?_
    refine L.alloc rfl rfl rfl (fun A7 => ?_)
    refine L.storeA (j := 1) rfl rfl rfl rfl rfl (Nat.zero_lt_succ _) rfl rfl ?_; refine L.nil (QE.seq (C.seq (C.seq (C.region ?_)))); refine Lpu rfl rfl ?_; refine L.nil (QE.seq (C.block ?_)); refine C.loop (fun q : Nat × Fo × Option Addr × Nat => [(1, .int .i64 sec), (2, .slice W want.length wc), (3, ptrOf A3 0), (6, ptrOf A6 0), (7, ptrOf A7 0), (8, .int .i64 (q.1 : Int))]) (fun q : Nat × Fo × Option Addr × Nat => [Rd A3 [.int .i64 (f.size : Int), .slice a.D f.data.length a.cD, .slice a.W f.wear.length a.cW, .int .i64 f.limit, .slice a.E f.dead.length a.cE], Rd a.D (rowsV a.hs (B8 f.data)), KidsR a.hs (B8 f.data), Rd a.W (I64 f.wear), Rd a.E (Bs f.dead), Rd W (U8 want)]) (fun q : Nat × Fo × Option Addr × Nat => [Own 55 6 A6 1 1 [.int .i64 0, .int .i64 0, .int .i64 0, .slice none 0 0, .bool false, .int .i64 0], Own 53 4 A7 1 1 [.int .i64 q.2.1.kind, .int .i64 q.2.1.sec, .int .i64 q.2.1.at_, .slice q.2.2.1 q.2.1.data.length q.2.2.2]]) (fun q : Nat × Fo × Option Addr × Nat => q.1 ≤ f.size ∧ TowX sec want W wc (towB (f.data.getD sec.toNat []) want q.1) q.2.1 q.2.2.1 q.2.2.2) (fun q : Nat × Fo × Option Addr × Nat => f.size - q.1) (0, ⟨2, sec, 0, want⟩, W, wc) ⟨Nat.zero_le _, .inl ⟨rfl, rfl, rfl, rfl⟩⟩ (by exact Le.mk' (rs := [0, 1, 2, 3, 4, 5]) (hs := [0, 1]) ⟨rfl, rfl, rfl, rfl, rfl, rfl, trivial⟩ ⟨rfl, rfl, rfl, rfl, rfl, rfl, trivial⟩ ⟨rfl, rfl, trivial⟩ (by decide)) ?_
    rintro ⟨k, x, XA, xc⟩ ⟨hk, hx⟩
    dsimp only at hk hx ⊢
    refine C.seq (C.seq (C.region ?_)); refine Lpu rfl rfl ?_; refine L.step (Ev.fieldAddr rfl rfl rfl rfl rfl rfl (Src.r 0 rfl) (Nat.zero_lt_succ _) rfl) rfl ?_; refine L.step (Ev.load rfl rfl rfl (Src.r 0 rfl) rfl) rfl ?_; refine Lpu rfl rfl ?_; refine L.nil (QE.seq ?_)
    refine C.condB 39 rfl (fun hc39 => ?_) (fun hc39 => ?_)
    ·
     replace hc39 := of_decide_eq_true hc39
     refine C.skip (QE.seq (C.seq (C.block (C.seq ?_)))); refine C.regionQ (by kernel_rfl) ?_; refine LQ.step (Ev.pure rfl) rfl ?_; refine LQ.step (Ev.pure rfl) rfl ?_; refine LQ.step (Ev.idx1 (k := k) rfl rfl rfl rfl rfl rfl rfl (by omega) (Src.r 5 rfl) (by rw [U8_len]; omega)) rfl ?_; refine LQ.step (Ev.load rfl rfl rfl (Src.r 5 rfl) (U8_get (by omega))) rfl ?_; refine LQ.step (Ev.fieldAddr rfl rfl rfl rfl rfl rfl (Src.r 0 rfl) (Nat.zero_lt_succ _) rfl) rfl ?_; refine LQ.step (Ev.load rfl rfl rfl (Src.r 0 rfl) rfl) rfl ?_; refine LQ.step (Ev.pure rfl) rfl ?_; refine LQ.step (Ev.idx1 (k := sec.toNat) rfl rfl rfl rfl rfl rfl (by omega) (by omega) (Src.r 1 rfl) (by rw [rowsV_len (by rw [B8_len]; exact hh), B8_len]; omega)) rfl ?_; refine LQ.step (Ev.load rfl rfl rfl (Src.r 1 rfl) (rows8_get hh (by omega))) rfl ?_; refine LQ.step (Ev.pure rfl) rfl ?_; refine LQ.step (Ev.idx1 (k := k) rfl rfl rfl rfl rfl rfl rfl (by omega) ((Src.kid 2 rfl (by rw [B8_len]; exact hh) (sec.toNat) (by rw [B8_len]; omega)).cast (B8_get _)) (by rw [U8_len]; omega)) rfl ?_; refine LQ.step (Ev.load rfl rfl rfl ((Src.kid 2 rfl (by rw [B8_len]; exact hh) (sec.toNat) (by rw [B8_len]; omega)).cast (B8_get _)) (U8_get (by omega))) rfl ?_
     first | refine LQ.step (Ev.andNot8 rfl rfl) rfl ?_ | refine LQ.step (Ev.pure rfl) rfl ?_
     refine LQ.step (Ev.pure rfl) rfl ?_; refine LQ.nil ?_; refine QE.seq ?_
     refine C.condB 55 rfl (fun hc55 => ?_) (fun hc55 => ?_)
     ·
      replace hc55 := b_ne hc55
      refine C.region ?_; refine Lpu rfl rfl ?_; refine L.step (Ev.build rfl rfl rfl rfl rfl rfl rfl) rfl ?_; refine L.storeA (j := 1) rfl rfl rfl rfl rfl (Nat.zero_lt_succ _) rfl rfl ?_; refine L.nil ?_; refine QE.blkN ?_; refine QE.seq (C.region ?_); refine Lpu rfl rfl ?_; refine L.step (Ev.add rfl rfl (by omega) (by omega)) rfl ?_; refine Lpu rfl rfl ?_; refine L.nil ?_
      refine QE.round (i := (k, x, XA, xc)) ((k + 1, ⟨1, sec, 0, []⟩, none, 0)) (by exact ⟨by dsimp only; omega, .inr ⟨towB_no (k := k) (by dsimp only; omega) (fun h => hc55 (by rw [h]; rfl)), rfl, rfl, rfl⟩⟩) (by dsimp only; omega) (by exact Le.mk' (rs := [0, 1, 2, 3, 4, 5]) (hs := [0, 1]) ⟨rfl, rfl, rfl, rfl, rfl, rfl, trivial⟩ ⟨rfl, rfl, rfl, rfl, rfl, rfl, trivial⟩ ⟨rfl, rfl, trivial⟩ (by decide))
     ·
      replace hc55 := b_eq hc55
      refine C.skip ?_; refine QE.blkN ?_; refine QE.seq (C.region ?_); refine Lpu rfl rfl ?_; refine L.step (Ev.add rfl rfl (by omega) (by omega)) rfl ?_; refine Lpu rfl rfl ?_; refine L.nil ?_
      refine QE.round (i := (k, x, XA, xc)) ((k + 1, x, XA, xc)) (by exact ⟨by dsimp only; omega, by dsimp only; rw [towB_succ]; exact hx.next _ (by simpa [-List.getD_eq_getElem?_getD] using u8_eq.1 hc55)⟩) (by dsimp only; omega) (by exact Le.mk' (rs := [0, 1, 2, 3, 4, 5]) (hs := [0, 1]) ⟨rfl, rfl, rfl, rfl, rfl, rfl, trivial⟩ ⟨rfl, rfl, rfl, rfl, rfl, rfl, trivial⟩ ⟨rfl, rfl, trivial⟩ (by decide))
    ·
     replace hc39 := of_decide_eq_false hc39
     refine C.exit ?_; refine QE.tX ?_; refine QE.tX ?_; refine QE.blk ?_; refine QE.seq (C.seq ?_)
     obtain rfl : k = f.size := by omega
     have hxe := hx.eq
     refine C.region ?_; refine L.step (Ev.loadA rfl rfl rfl (Src.r 0 rfl) rfl rfl (by decide)) rfl ?_; refine L.step (Ev.loadA rfl rfl rfl (Src.o 1 rfl) rfl rfl (by decide)) rfl ?_; refine L.call (js := []) (js' := [0, 1]) (check17_c f a hok hh x XA xc (by have := hx.len; omega)) rfl rfl rfl (by decide) ⟨(Has.r 1 rfl), (Has.r 2 rfl), (Has.r 3 rfl), (Has.r 4 rfl), (hx.has (Has.r 5 rfl)), trivial⟩ rfl ?_
     rintro _ _ _ ⟨rfl, rfl, rfl⟩
     refine Lpu rfl rfl ?_; refine L.nil (QE.seq (C.seq (C.seq (C.region ?_)))); refine Lpu rfl rfl ?_; refine Lpu rfl rfl ?_; refine L.nil (QE.seq ?_)
     refine C.condB 62 rfl (fun hc62 => ?_) (fun hc62 => ?_)
     ·
      replace hc62 := b_ne hc62
      refine C.seq (C.region ?_); refine Lpu rfl rfl ?_; refine L.step (Ev.build rfl rfl rfl rfl rfl rfl rfl) rfl ?_; refine L.storeA (j := 0) rfl rfl rfl rfl rfl (Nat.zero_lt_succ _) rfl rfl ?_; refine L.nil (QE.seq (C.ret (QE.tR ?_))); refine QE.more (r := Rd none []) (Has.nil) ?_; refine QE.ret (js := [0]) (hs := []) (vs := [_]) rfl ⟨⟨_, _, 0, _, rfl, rfl, Src.o 0 rfl, .inl ⟨rfl, by decide, _, rfl, rfl, rfl⟩⟩, trivial⟩ (by decide) ?_
      refine ⟨none, 0, ?_, ?_, rfl⟩
      · rw [towN_3 (by omega) hc31 hxe hc62]; rfl
      · rw [towN_3 (by omega) hc31 hxe hc62]; rfl
     ·
      replace hc62 := b_eq hc62
      refine C.skip (QE.seq (C.seq (C.region ?_))); refine L.step (Ev.loadA rfl rfl rfl (Src.o 1 rfl) rfl rfl (by decide)) rfl ?_; refine L.step (Ev.build rfl rfl rfl rfl rfl rfl rfl) rfl ?_; refine L.storeA (j := 0) rfl rfl rfl rfl rfl (Nat.zero_lt_succ _) rfl rfl ?_; refine L.nil (QE.seq (C.ret ?_)); refine QE.more (r := Rd XA (U8 x.data)) ((hx.has (Has.r 5 rfl))) ?_; refine QE.ret (js := [0]) (hs := []) (vs := [_]) rfl ⟨⟨_, _, 0, _, rfl, rfl, Src.o 0 rfl, .inl ⟨rfl, by decide, _, rfl, rfl, rfl⟩⟩, trivial⟩ (by decide) ?_
      refine ⟨XA, xc, ?_, ?_, rfl⟩
      · rw [towN_4 (by omega) hc31 hxe (by omega)]; rfl
      · rw [towN_4 (by omega) hc31 hxe (by omega)]; rfl

theorem towP_c (f : Fl) (a : Fa) (ok : f.Ok) (hh : a.hs.length = f.data.length) (sec : Int) (want : List UInt8) (W : Option Addr) (wc : Nat) (hwl : want.length ≤ 1000000) :
   Ctr X 68 [.agg (List.toArray [.int .i64 (f.size : Int), .slice a.D f.data.length a.cD, .slice a.W f.wear.length a.cW, .int .i64 f.limit, .slice a.E f.dead.length a.cE]), .int .i64 sec, .slice W want.length wc] [Rd a.D (rowsV a.hs (B8 f.data)), KidsR a.hs (B8 f.data), Rd a.W (I64 f.wear), Rd a.E (Bs f.dead), Rd W (U8 want)] [] (fun v R' H' => ∃ A c, v = .tuple #[.agg (List.toArray [.int .i64 (towN f sec want).x.kind, .int .i64 (towN f sec want).x.sec, .int .i64 (towN f sec want).x.at_, .slice A (towN f sec want).x.data.length c]), .bool (towN f sec want).done, .int .i64 (towN f sec want).e] ∧ R' = [Rd A (U8 (towN f sec want).x.data)] ∧ H' = []) := by
 obtain ⟨os1, os2, on1, on2, owl, odl, orows, ol1, ol2, owear⟩ := ok
 have hok : f.Ok := ⟨os1, os2, on1, on2, owl, odl, orows, ol1, ol2, owear⟩
 refine Ctr.of (X := X) (fn := Try.f68) Try.func68 rfl (by kernel_rfl) rfl ?_
 intro β
 refine C.seq (C.region ?_)
 refine L.boxA rfl rfl (fun A3 => ?_)
 refine L.alloc rfl rfl rfl (fun A6 => ?_)
 refine Lpu rfl rfl ?_; refine Lpu rfl rfl ?_; refine L.nil (QE.seq (C.seq (C.seq ?_))); refine C.freeze 0 rfl [1] (by decide) (by decide) ?_; refine C.region ?_; refine Lpu rfl rfl ?_; refine Lpu rfl rfl ?_; refine Lpu rfl rfl ?_
 refine L.bool 15 rfl (fun hg15 => ?_) (fun hg15 => ?_)
 ·
  replace hg15 := of_decide_eq_true hg15
  refine L.no rfl rfl rfl ?_; refine L.no rfl rfl rfl ?_; refine L.no rfl rfl rfl ?_; refine L.no rfl rfl rfl ?_; refine L.no rfl rfl rfl ?_; refine Lpu rfl rfl ?_; refine Lpu rfl rfl ?_; refine L.no rfl rfl rfl ?_; refine L.no rfl rfl rfl ?_; refine L.no rfl rfl rfl ?_; refine L.no rfl rfl rfl ?_; refine L.no rfl rfl rfl ?_; refine Lpu rfl rfl ?_; refine L.nil (QE.seq ?_)
  refine C.cond rfl (fun _ => ?_) (fun h => by cases h)
  refine C.seq (C.region ?_); refine L.step (Ev.build rfl rfl rfl rfl rfl rfl rfl) rfl ?_; refine L.storeA (j := 0) rfl rfl rfl rfl rfl (Nat.zero_lt_succ _) rfl rfl ?_; refine Lpu rfl rfl ?_; refine Lpu rfl rfl ?_; refine L.nil (QE.seq (C.ret (QE.tR ?_))); refine QE.more (r := Rd none []) (Has.nil) ?_; refine QE.ret (js := [0]) (hs := []) (vs := [_, _, _]) rfl ⟨⟨_, _, 0, _, rfl, rfl, Src.o 0 rfl, .inl ⟨rfl, by decide, _, rfl, rfl, rfl⟩⟩, rfl, rfl, trivial⟩ (by decide) ?_
  refine ⟨none, 0, ?_, ?_, rfl⟩
  · rw [towN_1 (by omega)]; rfl
  · rw [towN_1 (by omega)]; rfl
 ·
  replace hg15 := of_decide_eq_false hg15
  refine L.yes rfl ?_; refine Lpu rfl rfl ?_; refine L.yes rfl ?_; refine L.step (Ev.fieldAddr rfl rfl rfl rfl rfl rfl (Src.r 0 rfl) (Nat.zero_lt_succ _) rfl) rfl ?_; refine L.yes rfl ?_; refine L.step (Ev.load rfl rfl rfl (Src.r 0 rfl) rfl) rfl ?_; refine L.yes rfl ?_; refine Lpu rfl rfl ?_; refine L.yes rfl ?_; refine Lpu rfl rfl ?_; refine Lpu rfl rfl ?_; refine Lpu rfl rfl ?_
  refine L.bool 22 rfl (fun hg22 => ?_) (fun hg22 => ?_)
  ·
   replace hg22 := of_decide_eq_true hg22
   refine L.no rfl rfl rfl ?_; refine L.no rfl rfl rfl ?_; refine L.no rfl rfl rfl ?_; refine L.no rfl rfl rfl ?_; refine L.no rfl rfl rfl ?_; refine Lpu rfl rfl ?_; refine L.nil (QE.seq ?_)
   refine C.cond rfl (fun _ => ?_) (fun h => by cases h)
   refine C.seq (C.region ?_); refine L.step (Ev.build rfl rfl rfl rfl rfl rfl rfl) rfl ?_; refine L.storeA (j := 0) rfl rfl rfl rfl rfl (Nat.zero_lt_succ _) rfl rfl ?_; refine Lpu rfl rfl ?_; refine Lpu rfl rfl ?_; refine L.nil (QE.seq (C.ret (QE.tR ?_))); refine QE.more (r := Rd none []) (Has.nil) ?_; refine QE.ret (js := [0]) (hs := []) (vs := [_, _, _]) rfl ⟨⟨_, _, 0, _, rfl, rfl, Src.o 0 rfl, .inl ⟨rfl, by decide, _, rfl, rfl, rfl⟩⟩, rfl, rfl, trivial⟩ (by decide) ?_
   refine ⟨none, 0, ?_, ?_, rfl⟩
   · rw [towN_1 (by omega)]; rfl
   · rw [towN_1 (by omega)]; rfl
  ·
   replace hg22 := of_decide_eq_false hg22
   refine L.yes rfl ?_; refine Lpu rfl rfl ?_; refine L.yes rfl ?_; refine Lpu rfl rfl ?_; refine L.yes rfl ?_; refine L.step (Ev.fieldAddr rfl rfl rfl rfl rfl rfl (Src.r 0 rfl) (Nat.zero_lt_succ _) rfl) rfl ?_; refine L.yes rfl ?_; refine L.step (Ev.load rfl rfl rfl (Src.r 0 rfl) rfl) rfl ?_; refine L.yes rfl ?_; refine Lpu rfl rfl ?_; refine Lpu rfl rfl ?_; refine L.nil (QE.seq ?_)
   refine C.condB 28 rfl (fun hc28 => ?_) (fun hc28 => ?_)
   ·
    replace hc28 := b_ne hc28
    refine C.seq (C.region ?_); refine L.step (Ev.build rfl rfl rfl rfl rfl rfl rfl) rfl ?_; refine L.storeA (j := 0) rfl rfl rfl rfl rfl (Nat.zero_lt_succ _) rfl rfl ?_; refine Lpu rfl rfl ?_; refine Lpu rfl rfl ?_; refine L.nil (QE.seq (C.ret (QE.tR ?_))); refine QE.more (r := Rd none []) (Has.nil) ?_; refine QE.ret (js := [0]) (hs := []) (vs := [_, _, _]) rfl ⟨⟨_, _, 0, _, rfl, rfl, Src.o 0 rfl, .inl ⟨rfl, by decide, _, rfl, rfl, rfl⟩⟩, rfl, rfl, trivial⟩ (by decide) ?_
    refine ⟨none, 0, ?_, ?_, rfl⟩
    · rw [towN_1 (by omega)]; rfl
    · rw [towN_1 (by omega)]; rfl
   ·
    replace hc28 := b_eq hc28
    have hrow := orows sec.toNat (by omega)
    refine C.skip (QE.seq (C.seq (C.seq (C.region ?_)))); refine L.step (Ev.fieldAddr rfl rfl rfl rfl rfl rfl (Src.r 0 rfl) (Nat.zero_lt_succ _) rfl) rfl ?_; refine L.step (Ev.load rfl rfl rfl (Src.r 0 rfl) rfl) rfl ?_; refine Lpu rfl rfl ?_; refine L.step (Ev.idx1 (k := sec.toNat) rfl rfl rfl rfl rfl rfl (by omega) (by omega) (Src.r 1 rfl) (by rw [rowsV_len (by rw [B8_len]; exact hh), B8_len]; omega)) rfl ?_; refine L.step (Ev.load rfl rfl rfl (Src.r 1 rfl) (rows8_get hh (by omega))) rfl ?_; refine Lpu rfl rfl ?_; refine L.call (js := []) (js' := [0]) (equal_c _ _ _ _ _ _) rfl rfl rfl (by decide) ⟨((Has.kid 2 rfl (by rw [B8_len]; exact hh) (sec.toNat) (by rw [B8_len]; omega)).cast (B8_get _)), (Has.r 5 rfl), trivial⟩ rfl ?_
    rintro _ _ _ ⟨rfl, rfl, rfl⟩
    refine L.nil (QE.seq ?_)
    refine C.condB 36 rfl (fun hc36 => ?_) (fun hc36 => ?_)
    ·
     replace hc36 := eq_of_beq hc36
     refine C.seq (C.region ?_); refine L.step (Ev.build rfl rfl rfl rfl rfl rfl rfl) rfl ?_; refine L.storeA (j := 0) rfl rfl rfl rfl rfl (Nat.zero_lt_succ _) rfl rfl ?_; refine Lpu rfl rfl ?_; refine Lpu rfl rfl ?_; refine L.nil (QE.seq (C.ret (QE.tR ?_))); refine QE.more (r := Rd none []) (Has.nil) ?_; refine QE.ret (js := [0]) (hs := []) (vs := [_, _, _]) rfl ⟨⟨_, _, 0, _, rfl, rfl, Src.o 0 rfl, .inl ⟨rfl, by decide, _, rfl, rfl, rfl⟩⟩, rfl, rfl, trivial⟩ (by decide) ?_
     refine ⟨none, 0, ?_, ?_, rfl⟩
     · rw [towN_2 (by omega) hc36]; rfl
     · rw [towN_2 (by omega) hc36]; rfl
    ·
     replace hc36 : (f.data.getD sec.toNat []) ≠ want := by simpa using hc36
     refine C.skip (QE.seq (C.seq (C.region ?_))); refine Lpu rfl rfl ?_; refine Lpu rfl rfl ?_; refine L.step (Ev.build rfl rfl rfl rfl rfl rfl rfl) rfl ?_
     refine L.alloc rfl rfl rfl (fun A9 => ?_)
     refine L.storeA (j := 1) rfl rfl rfl rfl rfl (Nat.zero_lt_succ _) rfl rfl ?_; refine L.nil (QE.seq (C.seq (C.seq (C.region ?_)))); refine L.step (Ev.fieldAddr rfl rfl rfl rfl rfl rfl (Src.r 0 rfl) (Nat.zero_lt_succ _) rfl) rfl ?_; refine L.step (Ev.load rfl rfl rfl (Src.r 0 rfl) rfl) rfl ?_; refine Lpu rfl rfl ?_; refine L.step (Ev.idx1 (k := sec.toNat) rfl rfl rfl rfl rfl rfl (by omega) (by omega) (Src.r 1 rfl) (by rw [rowsV_len (by rw [B8_len]; exact hh), B8_len]; omega)) rfl ?_; refine L.step (Ev.load rfl rfl rfl (Src.r 1 rfl) (rows8_get hh (by omega))) rfl ?_; refine Lpu rfl rfl ?_; refine Lpu rfl rfl ?_; refine L.nil (QE.seq (C.block ?_)); refine C.loop (fun k : Nat => [(1, .int .i64 sec), (2, .slice W want.length wc), (3, ptrOf A3 0), (6, ptrOf A6 0), (9, ptrOf A9 0), (45, .slice (a.hs.getD sec.toNat (none, 0)).1 (f.data.getD sec.toNat []).length (a.hs.getD sec.toNat (none, 0)).2), (46, .int .i64 ((f.data.getD sec.toNat []).length : Int)), (47, .int .i64 (k : Int))]) (fun k : Nat => [Rd A3 [.int .i64 (f.size : Int), .slice a.D f.data.length a.cD, .slice a.W f.wear.length a.cW, .int .i64 f.limit, .slice a.E f.dead.length a.cE], Rd a.D (rowsV a.hs (B8 f.data)), KidsR a.hs (B8 f.data), Rd a.W (I64 f.wear), Rd a.E (Bs f.dead), Rd W (U8 want)]) (fun k : Nat => [Own 53 4 A6 1 1 [.int .i64 0, .int .i64 0, .int .i64 0, .slice none 0 0], Own 53 4 A9 1 1 [.int .i64 2, .int .i64 sec, .int .i64 0, .slice W want.length wc]]) (fun k : Nat => k ≤ f.size ∧ towB (f.data.getD sec.toNat []) want k = true) (fun k : Nat => f.size - k) 0 ⟨Nat.zero_le _, rfl⟩ (by exact Le.mk' (rs := [0, 1, 2, 3, 4, 5]) (hs := [0, 1]) ⟨rfl, rfl, rfl, rfl, rfl, rfl, rfl, rfl, trivial⟩ ⟨rfl, rfl, rfl, rfl, rfl, rfl, trivial⟩ ⟨rfl, rfl, trivial⟩ (by decide)) ?_
     rintro k ⟨hk, hb⟩
     refine C.seq (C.region ?_); refine Lpu rfl rfl ?_; refine L.nil (QE.seq (C.seq ?_))
     refine C.condB 48 rfl (fun hc48 => ?_) (fun hc48 => ?_)
     ·
      replace hc48 := of_decide_eq_true hc48
      refine C.skip (QE.seq (C.seq (C.block (C.seq (C.region ?_))))); refine Lpu rfl rfl ?_; refine L.step (Ev.idx1 (k := k) rfl rfl rfl rfl rfl rfl rfl (by omega) ((Src.kid 2 rfl (by rw [B8_len]; exact hh) (sec.toNat) (by rw [B8_len]; omega)).cast (B8_get _)) (by rw [U8_len]; omega)) rfl ?_; refine L.step (Ev.load rfl rfl rfl ((Src.kid 2 rfl (by rw [B8_len]; exact hh) (sec.toNat) (by rw [B8_len]; omega)).cast (B8_get _)) (U8_get (by omega))) rfl ?_; refine Lpu rfl rfl ?_; refine Lpu rfl rfl ?_; refine L.nil (QE.seq (C.seq ?_)); refine C.regionQ (by kernel_rfl) ?_; refine LQ.step (Ev.pure rfl) rfl ?_; refine LQ.step (Ev.pure rfl) rfl ?_; refine LQ.step (Ev.pure rfl) rfl ?_; refine LQ.step (Ev.idx1 (k := k) rfl rfl rfl rfl rfl rfl rfl (by omega) (Src.r 5 rfl) (by rw [U8_len]; omega)) rfl ?_; refine LQ.step (Ev.load rfl rfl rfl (Src.r 5 rfl) (U8_get (by omega))) rfl ?_
      first | refine LQ.step (Ev.and8 rfl rfl) rfl ?_ | refine LQ.step (Ev.pure rfl) rfl ?_
      refine LQ.step (Ev.pure rfl) rfl ?_; refine LQ.step (Ev.pure rfl) rfl ?_; refine LQ.step (Ev.idx1 (k := k) rfl rfl rfl rfl rfl rfl rfl (by omega) (Src.r 5 rfl) (by rw [U8_len]; omega)) rfl ?_; refine LQ.step (Ev.load rfl rfl rfl (Src.r 5 rfl) (U8_get (by omega))) rfl ?_; refine LQ.step (Ev.pure rfl) rfl ?_; refine LQ.nil ?_; refine QE.seq ?_
      refine C.condB 62 rfl (fun hc62 => ?_) (fun hc62 => ?_)
      ·
       replace hc62 := b_ne hc62
       have hxe : towX f sec want = ⟨1, sec, 0, []⟩ := towX_2 (towB_no (k := k) (by omega) (fun h => hc62 (u8_eq.2 ((andNot_zero _ _).2 h))))
       refine C.seq (C.region ?_); refine Lpu rfl rfl ?_; refine L.step (Ev.build rfl rfl rfl rfl rfl rfl rfl) rfl ?_; refine L.storeA (j := 1) rfl rfl rfl rfl rfl (Nat.zero_lt_succ _) rfl rfl ?_; refine L.nil (QE.seq ?_); refine C.exit ?_; refine QE.blkX rfl ?_; refine QE.tX ?_; refine QE.tX ?_; refine QE.blk ?_; refine QE.seq (C.seq (C.seq (C.region ?_))); refine L.step (Ev.loadA rfl rfl rfl (Src.r 0 rfl) rfl rfl (by decide)) rfl ?_; refine L.step (Ev.loadA rfl rfl rfl (Src.o 1 rfl) rfl rfl (by decide)) rfl ?_; refine L.call (js := []) (js' := [0, 1]) (check_c f a hok hh ⟨1, sec, 0, []⟩ none 0 (by simp)) rfl rfl rfl (by decide) ⟨(Has.r 1 rfl), (Has.r 2 rfl), (Has.r 3 rfl), (Has.r 4 rfl), Has.nil, trivial⟩ rfl ?_
       rintro _ _ _ ⟨rfl, rfl, rfl⟩
       refine Lpu rfl rfl ?_; refine L.nil (QE.seq (C.seq (C.region ?_))); refine Lpu rfl rfl ?_; refine Lpu rfl rfl ?_; refine L.nil (QE.seq ?_)
       refine C.condB 70 rfl (fun hc70 => ?_) (fun hc70 => ?_)
       ·
        replace hc70 := b_ne hc70
        refine C.seq (C.region ?_); refine L.step (Ev.build rfl rfl rfl rfl rfl rfl rfl) rfl ?_; refine Lpu rfl rfl ?_; refine L.storeA (j := 0) rfl rfl rfl rfl rfl (Nat.zero_lt_succ _) rfl rfl ?_; refine Lpu rfl rfl ?_; refine Lpu rfl rfl ?_; refine L.nil (QE.seq (C.ret (QE.tR ?_))); refine QE.more (r := Rd none []) (Has.nil) ?_; refine QE.ret (js := [0]) (hs := []) (vs := [_, _, _]) rfl ⟨⟨_, _, 0, _, rfl, rfl, Src.o 0 rfl, .inl ⟨rfl, by decide, _, rfl, rfl, rfl⟩⟩, rfl, rfl, trivial⟩ (by decide) ?_
        refine ⟨none, 0, ?_, ?_, rfl⟩
        · rw [towN_3 (by omega) hc36 hxe hc70]; rfl
        · rw [towN_3 (by omega) hc36 hxe hc70]; rfl
       ·
        replace hc70 := b_eq hc70
        refine C.skip (QE.seq (C.seq (C.region ?_))); refine L.step (Ev.fieldAddr rfl rfl rfl rfl rfl rfl (Src.o 1 rfl) (Nat.zero_lt_succ _) rfl) rfl ?_; refine L.step (Ev.load rfl rfl rfl (Src.o 1 rfl) rfl) rfl ?_; refine L.call (js := []) (js' := [0, 1]) (clone8_c none 0 0 (U8 []) (U8_one _) rfl (by omega)) rfl rfl rfl (by decide) ⟨Has.nil, trivial⟩ rfl ?_
        rintro _ _ _ ⟨A75, c75, rfl, rfl, rfl⟩
        refine L.step (Ev.fieldAddr rfl rfl rfl rfl rfl rfl (Src.o 2 rfl) (Nat.zero_lt_succ _) rfl) rfl ?_; refine L.store (j := 2) rfl rfl rfl rfl rfl rfl rfl rfl ?_; refine L.nil (QE.seq (C.seq (C.region ?_))); refine L.step (Ev.loadA rfl rfl rfl (Src.o 2 rfl) rfl rfl (by decide)) rfl ?_; refine L.storeA (j := 1) rfl rfl rfl rfl rfl (Nat.zero_lt_succ _) rfl rfl ?_; refine Lpu rfl rfl ?_; refine Lpu rfl rfl ?_; refine L.nil (QE.seq (C.ret ?_)); refine QE.freeze 0 rfl [1, 2] (by decide) (by decide) ?_; refine QE.ret (js := [0]) (hs := []) (vs := [_, _, _]) rfl ⟨⟨_, _, 0, _, rfl, rfl, Src.o 0 rfl, .inl ⟨rfl, by decide, _, rfl, rfl, rfl⟩⟩, rfl, rfl, trivial⟩ (by decide) ?_
        refine ⟨A75, c75, ?_, ?_, rfl⟩
        · rw [towN_4 (by omega) hc36 hxe (by omega)]; rfl
        · rw [towN_4 (by omega) hc36 hxe (by omega)]; rfl
      ·
       replace hc62 := b_eq hc62
       have hbb := (andNot_zero _ _).1 (u8_eq.1 hc62)
       refine C.skip ?_; refine QE.blkN ?_; refine QE.seq (C.region ?_); refine L.step (Ev.add rfl rfl (by omega) (by omega)) rfl ?_; refine Lpu rfl rfl ?_; refine L.nil ?_
       refine QE.round (k + 1) (by exact ⟨by omega, by rw [towB_succ, hb, hbb]; rfl⟩) (by omega) (by exact Le.mk' (rs := [0, 1, 2, 3, 4, 5]) (hs := [0, 1]) ⟨rfl, rfl, rfl, rfl, rfl, rfl, rfl, rfl, trivial⟩ ⟨rfl, rfl, rfl, rfl, rfl, rfl, trivial⟩ ⟨rfl, rfl, trivial⟩ (by decide))
     ·
      replace hc48 := of_decide_eq_false hc48
      obtain rfl : k = f.size := by omega
      have hxe := towX_1 (sec := sec) hb
      refine C.exit ?_; refine QE.tX ?_; refine QE.tX ?_; refine QE.blk ?_; refine QE.seq (C.seq (C.seq (C.region ?_))); refine L.step (Ev.loadA rfl rfl rfl (Src.r 0 rfl) rfl rfl (by decide)) rfl ?_; refine L.step (Ev.loadA rfl rfl rfl (Src.o 1 rfl) rfl rfl (by decide)) rfl ?_; refine L.call (js := []) (js' := [0, 1]) (check_c f a hok hh ⟨2, sec, 0, want⟩ W wc (by simp; omega)) rfl rfl rfl (by decide) (Hq [1, 2, 3, 4, 5] rfl) rfl ?_
      rintro _ _ _ ⟨rfl, rfl, rfl⟩
      refine Lpu rfl rfl ?_; refine L.nil (QE.seq (C.seq (C.region ?_))); refine Lpu rfl rfl ?_; refine Lpu rfl rfl ?_; refine L.nil (QE.seq ?_)
      refine C.condB 70 rfl (fun hc70 => ?_) (fun hc70 => ?_)
      ·
       replace hc70 := b_ne hc70
       refine C.seq (C.region ?_); refine L.step (Ev.build rfl rfl rfl rfl rfl rfl rfl) rfl ?_; refine Lpu rfl rfl ?_; refine L.storeA (j := 0) rfl rfl rfl rfl rfl (Nat.zero_lt_succ _) rfl rfl ?_; refine Lpu rfl rfl ?_; refine Lpu rfl rfl ?_; refine L.nil (QE.seq (C.ret (QE.tR ?_))); refine QE.more (r := Rd none []) (Has.nil) ?_; refine QE.ret (js := [0]) (hs := []) (vs := [_, _, _]) rfl ⟨⟨_, _, 0, _, rfl, rfl, Src.o 0 rfl, .inl ⟨rfl, by decide, _, rfl, rfl, rfl⟩⟩, rfl, rfl, trivial⟩ (by decide) ?_
       refine ⟨none, 0, ?_, ?_, rfl⟩
       · rw [towN_3 (by omega) hc36 hxe hc70]; rfl
       · rw [towN_3 (by omega) hc36 hxe hc70]; rfl
      ·
       replace hc70 := b_eq hc70
       refine C.skip (QE.seq (C.seq (C.region ?_))); refine L.step (Ev.fieldAddr rfl rfl rfl rfl rfl rfl (Src.o 1 rfl) (Nat.zero_lt_succ _) rfl) rfl ?_; refine L.step (Ev.load rfl rfl rfl (Src.o 1 rfl) rfl) rfl ?_; refine L.call (js := []) (js' := [0, 1]) (clone8_c W want.length wc (U8 want) (U8_one _) (U8_len _) (by omega)) rfl rfl rfl (by decide) (Hq [5] rfl) rfl ?_
       rintro _ _ _ ⟨A75, c75, rfl, rfl, rfl⟩
       refine L.step (Ev.fieldAddr rfl rfl rfl rfl rfl rfl (Src.o 2 rfl) (Nat.zero_lt_succ _) rfl) rfl ?_; refine L.store (j := 2) rfl rfl rfl rfl rfl rfl rfl rfl ?_; refine L.nil (QE.seq (C.seq (C.region ?_))); refine L.step (Ev.loadA rfl rfl rfl (Src.o 2 rfl) rfl rfl (by decide)) rfl ?_; refine L.storeA (j := 1) rfl rfl rfl rfl rfl (Nat.zero_lt_succ _) rfl rfl ?_; refine Lpu rfl rfl ?_; refine Lpu rfl rfl ?_; refine L.nil (QE.seq (C.ret ?_)); refine QE.freeze 0 rfl [1, 2] (by decide) (by decide) ?_; refine QE.ret (js := [0]) (hs := []) (vs := [_, _, _]) rfl ⟨⟨_, _, 0, _, rfl, rfl, Src.o 0 rfl, .inl ⟨rfl, by decide, _, rfl, rfl, rfl⟩⟩, rfl, rfl, trivial⟩ (by decide) ?_
       refine ⟨A75, c75, ?_, ?_, rfl⟩
       · rw [towN_4 (by omega) hc36 hxe (by omega)]; rfl
       · rw [towN_4 (by omega) hc36 hxe (by omega)]; rfl

end Go.Proofs.Ytmbjknampholjaa
