/-
  The contracts of reach and Format of both.
-/
import Derived.Test.YtmbjknampholjaaEWJoJ
namespace Go.Proofs.Ytmbjknampholjaa
open Go.Sl

theorem cont_nil {n : Nat} (h : 8 ≤ n) : contF n 0 [] = List.replicate n 255 := by rw [← cont1_all, List.length_nil, cont1_zero h]
theorem towx_le {g : Fl} {sec : Int} {want : List UInt8} (h : secR g sec ≠ want ∧ (towN g sec want).x = towX g sec want ∧ checkE g (towX g sec want) = 0) (hw : want.length ≤ 1000000) : (towN g sec want).x.data.length ≤ 1000000 := by
 rw [h.2.1]
 unfold towX
 split
 · exact hw
 · exact Nat.zero_le _

theorem reachP_c (f : Fl) (a : Fa) (ok : f.Ok) (hh : a.hs.length = f.data.length) (hcap : Caps f a) (sec : Int) (want : List UInt8) (W : Option Addr) (m wc : Nat) (hm : want.length = m) (hmz : m = f.size) (hsec : 0 ≤ sec ∧ sec < (f.data.length : Int)) :
   Ctr X 50 [.agg (List.toArray [.int .i64 (f.size : Int), .slice a.D f.data.length a.cD, .slice a.W f.wear.length a.cW, .int .i64 f.limit, .slice a.E f.dead.length a.cE]), .int .i64 sec, .slice W m wc] [Rd a.D (rowsV a.hs (B8 f.data)), KidsR a.hs (B8 f.data), Rd a.W (I64 f.wear), Rd a.E (Bs f.dead), Rd W (U8 want)] [] (fun v R' H' => ∃ b : Fa, b.hs.length = (reachF sec want 3 f).1.data.length ∧ Caps (reachF sec want 3 f).1 b ∧ v = .tuple #[flV (reachF sec want 3 f).1 b, .int .i64 (reachF sec want 3 f).2] ∧ R' = flR (reachF sec want 3 f).1 b ∧ H' = []) := by
 have hok := ok
 have hz2 := ok.s2
 refine Ctr.of (X := X) (fn := Try.f50) Try.func50 rfl (by kernel_rfl) rfl ?_
 intro β
 refine C.seq (C.region ?_)
 refine L.boxA rfl rfl (fun A3 => ?_)
 refine L.alloc rfl rfl rfl (fun A6 => ?_)
 refine Lpu rfl rfl ?_; refine L.nil (QE.seq (C.block ?_)); refine C.loop (fun q : Nat × Fl × Fa => [(1, .int .i64 sec), (2, .slice W m wc), (3, ptrOf A3 0), (6, ptrOf A6 0)]) (fun q : Nat × Fl × Fa => [Rd q.2.2.D (rowsV q.2.2.hs (B8 q.2.1.data)), KidsR q.2.2.hs (B8 q.2.1.data), Rd q.2.2.W (I64 q.2.1.wear), Rd q.2.2.E (Bs q.2.1.dead), Rd W (U8 want)]) (fun q : Nat × Fl × Fa => [Own 35 5 A3 1 1 [.int .i64 (q.2.1.size : Int), .slice q.2.2.D q.2.1.data.length q.2.2.cD, .slice q.2.2.W q.2.1.wear.length q.2.2.cW, .int .i64 q.2.1.limit, .slice q.2.2.E q.2.1.dead.length q.2.2.cE], Own 35 5 A6 1 1 [.int .i64 0, .slice none 0 0, .slice none 0 0, .int .i64 0, .slice none 0 0]]) (fun q : Nat × Fl × Fa => q.2.1.Ok ∧ q.2.2.hs.length = q.2.1.data.length ∧ Caps q.2.1 q.2.2 ∧ q.2.1.size = f.size ∧ q.2.1.data.length = f.data.length ∧ tMu q.2.1 sec want ≤ q.1 ∧ reachF sec want q.1 q.2.1 = reachF sec want 3 f) (fun q : Nat × Fl × Fa => q.1) (3, f, a) ⟨ok, hh, hcap, rfl, rfl, Nat.le_succ_of_le (tMu_le ..), rfl⟩ (by exact Le.mk' (rs := [0, 1, 2, 3, 4]) (hs := [0, 1]) ⟨rfl, rfl, rfl, rfl, trivial⟩ ⟨rfl, rfl, rfl, rfl, rfl, trivial⟩ ⟨rfl, rfl, trivial⟩ (by decide)) ?_
 rintro ⟨k, g, b⟩ ⟨ok, hb, hc, hz, hn, hmu, hinv⟩
 dsimp only at ok hb hc hz hn hmu hinv ⊢
 have hse : 0 ≤ sec ∧ sec < (g.data.length : Int) := by rw [hn]; exact hsec
 have hmw : want.length = g.size := by rw [hm, hmz, hz]
 refine C.block (C.seq (C.region ?_)); refine L.step (Ev.loadA rfl rfl rfl (Src.o 0 rfl) rfl rfl (by decide)) rfl ?_; refine Lpu rfl rfl ?_; refine Lpu rfl rfl ?_; refine L.callR (js := []) (js' := [0, 1]) (towP_c2 g b ok hb sec want W m wc hm (by omega)) rfl rfl rfl (by decide) (Hq [0, 1, 2, 3, 4] rfl) rfl ?_
 rintro _ _ _ ⟨PO, pc, rfl, rfl, rfl⟩
 refine L.norm (H' := [_, _]) [0, 1] ⟨rfl, rfl, trivial⟩ (by decide) ?_; refine Lpu rfl rfl ?_; refine Lpu rfl rfl ?_; refine Lpu rfl rfl ?_; refine Lpu rfl rfl ?_
 refine L.alloc rfl rfl rfl (fun A8 => ?_)
 refine L.storeA (j := 2) rfl rfl rfl rfl rfl (Nat.zero_lt_succ _) rfl rfl ?_; refine Lpu rfl rfl ?_; refine Lpu rfl rfl ?_; refine L.nil (QE.seq (C.seq (C.seq (C.region ?_)))); refine Lpu rfl rfl ?_; refine Lpu rfl rfl ?_
 refine L.bool 20 rfl (fun hg20 => ?_) (fun hg20 => ?_)
 ·
  have hxw : want.length ≤ 1000000 := by omega
  refine L.no rfl rfl rfl ?_; refine L.no rfl rfl rfl ?_; refine Lpu rfl rfl ?_; refine L.nil (QE.seq ?_)
  refine C.cond rfl (fun _ => ?_) (fun h => by cases h)
  refine C.seq (C.region ?_); refine L.step (Ev.loadA rfl rfl rfl (Src.o 0 rfl) rfl rfl (by decide)) rfl ?_; refine Lpu rfl rfl ?_; refine L.storeA (j := 1) rfl rfl rfl rfl rfl (Nat.zero_lt_succ _) rfl rfl ?_; refine Lpu rfl rfl ?_; refine L.nil (QE.seq (C.ret (QE.tR (QE.bR (QE.tR (QE.bR ?_)))))); refine QE.ret (js := [1, 2, 3, 4]) (hs := []) (vs := [_, _]) rfl ⟨⟨_, _, 0, _, rfl, rfl, Src.o 1 rfl, .inl ⟨rfl, by decide, _, rfl, rfl, rfl⟩⟩, rfl, trivial⟩ (by decide) ?_
  rw [← hinv, reachF_end (.inl hg20)]
  exact ⟨b, hb, hc, rfl, rfl, rfl⟩
 ·
  have hxw : want.length ≤ 1000000 := by omega
  refine L.yes rfl ?_; refine Lpu rfl rfl ?_; refine L.yes rfl ?_; refine Lpu rfl rfl ?_; refine Lpu rfl rfl ?_; refine L.nil (QE.seq ?_)
  refine C.condB 23 rfl (fun hc23 => ?_) (fun hc23 => ?_)
  ·
   replace hc23 := b_ne hc23
   refine C.seq (C.region ?_); refine L.step (Ev.loadA rfl rfl rfl (Src.o 0 rfl) rfl rfl (by decide)) rfl ?_; refine Lpu rfl rfl ?_; refine L.storeA (j := 1) rfl rfl rfl rfl rfl (Nat.zero_lt_succ _) rfl rfl ?_; refine Lpu rfl rfl ?_; refine L.nil (QE.seq (C.ret (QE.tR (QE.bR (QE.tR (QE.bR ?_)))))); refine QE.ret (js := [1, 2, 3, 4]) (hs := []) (vs := [_, _]) rfl ⟨⟨_, _, 0, _, rfl, rfl, Src.o 1 rfl, .inl ⟨rfl, by decide, _, rfl, rfl, rfl⟩⟩, rfl, trivial⟩ (by decide) ?_
   rw [← hinv, reachF_end (.inr hc23)]
   exact ⟨b, hb, hc, rfl, rfl, rfl⟩
  ·
   replace hc23 := b_eq hc23
   have hnd : ¬((towN g sec want).done = true ∨ (towN g sec want).e ≠ 0) := by rintro (h | h); rw [h] at hg20; cases hg20; exact h hc23
   have hgo := tow_go hse hmw hnd
   have hE : checkE g (towN g sec want).x = 0 := by rw [hgo.2.1]; exact hgo.2.2
   have K := cutR_kept (x := (towN g sec want).x) ok hE (fun _ => 255)
   refine C.skip (QE.seq (C.seq (C.region ?_))); refine L.step (Ev.loadA rfl rfl rfl (Src.o 0 rfl) rfl rfl (by decide)) rfl ?_; refine L.step (Ev.loadA rfl rfl rfl (Src.o 2 rfl) rfl rfl (by decide)) rfl ?_; refine L.callR (js := []) (js' := [0, 1, 2]) (do2_c g b ok hb (towN g sec want).x PO pc (Nat.le_trans (towx_le hgo hxw) (by decide)) hc) rfl rfl rfl (by decide) (Hq [1, 2, 3, 4, 0] rfl) rfl ?_
   rintro _ _ _ ⟨b', hb', rfl, rfl, rfl⟩
   refine L.norm (H' := [_, _, _]) [0, 1, 2] ⟨rfl, rfl, rfl, trivial⟩ (by decide) ?_; refine Lpu rfl rfl ?_; refine Lpu rfl rfl ?_; refine Lpu rfl rfl ?_; refine L.storeA (j := 0) rfl rfl rfl rfl rfl (Nat.zero_lt_succ _) rfl rfl ?_; refine Lpu rfl rfl ?_; refine L.nil (QE.seq (C.seq (C.region ?_))); refine Lpu rfl rfl ?_; refine Lpu rfl rfl ?_; refine L.nil (QE.seq ?_)
   refine C.condB 33 rfl (fun hc33 => ?_) (fun hc33 => ?_)
   ·
    replace hc33 := b_ne hc33
    rw [hE] at hc33; exact absurd rfl hc33
   ·
    replace hc33 := b_eq hc33
    refine C.skip ?_; refine QE.blkN ?_
    have hlt := tow_less hse hmw hnd
    obtain ⟨k, rfl⟩ : ∃ j, k = j + 1 := ⟨k - 1, by omega⟩
    rw [reachF_go hnd] at hinv
    refine QE.round (i := (k + 1, g, b)) ((k, cutR g (towN g sec want).x (fun _ => 255), b')) (by exact ⟨K.ok, hb'.1, hb'.2, K.s.trans hz, K.n.trans hn, by dsimp only; omega, hinv⟩) (by dsimp only; omega) (by exact Le.mk' (rs := [0, 1, 2, 3, 9]) (hs := [0, 1]) ⟨rfl, rfl, rfl, rfl, trivial⟩ ⟨rfl, rfl, rfl, rfl, rfl, trivial⟩ ⟨rfl, rfl, trivial⟩ (by decide))

theorem reachR_c (f : Fl) (a : Fa) (ok : f.Ok) (hh : a.hs.length = f.data.length) (hcap : Caps f a) (sec : Int) (want : List UInt8) (W : Option Addr) (m wc : Nat) (hm : want.length = m) (hmz : m = f.size) (hsec : 0 ≤ sec ∧ sec < (f.data.length : Int)) :
   Ctr X 53 [.agg (List.toArray [.int .i64 (f.size : Int), .slice a.D f.data.length a.cD, .slice a.W f.wear.length a.cW, .int .i64 f.limit, .slice a.E f.dead.length a.cE]), .int .i64 sec, .slice W m wc] [Rd a.D (rowsV a.hs (B8 f.data)), KidsR a.hs (B8 f.data), Rd a.W (I64 f.wear), Rd a.E (Bs f.dead), Rd W (U8 want)] [] (fun v R' H' => ∃ b : Fa, b.hs.length = (reachF sec want 3 f).1.data.length ∧ Caps (reachF sec want 3 f).1 b ∧ v = .tuple #[flV (reachF sec want 3 f).1 b, .int .i64 (reachF sec want 3 f).2] ∧ R' = flR (reachF sec want 3 f).1 b ∧ H' = []) := by
 have hok := ok
 have hz2 := ok.s2
 refine Ctr.of (X := X) (fn := Try.f53) Try.func53 rfl (by kernel_rfl) rfl ?_
 intro β
 refine C.seq (C.region ?_)
 refine L.boxA rfl rfl (fun A3 => ?_)
 refine L.alloc rfl rfl rfl (fun A6 => ?_)
 refine Lpu rfl rfl ?_; refine L.nil (QE.seq (C.block ?_)); refine C.loop (fun q : Nat × Fl × Fa => [(1, .int .i64 sec), (2, .slice W m wc), (3, ptrOf A3 0), (6, ptrOf A6 0)]) (fun q : Nat × Fl × Fa => [Rd q.2.2.D (rowsV q.2.2.hs (B8 q.2.1.data)), KidsR q.2.2.hs (B8 q.2.1.data), Rd q.2.2.W (I64 q.2.1.wear), Rd q.2.2.E (Bs q.2.1.dead), Rd W (U8 want)]) (fun q : Nat × Fl × Fa => [Own 35 5 A3 1 1 [.int .i64 (q.2.1.size : Int), .slice q.2.2.D q.2.1.data.length q.2.2.cD, .slice q.2.2.W q.2.1.wear.length q.2.2.cW, .int .i64 q.2.1.limit, .slice q.2.2.E q.2.1.dead.length q.2.2.cE], Own 35 5 A6 1 1 [.int .i64 0, .slice none 0 0, .slice none 0 0, .int .i64 0, .slice none 0 0]]) (fun q : Nat × Fl × Fa => q.2.1.Ok ∧ q.2.2.hs.length = q.2.1.data.length ∧ Caps q.2.1 q.2.2 ∧ q.2.1.size = f.size ∧ q.2.1.data.length = f.data.length ∧ tMu q.2.1 sec want ≤ q.1 ∧ reachF sec want q.1 q.2.1 = reachF sec want 3 f) (fun q : Nat × Fl × Fa => q.1) (3, f, a) ⟨ok, hh, hcap, rfl, rfl, Nat.le_succ_of_le (tMu_le ..), rfl⟩ (by exact Le.mk' (rs := [0, 1, 2, 3, 4]) (hs := [0, 1]) ⟨rfl, rfl, rfl, rfl, trivial⟩ ⟨rfl, rfl, rfl, rfl, rfl, trivial⟩ ⟨rfl, rfl, trivial⟩ (by decide)) ?_
 rintro ⟨k, g, b⟩ ⟨ok, hb, hc, hz, hn, hmu, hinv⟩
 dsimp only at ok hb hc hz hn hmu hinv ⊢
 have hse : 0 ≤ sec ∧ sec < (g.data.length : Int) := by rw [hn]; exact hsec
 have hmw : want.length = g.size := by rw [hm, hmz, hz]
 refine C.block (C.seq (C.region ?_)); refine L.step (Ev.loadA rfl rfl rfl (Src.o 0 rfl) rfl rfl (by decide)) rfl ?_; refine Lpu rfl rfl ?_; refine Lpu rfl rfl ?_; refine L.callR (js := []) (js' := [0, 1]) (tow17_c2 g b ok hb sec want W m wc hm (by omega)) rfl rfl rfl (by decide) (Hq [0, 1, 2, 3, 4] rfl) rfl ?_
 rintro _ _ _ ⟨PO, pc, rfl, rfl, rfl⟩
 refine L.norm (H' := [_, _]) [0, 1] ⟨rfl, rfl, trivial⟩ (by decide) ?_
 refine L.alloc rfl rfl rfl (fun A8 => ?_)
 refine L.storeA (j := 2) rfl rfl rfl rfl rfl (Nat.zero_lt_succ _) rfl rfl ?_; refine L.nil (QE.seq (C.seq (C.seq (C.region ?_)))); refine L.step (Ev.fieldAddr rfl rfl rfl rfl rfl rfl (Src.o 2 rfl) (Nat.zero_lt_succ _) rfl) rfl ?_; refine L.step (Ev.load rfl rfl rfl (Src.o 2 rfl) rfl) rfl ?_; refine Lpu rfl rfl ?_; refine Lpu rfl rfl ?_
 refine L.bool 16 rfl (fun hg16 => ?_) (fun hg16 => ?_)
 ·
  replace hg16 := b_ne hg16
  have hxw : want.length ≤ 1000000 := by omega
  refine L.no rfl rfl rfl ?_; refine L.no rfl rfl rfl ?_; refine Lpu rfl rfl ?_; refine L.nil (QE.seq ?_)
  refine C.cond rfl (fun _ => ?_) (fun h => by cases h)
  refine C.seq ?_; refine C.regionM [Rd A3 [.int .i64 (g.size : Int), .slice b.D g.data.length b.cD, .slice b.W g.wear.length b.cW, .int .i64 g.limit, .slice b.E g.dead.length b.cE], Rd A8 [.int .i64 (towN g sec want).x.kind, .int .i64 (towN g sec want).x.sec, .int .i64 (towN g sec want).x.at_, .slice PO (towN g sec want).x.data.length pc, .bool (towN g sec want).done, .int .i64 (towN g sec want).e]] ⟨Has.o 0 rfl, Has.o 2 rfl, trivial⟩ ?_; refine LM.q 0 rfl (by kernel_rfl) (Ev.loadA rfl rfl rfl (Src.r 0 rfl) rfl rfl (by decide)) rfl ⟨Has.o 0 rfl, Has.o 2 rfl, trivial⟩ ?_; refine LM.q 1 rfl (by kernel_rfl) (Ev.fieldAddr rfl rfl rfl rfl rfl rfl (Src.r 1 rfl) (Nat.zero_lt_succ _) rfl) rfl ⟨Has.o 0 rfl, Has.o 2 rfl, trivial⟩ ?_; refine LM.q 2 rfl (by kernel_rfl) (Ev.load rfl rfl rfl (Src.r 1 rfl) rfl) rfl ⟨Has.o 0 rfl, Has.o 2 rfl, trivial⟩ ?_; refine LM.f 3 rfl (by kernel_rfl) ⟨Has.o 0 rfl, Has.o 2 rfl, trivial⟩ ?_; refine L.storeA (j := 1) rfl rfl rfl rfl rfl (Nat.zero_lt_succ _) rfl rfl ?_
  refine L.nil (QE.m (by kernel_rfl) ?_)
  refine LM.cut [] (by kernel_rfl) ⟨Has.o 0 rfl, Has.o 2 rfl, trivial⟩ ?_; refine LM.f 4 rfl (by kernel_rfl) trivial ?_; refine Lpu rfl rfl ?_
  refine L.nil (QE.m (by kernel_rfl) ?_)
  refine LM.nil (by kernel_rfl) trivial ?_; refine QE.seq (C.ret (QE.tR (QE.bR (QE.tR (QE.bR ?_))))); refine QE.ret (js := [1, 2, 3, 4]) (hs := []) (vs := [_, _]) rfl ⟨⟨_, _, 0, _, rfl, rfl, Src.o 1 rfl, .inl ⟨rfl, by decide, _, rfl, rfl, rfl⟩⟩, rfl, trivial⟩ (by decide) ?_
  rw [← hinv, reachF_end (.inr hg16)]
  exact ⟨b, hb, hc, rfl, rfl, rfl⟩
 ·
  replace hg16 := b_eq hg16
  have hxw : want.length ≤ 1000000 := by omega
  refine L.yes rfl ?_; refine L.step (Ev.fieldAddr rfl rfl rfl rfl rfl rfl (Src.o 2 rfl) (Nat.zero_lt_succ _) rfl) rfl ?_; refine L.yes rfl ?_; refine L.step (Ev.load rfl rfl rfl (Src.o 2 rfl) rfl) rfl ?_; refine Lpu rfl rfl ?_; refine L.nil (QE.seq ?_)
  refine C.condB 19 rfl (fun hc19 => ?_) (fun hc19 => ?_)
  ·
   have hdn : (towN g sec want).done = true := by simpa using hc19
   refine C.seq ?_; refine C.regionM [Rd A3 [.int .i64 (g.size : Int), .slice b.D g.data.length b.cD, .slice b.W g.wear.length b.cW, .int .i64 g.limit, .slice b.E g.dead.length b.cE], Rd A8 [.int .i64 (towN g sec want).x.kind, .int .i64 (towN g sec want).x.sec, .int .i64 (towN g sec want).x.at_, .slice PO (towN g sec want).x.data.length pc, .bool (towN g sec want).done, .int .i64 (towN g sec want).e]] ⟨Has.o 0 rfl, Has.o 2 rfl, trivial⟩ ?_; refine LM.q 0 rfl (by kernel_rfl) (Ev.loadA rfl rfl rfl (Src.r 0 rfl) rfl rfl (by decide)) rfl ⟨Has.o 0 rfl, Has.o 2 rfl, trivial⟩ ?_; refine LM.q 1 rfl (by kernel_rfl) (Ev.fieldAddr rfl rfl rfl rfl rfl rfl (Src.r 1 rfl) (Nat.zero_lt_succ _) rfl) rfl ⟨Has.o 0 rfl, Has.o 2 rfl, trivial⟩ ?_; refine LM.q 2 rfl (by kernel_rfl) (Ev.load rfl rfl rfl (Src.r 1 rfl) rfl) rfl ⟨Has.o 0 rfl, Has.o 2 rfl, trivial⟩ ?_; refine LM.f 3 rfl (by kernel_rfl) ⟨Has.o 0 rfl, Has.o 2 rfl, trivial⟩ ?_; refine L.storeA (j := 1) rfl rfl rfl rfl rfl (Nat.zero_lt_succ _) rfl rfl ?_
   refine L.nil (QE.m (by kernel_rfl) ?_)
   refine LM.cut [] (by kernel_rfl) ⟨Has.o 0 rfl, Has.o 2 rfl, trivial⟩ ?_; refine LM.f 4 rfl (by kernel_rfl) trivial ?_; refine Lpu rfl rfl ?_
   refine L.nil (QE.m (by kernel_rfl) ?_)
   refine LM.nil (by kernel_rfl) trivial ?_; refine QE.seq (C.ret (QE.tR (QE.bR (QE.tR (QE.bR ?_))))); refine QE.ret (js := [1, 2, 3, 4]) (hs := []) (vs := [_, _]) rfl ⟨⟨_, _, 0, _, rfl, rfl, Src.o 1 rfl, .inl ⟨rfl, by decide, _, rfl, rfl, rfl⟩⟩, rfl, trivial⟩ (by decide) ?_
   rw [← hinv, reachF_end (.inl hdn)]
   exact ⟨b, hb, hc, rfl, rfl, rfl⟩
  ·
   have hnd : ¬((towN g sec want).done = true ∨ (towN g sec want).e ≠ 0) := by rintro (h | h); rw [h] at hc19; cases hc19; exact h hg16
   have hgo := tow_go hse hmw hnd
   have hE : checkE g (towN g sec want).x = 0 := by rw [hgo.2.1]; exact hgo.2.2
   have K := cutR_kept (x := (towN g sec want).x) ok hE (fun _ => 255)
   refine C.skip (QE.seq (C.region ?_)); refine L.step (Ev.loadA rfl rfl rfl (Src.o 0 rfl) rfl rfl (by decide)) rfl ?_; refine L.step (Ev.fieldAddr rfl rfl rfl rfl rfl rfl (Src.o 2 rfl) (Nat.zero_lt_succ _) rfl) rfl ?_; refine L.step (Ev.loadA rfl rfl rfl (Src.o 2 rfl) rfl rfl (by decide)) rfl ?_; refine L.callR (js := []) (js' := [0, 1, 2]) (do17C_c g b ok hb (towN g sec want).x PO pc (Nat.le_trans (towx_le hgo hxw) (by decide))) rfl rfl rfl (by decide) (Hq [1, 2, 3, 4, 0] rfl) rfl ?_
   rintro _ _ _ ⟨b', hb', rfl, rfl, rfl⟩
   refine L.norm (H' := [_, _, _]) [0, 1, 2] ⟨rfl, rfl, rfl, trivial⟩ (by decide) ?_; refine Lpu rfl rfl ?_; refine Lpu rfl rfl ?_; refine Lpu rfl rfl ?_; refine L.storeA (j := 0) rfl rfl rfl rfl rfl (Nat.zero_lt_succ _) rfl rfl ?_; refine L.nil ?_; refine QE.blkN ?_
   have hlt := tow_less hse hmw hnd
   obtain ⟨k, rfl⟩ : ∃ j, k = j + 1 := ⟨k - 1, by omega⟩
   rw [reachF_go hnd] at hinv
   refine QE.round (i := (k + 1, g, b)) ((k, cutR g (towN g sec want).x (fun _ => 255), b')) (by exact ⟨K.ok, hb'.1, hb'.2, K.s.trans hz, K.n.trans hn, by dsimp only; omega, hinv⟩) (by dsimp only; omega) (by exact Le.mk' (rs := [0, 1, 2, 3, 9]) (hs := [0, 1]) ⟨rfl, rfl, rfl, rfl, trivial⟩ ⟨rfl, rfl, rfl, rfl, rfl, trivial⟩ ⟨rfl, rfl, trivial⟩ (by decide))

set_option maxHeartbeats 1000000 in
theorem formatP_c (f : Fl) (a : Fa) (ok : f.Ok) (hh : a.hs.length = f.data.length) (y : Ly) (hcap : Caps f a) (s : List Int) (hs : s.length = 9) :
   Ctr X 23 [.agg (List.toArray [.int .i64 (f.size : Int), .slice a.D f.data.length a.cD, .slice a.W f.wear.length a.cW, .int .i64 f.limit, .slice a.E f.dead.length a.cE]), .agg (List.toArray [.int .i64 y.n, .int .i64 y.a, .int .i64 y.b, .int .i64 y.s0, .int .i64 y.s1, .slice y.T y.tn y.tc, .slice y.U y.un y.uc, .slice y.V y.vn y.vc]), .agg (List.toArray (st9 s))] [Rd a.D (rowsV a.hs (B8 f.data)), KidsR a.hs (B8 f.data), Rd a.W (I64 f.wear), Rd a.E (Bs f.dead)] [] (fun v R' H' => ∃ b : Fa, b.hs.length = (formatF f y.a y.b s).1.data.length ∧ Caps (formatF f y.a y.b s).1 b ∧ v = .tuple #[flV (formatF f y.a y.b s).1 b, .int .i64 (formatF f y.a y.b s).2] ∧ R' = flR (formatF f y.a y.b s).1 b ∧ H' = []) := by
 have hok := ok
 obtain ⟨os1, os2, on1, on2, owl, odl, orows, ol1, ol2, owear⟩ := ok
 refine Ctr.of (X := X) (fn := Try.f23) Try.func23 rfl (by kernel_rfl) rfl ?_
 intro β
 refine C.seq (C.region ?_)
 refine L.boxA rfl rfl (fun A3 => ?_)
 refine L.boxA rfl rfl (fun A4 => ?_)
 refine L.boxA rfl rfl (fun A5 => ?_)
 refine L.alloc rfl rfl rfl (fun A6 => ?_)
 refine Lpu rfl rfl ?_; refine L.nil (QE.seq (C.seq ?_)); refine C.freeze 1 rfl [0, 2, 3] (by decide) (by decide) ?_; refine C.norm (H' := [_, _, _]) [0, 1, 2] ⟨rfl, rfl, rfl, trivial⟩ (by decide) ?_; refine C.freeze 1 rfl [0, 2] (by decide) (by decide) ?_; refine C.norm (H' := [_, _]) [0, 1] ⟨rfl, rfl, trivial⟩ (by decide) ?_; refine C.region ?_; refine L.step (Ev.loadA rfl rfl rfl (Src.r 0 rfl) rfl rfl (by decide)) rfl ?_; refine L.call (js := []) (js' := [0, 1]) (slotP_c s hs) rfl rfl rfl (by decide) trivial rfl ?_
 rintro _ _ _ ⟨SO, sc, rfl, hsome, rfl, rfl⟩
 refine L.norm (H' := [_, _, _]) [0, 1, 2] ⟨rfl, rfl, rfl, trivial⟩ (by decide) ?_; refine Lpu rfl rfl ?_; refine L.nil (QE.seq (C.seq (C.seq (C.region ?_)))); refine L.step (Ev.loadA rfl rfl rfl (Src.o 1 rfl) rfl rfl (by decide)) rfl ?_; refine L.step (Ev.loadA rfl rfl rfl (Src.r 1 rfl) rfl rfl (by decide)) rfl ?_; refine L.call (js := []) (js' := [0, 1, 2]) (fitsP_c f a hok hh y) rfl rfl rfl (by decide) (Hq [2, 3, 4, 5] rfl) rfl ?_
 rintro _ _ _ ⟨rfl, rfl, rfl⟩
 refine L.norm (H' := [_, _, _]) [0, 1, 2] ⟨rfl, rfl, rfl, trivial⟩ (by decide) ?_; refine Lpu rfl rfl ?_; refine Lpu rfl rfl ?_
 refine L.bool 16 rfl (fun hg16 => ?_) (fun hg16 => ?_)
 ·
  have hno : fitsF f y.a y.b = false := by simpa using hg16
  refine L.no rfl rfl rfl ?_; refine L.no rfl rfl rfl ?_; refine Lpu rfl rfl ?_; refine L.nil (QE.seq ?_)
  refine C.cond rfl (fun _ => ?_) (fun h => by cases h)
  refine C.seq (C.region ?_); refine L.step (Ev.build rfl rfl rfl rfl rfl rfl rfl) rfl ?_; refine L.storeA (j := 2) rfl rfl rfl rfl rfl (Nat.zero_lt_succ _) rfl rfl ?_; refine Lpu rfl rfl ?_; refine L.nil (QE.seq (C.ret (QE.tR ?_))); refine QE.more (r := Rd none []) Has.nil ?_; refine QE.more (r := KidsR [] []) Has.kids0 ?_; refine QE.ret (js := [1, 0, 1, 1]) (hs := []) (vs := [_, _]) rfl ⟨⟨_, _, 0, _, rfl, rfl, Src.o 2 rfl, .inl ⟨rfl, by decide, _, rfl, rfl, rfl⟩⟩, rfl, trivial⟩ (by decide) ?_
  rw [formatF_1 (.inl hno)]
  exact ⟨az, rfl, fun i hi => absurd hi (Nat.not_lt_zero _), rfl, rfl, rfl⟩
 ·
  have hfits : fitsF f y.a y.b = true := by simpa using hg16
  refine L.yes rfl ?_; refine Lpu rfl rfl ?_; refine L.yes rfl ?_; refine L.step (Ev.eqNil rfl rfl rfl rfl) rfl ?_; refine Lpu rfl rfl ?_; refine L.nil (QE.seq ?_)
  refine C.condB 19 rfl (fun hc19 => ?_) (fun hc19 => ?_)
  ·
   have hno : rightS s = false := by rw [← hsome]; cases SO with | none => rfl | some _ => cases hc19
   refine C.seq (C.region ?_); refine L.step (Ev.build rfl rfl rfl rfl rfl rfl rfl) rfl ?_; refine L.storeA (j := 2) rfl rfl rfl rfl rfl (Nat.zero_lt_succ _) rfl rfl ?_; refine Lpu rfl rfl ?_; refine L.nil (QE.seq (C.ret (QE.tR ?_))); refine QE.more (r := Rd none []) Has.nil ?_; refine QE.more (r := KidsR [] []) Has.kids0 ?_; refine QE.ret (js := [1, 0, 1, 1]) (hs := []) (vs := [_, _]) rfl ⟨⟨_, _, 0, _, rfl, rfl, Src.o 2 rfl, .inl ⟨rfl, by decide, _, rfl, rfl, rfl⟩⟩, rfl, trivial⟩ (by decide) ?_
   rw [formatF_1 (.inr hno)]
   exact ⟨az, rfl, fun i hi => absurd hi (Nat.not_lt_zero _), rfl, rfl, rfl⟩
  ·
   have hright : rightS s = true := by rw [← hsome]; cases SO with | none => cases hc19 | some _ => rfl
   have hft := fitsF_ok hfits
   have hfit : 8 + (slotF s).length ≤ f.size := slot_fit hft.2.2.2.2.2
   have hk := reachF_kept (sec := y.a) (want := (contF f.size 1 (slotF s))) 3 f hok ⟨hft.2.1, hft.2.2.2.1⟩ (contF_len hfit)
   refine C.skip (QE.seq (C.seq ?_)); refine C.freeze 0 rfl [1, 2] (by decide) (by decide) ?_; refine C.norm (H' := [_, _]) [0, 1] ⟨rfl, rfl, trivial⟩ (by decide) ?_; refine C.regionM [Rd SO (U8 (slotF s)), Rd A5 (st9 s), Rd A4 [.int .i64 y.n, .int .i64 y.a, .int .i64 y.b, .int .i64 y.s0, .int .i64 y.s1, .slice y.T y.tn y.tc, .slice y.U y.un y.uc, .slice y.V y.vn y.vc], Rd a.D (rowsV a.hs (B8 f.data)), KidsR a.hs (B8 f.data), Rd a.W (I64 f.wear), Rd a.E (Bs f.dead), Rd A3 [.int .i64 (f.size : Int), .slice a.D f.data.length a.cD, .slice a.W f.wear.length a.cW, .int .i64 f.limit, .slice a.E f.dead.length a.cE]] ⟨Has.r 0 rfl, Has.r 1 rfl, Has.r 2 rfl, Has.r 3 rfl, Has.r 4 rfl, Has.r 5 rfl, Has.r 6 rfl, Has.o 0 rfl, trivial⟩ ?_; refine LM.q 0 rfl (by kernel_rfl) (Ev.loadA rfl rfl rfl (Src.r 7 rfl) rfl rfl (by decide)) rfl ⟨Has.r 0 rfl, Has.r 1 rfl, Has.r 2 rfl, Has.r 3 rfl, Has.r 4 rfl, Has.r 5 rfl, Has.r 6 rfl, Has.o 0 rfl, trivial⟩ ?_; refine LM.q 1 rfl (by kernel_rfl) (Ev.fieldAddr rfl rfl rfl rfl rfl rfl (Src.r 2 rfl) (Nat.zero_lt_succ _) rfl) rfl ⟨Has.r 0 rfl, Has.r 1 rfl, Has.r 2 rfl, Has.r 3 rfl, Has.r 4 rfl, Has.r 5 rfl, Has.r 6 rfl, Has.o 0 rfl, trivial⟩ ?_; refine LM.q 2 rfl (by kernel_rfl) (Ev.idxArr (k := 0) (m := 1) rfl rfl rfl rfl rfl rfl (by decide) (Src.r 2 rfl) (by exact Nat.zero_lt_succ _) rfl) rfl ⟨Has.r 0 rfl, Has.r 1 rfl, Has.r 2 rfl, Has.r 3 rfl, Has.r 4 rfl, Has.r 5 rfl, Has.r 6 rfl, Has.o 0 rfl, trivial⟩ ?_; refine LM.q 3 rfl (by kernel_rfl) (Ev.load rfl rfl rfl (Src.r 2 rfl) rfl) rfl ⟨Has.r 0 rfl, Has.r 1 rfl, Has.r 2 rfl, Has.r 3 rfl, Has.r 4 rfl, Has.r 5 rfl, Has.r 6 rfl, Has.o 0 rfl, trivial⟩ ?_; refine LM.q 4 rfl (by kernel_rfl) (Ev.fieldAddr rfl rfl rfl rfl rfl rfl (Src.r 7 rfl) (Nat.zero_lt_succ _) rfl) rfl ⟨Has.r 0 rfl, Has.r 1 rfl, Has.r 2 rfl, Has.r 3 rfl, Has.r 4 rfl, Has.r 5 rfl, Has.r 6 rfl, Has.o 0 rfl, trivial⟩ ?_; refine LM.q 5 rfl (by kernel_rfl) (Ev.load rfl rfl rfl (Src.r 7 rfl) rfl) rfl ⟨Has.r 0 rfl, Has.r 1 rfl, Has.r 2 rfl, Has.r 3 rfl, Has.r 4 rfl, Has.r 5 rfl, Has.r 6 rfl, Has.o 0 rfl, trivial⟩ ?_; refine LM.q 6 rfl (by kernel_rfl) (Ev.pure rfl) rfl ⟨Has.r 0 rfl, Has.r 1 rfl, Has.r 2 rfl, Has.r 3 rfl, Has.r 4 rfl, Has.r 5 rfl, Has.r 6 rfl, Has.o 0 rfl, trivial⟩ ?_; refine LM.f 7 rfl (by kernel_rfl) ⟨Has.r 0 rfl, Has.r 1 rfl, Has.r 2 rfl, Has.r 3 rfl, Has.r 4 rfl, Has.r 5 rfl, Has.r 6 rfl, Has.o 0 rfl, trivial⟩ ?_; refine L.call (js := []) (js' := [0, 1]) (contP_c f.size 1 SO sc (slotF s) os2 hfit) rfl rfl rfl (by decide) (Hq [0] rfl) rfl ?_
   rintro _ _ _ ⟨WO, wc, rfl, rfl, rfl⟩
   refine L.norm (H' := [_, _, _]) [0, 1, 2] ⟨rfl, rfl, rfl, trivial⟩ (by decide) ?_
   refine L.nil (QE.m (by kernel_rfl) ?_)
   refine LM.f 8 rfl (by kernel_rfl) ⟨Has.r 0 rfl, Has.r 1 rfl, Has.r 2 rfl, Has.r 3 rfl, Has.r 4 rfl, Has.r 5 rfl, Has.r 6 rfl, Has.o 1 rfl, trivial⟩ ?_; refine L.freeze 0 rfl [1, 2] (by decide) (by decide) ?_; refine L.norm (H' := [_, _]) [0, 1] ⟨rfl, rfl, trivial⟩ (by decide) ?_; refine L.callR (js := []) (js' := [0, 1]) (reachP_c f a hok hh hcap y.a (contF f.size 1 (slotF s)) WO f.size f.size (contF_len hfit) rfl ⟨hft.2.1, hft.2.2.2.1⟩) rfl rfl rfl (by decide) (Hq [4, 5, 6, 7, 0] rfl) rfl ?_
   rintro _ _ _ ⟨b, hb, hbc, rfl, rfl, rfl⟩
   refine L.norm (H' := [_, _]) [0, 1] ⟨rfl, rfl, trivial⟩ (by decide) ?_
   refine L.nil (QE.m (by kernel_rfl) ?_)
   refine LM.cut [] (by kernel_rfl) ⟨Has.r 5 rfl, Has.r 6 rfl, Has.r 7 rfl, Has.r 8 rfl, Has.r 9 rfl, Has.r 10 rfl, Has.r 11 rfl, Has.o 0 rfl, trivial⟩ ?_; refine LM.q 9 rfl (by kernel_rfl) (Ev.pure rfl) rfl trivial ?_; refine LM.q 10 rfl (by kernel_rfl) (Ev.pure rfl) rfl trivial ?_; refine LM.q 11 rfl (by kernel_rfl) (Ev.pure rfl) rfl trivial ?_; refine LM.f 12 rfl (by kernel_rfl) trivial ?_; refine L.storeA (j := 0) rfl rfl rfl rfl rfl (Nat.zero_lt_succ _) rfl rfl ?_
   refine L.nil (QE.m (by kernel_rfl) ?_)
   refine LM.f 13 rfl (by kernel_rfl) trivial ?_; refine Lpu rfl rfl ?_
   refine L.nil (QE.m (by kernel_rfl) ?_)
   refine LM.nil (by kernel_rfl) trivial ?_; refine QE.seq (C.seq (C.seq (C.region ?_))); refine Lpu rfl rfl ?_; refine Lpu rfl rfl ?_; refine L.nil (QE.seq ?_)
   refine C.condB 34 rfl (fun hc34 => ?_) (fun hc34 => ?_)
   ·
    replace hc34 := i_eq hc34
    have he1 : (reachF y.a (contF f.size 1 (slotF s)) 3 f).2 = 0 := hc34
    have hr1 : (reachF y.a (contF f.size 1 (slotF s)) 3 f) = ((reachF y.a (contF f.size 1 (slotF s)) 3 f).1, 0) := Prod.ext rfl he1
    refine C.regionM [Rd b.D (rowsV b.hs (B8 (reachF y.a (contF f.size 1 (slotF s)) 3 f).1.data)), KidsR b.hs (B8 (reachF y.a (contF f.size 1 (slotF s)) 3 f).1.data), Rd b.W (I64 (reachF y.a (contF f.size 1 (slotF s)) 3 f).1.wear), Rd b.E (Bs (reachF y.a (contF f.size 1 (slotF s)) 3 f).1.dead), Rd WO (U8 (contF f.size 1 (slotF s))), Rd SO (U8 (slotF s)), Rd A5 (st9 s), Rd A4 [.int .i64 y.n, .int .i64 y.a, .int .i64 y.b, .int .i64 y.s0, .int .i64 y.s1, .slice y.T y.tn y.tc, .slice y.U y.un y.uc, .slice y.V y.vn y.vc], Rd a.D (rowsV a.hs (B8 f.data)), KidsR a.hs (B8 f.data), Rd a.W (I64 f.wear), Rd a.E (Bs f.dead), Rd A3 [.int .i64 ((reachF y.a (contF f.size 1 (slotF s)) 3 f).1.size : Int), .slice b.D (reachF y.a (contF f.size 1 (slotF s)) 3 f).1.data.length b.cD, .slice b.W (reachF y.a (contF f.size 1 (slotF s)) 3 f).1.wear.length b.cW, .int .i64 (reachF y.a (contF f.size 1 (slotF s)) 3 f).1.limit, .slice b.E (reachF y.a (contF f.size 1 (slotF s)) 3 f).1.dead.length b.cE]] ⟨Has.r 0 rfl, Has.r 1 rfl, Has.r 2 rfl, Has.r 3 rfl, Has.r 4 rfl, Has.r 5 rfl, Has.r 6 rfl, Has.r 7 rfl, Has.r 8 rfl, Has.r 9 rfl, Has.r 10 rfl, Has.r 11 rfl, Has.o 0 rfl, trivial⟩ ?_; refine LM.q 0 rfl (by kernel_rfl) (Ev.loadA rfl rfl rfl (Src.r 12 rfl) rfl rfl (by decide)) rfl ⟨Has.r 0 rfl, Has.r 1 rfl, Has.r 2 rfl, Has.r 3 rfl, Has.r 4 rfl, Has.r 5 rfl, Has.r 6 rfl, Has.r 7 rfl, Has.r 8 rfl, Has.r 9 rfl, Has.r 10 rfl, Has.r 11 rfl, Has.o 0 rfl, trivial⟩ ?_; refine LM.q 1 rfl (by kernel_rfl) (Ev.fieldAddr rfl rfl rfl rfl rfl rfl (Src.r 7 rfl) (Nat.zero_lt_succ _) rfl) rfl ⟨Has.r 0 rfl, Has.r 1 rfl, Has.r 2 rfl, Has.r 3 rfl, Has.r 4 rfl, Has.r 5 rfl, Has.r 6 rfl, Has.r 7 rfl, Has.r 8 rfl, Has.r 9 rfl, Has.r 10 rfl, Has.r 11 rfl, Has.o 0 rfl, trivial⟩ ?_; refine LM.q 2 rfl (by kernel_rfl) (Ev.idxArr (k := 1) (m := 2) rfl rfl rfl rfl rfl rfl (by decide) (Src.r 7 rfl) (by exact Nat.zero_lt_succ _) rfl) rfl ⟨Has.r 0 rfl, Has.r 1 rfl, Has.r 2 rfl, Has.r 3 rfl, Has.r 4 rfl, Has.r 5 rfl, Has.r 6 rfl, Has.r 7 rfl, Has.r 8 rfl, Has.r 9 rfl, Has.r 10 rfl, Has.r 11 rfl, Has.o 0 rfl, trivial⟩ ?_; refine LM.q 3 rfl (by kernel_rfl) (Ev.load rfl rfl rfl (Src.r 7 rfl) rfl) rfl ⟨Has.r 0 rfl, Has.r 1 rfl, Has.r 2 rfl, Has.r 3 rfl, Has.r 4 rfl, Has.r 5 rfl, Has.r 6 rfl, Has.r 7 rfl, Has.r 8 rfl, Has.r 9 rfl, Has.r 10 rfl, Has.r 11 rfl, Has.o 0 rfl, trivial⟩ ?_; refine LM.q 4 rfl (by kernel_rfl) (Ev.fieldAddr rfl rfl rfl rfl rfl rfl (Src.r 12 rfl) (Nat.zero_lt_succ _) rfl) rfl ⟨Has.r 0 rfl, Has.r 1 rfl, Has.r 2 rfl, Has.r 3 rfl, Has.r 4 rfl, Has.r 5 rfl, Has.r 6 rfl, Has.r 7 rfl, Has.r 8 rfl, Has.r 9 rfl, Has.r 10 rfl, Has.r 11 rfl, Has.o 0 rfl, trivial⟩ ?_; refine LM.q 5 rfl (by kernel_rfl) (Ev.cast (u := .int .i64 (f.size : Int)) (Ev.load rfl rfl rfl (Src.r 12 rfl) rfl) (by rw [hk.2.1])) rfl ⟨Has.r 0 rfl, Has.r 1 rfl, Has.r 2 rfl, Has.r 3 rfl, Has.r 4 rfl, Has.r 5 rfl, Has.r 6 rfl, Has.r 7 rfl, Has.r 8 rfl, Has.r 9 rfl, Has.r 10 rfl, Has.r 11 rfl, Has.o 0 rfl, trivial⟩ ?_; refine LM.f 6 rfl (by kernel_rfl) ⟨Has.r 0 rfl, Has.r 1 rfl, Has.r 2 rfl, Has.r 3 rfl, Has.r 4 rfl, Has.r 5 rfl, Has.r 6 rfl, Has.r 7 rfl, Has.r 8 rfl, Has.r 9 rfl, Has.r 10 rfl, Has.r 11 rfl, Has.o 0 rfl, trivial⟩ ?_; refine L.call (js := []) (js' := [0, 1]) (contP_c f.size 0 none 0 [] os2 (by simp; omega)) rfl rfl rfl (by decide) ⟨Has.nil, trivial⟩ rfl ?_
    rintro _ _ _ ⟨QO, qc, rfl, rfl, rfl⟩
    refine L.norm (H' := [_, _, _]) [0, 1, 2] ⟨rfl, rfl, rfl, trivial⟩ (by decide) ?_
    refine L.nil (QE.m (by kernel_rfl) ?_)
    refine LM.f 7 rfl (by kernel_rfl) ⟨Has.r 0 rfl, Has.r 1 rfl, Has.r 2 rfl, Has.r 3 rfl, Has.r 4 rfl, Has.r 5 rfl, Has.r 6 rfl, Has.r 7 rfl, Has.r 8 rfl, Has.r 9 rfl, Has.r 10 rfl, Has.r 11 rfl, Has.o 1 rfl, trivial⟩ ?_; refine L.freeze 0 rfl [1, 2] (by decide) (by decide) ?_; refine L.norm (H' := [_, _]) [0, 1] ⟨rfl, rfl, trivial⟩ (by decide) ?_; refine L.callR (js := []) (js' := [0, 1]) (reachP_c (reachF y.a (contF f.size 1 (slotF s)) 3 f).1 b hk.1 hb hbc y.b (contF f.size 0 []) QO f.size f.size (contF_len (slot := []) (by simp; omega)) hk.2.1.symm ⟨by omega, by rw [hk.2.2]; omega⟩) rfl rfl rfl (by decide) (Hq [1, 2, 3, 4, 0] rfl) rfl ?_
    rintro _ _ _ ⟨b2, hb2, hbc2, rfl, rfl, rfl⟩
    refine L.norm (H' := [_, _]) [0, 1] ⟨rfl, rfl, trivial⟩ (by decide) ?_
    refine L.nil (QE.m (by kernel_rfl) ?_)
    refine LM.cut [] (by kernel_rfl) ⟨Has.r 5 rfl, Has.r 6 rfl, Has.r 7 rfl, Has.r 8 rfl, Has.r 9 rfl, Has.r 10 rfl, Has.r 11 rfl, Has.r 12 rfl, Has.r 13 rfl, Has.r 14 rfl, Has.r 15 rfl, Has.r 16 rfl, Has.o 0 rfl, trivial⟩ ?_; refine LM.q 8 rfl (by kernel_rfl) (Ev.pure rfl) rfl trivial ?_; refine LM.q 9 rfl (by kernel_rfl) (Ev.pure rfl) rfl trivial ?_; refine LM.q 10 rfl (by kernel_rfl) (Ev.pure rfl) rfl trivial ?_; refine LM.f 11 rfl (by kernel_rfl) trivial ?_; refine L.storeA (j := 0) rfl rfl rfl rfl rfl (Nat.zero_lt_succ _) rfl rfl ?_
    refine L.nil (QE.m (by kernel_rfl) ?_)
    refine LM.f 12 rfl (by kernel_rfl) trivial ?_; refine Lpu rfl rfl ?_
    refine L.nil (QE.m (by kernel_rfl) ?_)
    refine LM.nil (by kernel_rfl) trivial ?_; refine QE.seq (C.seq (C.seq (C.region ?_))); refine Lpu rfl rfl ?_; refine Lpu rfl rfl ?_; refine L.nil (QE.seq ?_)
    refine C.condB 47 rfl (fun hc47 => ?_) (fun hc47 => ?_)
    ·
     replace hc47 := b_ne hc47
     have he2 : (reachF y.b (contF f.size 0 []) 3 (reachF y.a (contF f.size 1 (slotF s)) 3 f).1).2 ≠ 0 := hc47
     refine C.seq (C.region ?_); refine L.step (Ev.build rfl rfl rfl rfl rfl rfl rfl) rfl ?_; refine Lpu rfl rfl ?_; refine L.storeA (j := 1) rfl rfl rfl rfl rfl (Nat.zero_lt_succ _) rfl rfl ?_; refine Lpu rfl rfl ?_; refine L.nil (QE.seq (C.ret (QE.tR ?_))); refine QE.more (r := Rd none []) Has.nil ?_; refine QE.more (r := KidsR [] []) Has.kids0 ?_; refine QE.ret (js := [1, 0, 1, 1]) (hs := []) (vs := [_, _]) rfl ⟨⟨_, _, 0, _, rfl, rfl, Src.o 1 rfl, .inl ⟨rfl, by decide, _, rfl, rfl, rfl⟩⟩, rfl, trivial⟩ (by decide) ?_
     rw [formatF_3 hfits hright hr1 rfl he2]
     exact ⟨az, rfl, fun i hi => absurd hi (Nat.not_lt_zero _), rfl, rfl, rfl⟩
    ·
     replace hc47 := b_eq hc47
     have he2 : (reachF y.b (contF f.size 0 []) 3 (reachF y.a (contF f.size 1 (slotF s)) 3 f).1).2 = 0 := hc47
     have hr2 : (reachF y.b (contF f.size 0 []) 3 (reachF y.a (contF f.size 1 (slotF s)) 3 f).1) = ((reachF y.b (contF f.size 0 []) 3 (reachF y.a (contF f.size 1 (slotF s)) 3 f).1).1, 0) := Prod.ext rfl he2
     refine C.skip (QE.seq (C.seq (C.region ?_))); refine L.step (Ev.loadA rfl rfl rfl (Src.o 0 rfl) rfl rfl (by decide)) rfl ?_; refine L.storeA (j := 1) rfl rfl rfl rfl rfl (Nat.zero_lt_succ _) rfl rfl ?_; refine Lpu rfl rfl ?_; refine L.nil (QE.seq (C.ret ?_)); refine QE.ret (js := [0, 1, 2, 3]) (hs := []) (vs := [_, _]) rfl ⟨⟨_, _, 0, _, rfl, rfl, Src.o 1 rfl, .inl ⟨rfl, by decide, _, rfl, rfl, rfl⟩⟩, rfl, trivial⟩ (by decide) ?_
     rw [formatF_4 hfits hright hr1 hr2]
     exact ⟨b2, hb2, hbc2, rfl, rfl, rfl⟩
   ·
    replace hc34 := i_ne hc34
    have he1 : (reachF y.a (contF f.size 1 (slotF s)) 3 f).2 ≠ 0 := hc34
    refine C.skip (QE.seq (C.seq (C.seq (C.region ?_)))); refine Lpu rfl rfl ?_; refine Lpu rfl rfl ?_; refine L.nil (QE.seq ?_)
    refine C.condB 47 rfl (fun hc47 => ?_) (fun hc47 => ?_)
    ·
     replace hc47 := b_ne hc47
     refine C.seq (C.region ?_); refine L.step (Ev.build rfl rfl rfl rfl rfl rfl rfl) rfl ?_; refine Lpu rfl rfl ?_; refine L.storeA (j := 1) rfl rfl rfl rfl rfl (Nat.zero_lt_succ _) rfl rfl ?_; refine Lpu rfl rfl ?_; refine L.nil (QE.seq (C.ret (QE.tR ?_))); refine QE.more (r := Rd none []) Has.nil ?_; refine QE.more (r := KidsR [] []) Has.kids0 ?_; refine QE.ret (js := [1, 0, 1, 1]) (hs := []) (vs := [_, _]) rfl ⟨⟨_, _, 0, _, rfl, rfl, Src.o 1 rfl, .inl ⟨rfl, by decide, _, rfl, rfl, rfl⟩⟩, rfl, trivial⟩ (by decide) ?_
     rw [formatF_2 hfits hright rfl he1]
     exact ⟨az, rfl, fun i hi => absurd hi (Nat.not_lt_zero _), rfl, rfl, rfl⟩
    ·
     replace hc47 := b_eq hc47
     exact absurd hc47 he1

set_option maxHeartbeats 1000000 in
theorem formatR_c (f : Fl) (a : Fa) (ok : f.Ok) (hh : a.hs.length = f.data.length) (y : Ly) (hcap : Caps f a) (s : List Int) (_hs : s.length = 9) :
   Ctr X 24 [.agg (List.toArray [.int .i64 (f.size : Int), .slice a.D f.data.length a.cD, .slice a.W f.wear.length a.cW, .int .i64 f.limit, .slice a.E f.dead.length a.cE]), .agg (List.toArray [.int .i64 y.n, .int .i64 y.a, .int .i64 y.b, .int .i64 y.s0, .int .i64 y.s1, .slice y.T y.tn y.tc, .slice y.U y.un y.uc, .slice y.V y.vn y.vc]), .agg (List.toArray (st9 s))] [Rd a.D (rowsV a.hs (B8 f.data)), KidsR a.hs (B8 f.data), Rd a.W (I64 f.wear), Rd a.E (Bs f.dead)] [] (fun v R' H' => ∃ b : Fa, b.hs.length = (formatF f y.a y.b s).1.data.length ∧ Caps (formatF f y.a y.b s).1 b ∧ v = .tuple #[flV (formatF f y.a y.b s).1 b, .int .i64 (formatF f y.a y.b s).2] ∧ R' = flR (formatF f y.a y.b s).1 b ∧ H' = []) := by
 have hok := ok
 obtain ⟨os1, os2, on1, on2, owl, odl, orows, ol1, ol2, owear⟩ := ok
 refine Ctr.of (X := X) (fn := Try.f24) Try.func24 rfl (by kernel_rfl) rfl ?_
 intro β
 refine C.seq (C.region ?_)
 refine L.boxA rfl rfl (fun A3 => ?_)
 refine L.boxA rfl rfl (fun A4 => ?_)
 refine L.boxA rfl rfl (fun A5 => ?_)
 refine L.alloc rfl rfl rfl (fun A6 => ?_)
 refine Lpu rfl rfl ?_; refine L.nil (QE.seq (C.seq (C.seq ?_))); refine C.freeze 0 rfl [1, 2, 3] (by decide) (by decide) ?_; refine C.norm (H' := [_, _, _]) [0, 1, 2] ⟨rfl, rfl, rfl, trivial⟩ (by decide) ?_; refine C.freeze 0 rfl [1, 2] (by decide) (by decide) ?_; refine C.norm (H' := [_, _]) [0, 1] ⟨rfl, rfl, trivial⟩ (by decide) ?_; refine C.freeze 0 rfl [1] (by decide) (by decide) ?_; refine C.norm (H' := [_]) [0] ⟨rfl, trivial⟩ (by decide) ?_; refine C.region ?_; refine L.step (Ev.loadA rfl rfl rfl (Src.r 2 rfl) rfl rfl (by decide)) rfl ?_; refine L.step (Ev.loadA rfl rfl rfl (Src.r 1 rfl) rfl rfl (by decide)) rfl ?_; refine L.call (js := []) (js' := [0]) (fitsR_c f a hok hh y) rfl rfl rfl (by decide) (Hq [3, 4, 5, 6] rfl) rfl ?_
 rintro _ _ _ ⟨rfl, rfl, rfl⟩
 refine L.norm (H' := [_]) [0] ⟨rfl, trivial⟩ (by decide) ?_; refine Lpu rfl rfl ?_; refine Lpu rfl rfl ?_
 refine L.bool 15 rfl (fun hg15 => ?_) (fun hg15 => ?_)
 ·
  have hno : fitsF f y.a y.b = false := by simpa using hg15
  refine L.no rfl rfl rfl ?_; refine L.no rfl rfl rfl ?_; refine L.no rfl rfl rfl ?_; refine Lpu rfl rfl ?_; refine L.nil (QE.seq ?_)
  refine C.cond rfl (fun _ => ?_) (fun h => by cases h)
  refine C.seq (C.region ?_); refine L.step (Ev.build rfl rfl rfl rfl rfl rfl rfl) rfl ?_; refine L.storeA (j := 0) rfl rfl rfl rfl rfl (Nat.zero_lt_succ _) rfl rfl ?_; refine Lpu rfl rfl ?_; refine L.nil (QE.seq (C.ret (QE.tR ?_))); refine QE.more (r := Rd none []) Has.nil ?_; refine QE.more (r := KidsR [] []) Has.kids0 ?_; refine QE.ret (js := [1, 0, 1, 1]) (hs := []) (vs := [_, _]) rfl ⟨⟨_, _, 0, _, rfl, rfl, Src.o 0 rfl, .inl ⟨rfl, by decide, _, rfl, rfl, rfl⟩⟩, rfl, trivial⟩ (by decide) ?_
  rw [formatF_1 (.inl hno)]
  exact ⟨az, rfl, fun i hi => absurd hi (Nat.not_lt_zero _), rfl, rfl, rfl⟩
 ·
  have hfits : fitsF f y.a y.b = true := by simpa using hg15
  refine L.yes rfl ?_; refine L.step (Ev.loadA rfl rfl rfl (Src.r 0 rfl) rfl rfl (by decide)) rfl ?_; refine L.yes rfl ?_; refine L.call (js := []) (js' := [0]) (rightR_c s) rfl rfl rfl (by decide) trivial rfl ?_
  rintro _ _ _ ⟨rfl, rfl, rfl⟩
  refine L.norm (H' := [_]) [0] ⟨rfl, trivial⟩ (by decide) ?_; refine L.yes rfl ?_; refine Lpu rfl rfl ?_; refine Lpu rfl rfl ?_; refine L.nil (QE.seq ?_)
  refine C.condB 19 rfl (fun hc19 => ?_) (fun hc19 => ?_)
  ·
   have hno : rightS s = false := by simpa using hc19
   refine C.seq (C.region ?_); refine L.step (Ev.build rfl rfl rfl rfl rfl rfl rfl) rfl ?_; refine L.storeA (j := 0) rfl rfl rfl rfl rfl (Nat.zero_lt_succ _) rfl rfl ?_; refine Lpu rfl rfl ?_; refine L.nil (QE.seq (C.ret (QE.tR ?_))); refine QE.more (r := Rd none []) Has.nil ?_; refine QE.more (r := KidsR [] []) Has.kids0 ?_; refine QE.ret (js := [1, 0, 1, 1]) (hs := []) (vs := [_, _]) rfl ⟨⟨_, _, 0, _, rfl, rfl, Src.o 0 rfl, .inl ⟨rfl, by decide, _, rfl, rfl, rfl⟩⟩, rfl, trivial⟩ (by decide) ?_
   rw [formatF_1 (.inr hno)]
   exact ⟨az, rfl, fun i hi => absurd hi (Nat.not_lt_zero _), rfl, rfl, rfl⟩
  ·
   have hright : rightS s = true := by simpa using hc19
   have hft := fitsF_ok hfits
   have hfit : 8 + (slotF s).length ≤ f.size := slot_fit hft.2.2.2.2.2
   have hk := reachF_kept (sec := y.a) (want := (contF f.size 1 (slotF s))) 3 f hok ⟨hft.2.1, hft.2.2.2.1⟩ (contF_len hfit)
   refine C.skip (QE.seq (C.seq ?_)); refine C.join (fun q : Fa × Option Addr => [(3, ptrOf A3 0), (4, ptrOf A4 0), (6, ptrOf A6 0), (8, ptrOf q.2 0), (9, .int .i64 (reachF y.a (contF f.size 1 (slotF s)) 3 f).2)]) (fun q : Fa × Option Addr => [Rd q.1.D (rowsV q.1.hs (B8 (reachF y.a (contF f.size 1 (slotF s)) 3 f).1.data)), KidsR q.1.hs (B8 (reachF y.a (contF f.size 1 (slotF s)) 3 f).1.data), Rd q.1.W (I64 (reachF y.a (contF f.size 1 (slotF s)) 3 f).1.wear), Rd q.1.E (Bs (reachF y.a (contF f.size 1 (slotF s)) 3 f).1.dead), Rd A3 [.int .i64 (f.size : Int), .slice a.D f.data.length a.cD, .slice a.W f.wear.length a.cW, .int .i64 f.limit, .slice a.E f.dead.length a.cE], Rd A4 [.int .i64 y.n, .int .i64 y.a, .int .i64 y.b, .int .i64 y.s0, .int .i64 y.s1, .slice y.T y.tn y.tc, .slice y.U y.un y.uc, .slice y.V y.vn y.vc]]) (fun q : Fa × Option Addr => [Own 35 5 A6 1 1 [.int .i64 0, .slice none 0 0, .slice none 0 0, .int .i64 0, .slice none 0 0], Own 35 5 q.2 1 1 [.int .i64 ((reachF y.a (contF f.size 1 (slotF s)) 3 f).1.size : Int), .slice q.1.D (reachF y.a (contF f.size 1 (slotF s)) 3 f).1.data.length q.1.cD, .slice q.1.W (reachF y.a (contF f.size 1 (slotF s)) 3 f).1.wear.length q.1.cW, .int .i64 (reachF y.a (contF f.size 1 (slotF s)) 3 f).1.limit, .slice q.1.E (reachF y.a (contF f.size 1 (slotF s)) 3 f).1.dead.length q.1.cE]]) (fun q : Fa × Option Addr => q.1.hs.length = (reachF y.a (contF f.size 1 (slotF s)) 3 f).1.data.length ∧ Caps (reachF y.a (contF f.size 1 (slotF s)) 3 f).1 q.1) ?_ ?_
   ·
    refine C.regionM [Rd A5 (st9 s), Rd A4 [.int .i64 y.n, .int .i64 y.a, .int .i64 y.b, .int .i64 y.s0, .int .i64 y.s1, .slice y.T y.tn y.tc, .slice y.U y.un y.uc, .slice y.V y.vn y.vc], Rd A3 [.int .i64 (f.size : Int), .slice a.D f.data.length a.cD, .slice a.W f.wear.length a.cW, .int .i64 f.limit, .slice a.E f.dead.length a.cE], Rd a.D (rowsV a.hs (B8 f.data)), KidsR a.hs (B8 f.data), Rd a.W (I64 f.wear), Rd a.E (Bs f.dead)] (Hq [0, 1, 2, 3, 4, 5, 6] rfl) ?_; refine LM.q 0 rfl (by kernel_rfl) (Ev.loadA rfl rfl rfl (Src.r 2 rfl) rfl rfl (by decide)) rfl (Hq [0, 1, 2, 3, 4, 5, 6] rfl) ?_; refine LM.q 1 rfl (by kernel_rfl) (Ev.fieldAddr rfl rfl rfl rfl rfl rfl (Src.r 1 rfl) (Nat.zero_lt_succ _) rfl) rfl (Hq [0, 1, 2, 3, 4, 5, 6] rfl) ?_; refine LM.q 2 rfl (by kernel_rfl) (Ev.idxArr (k := 0) (m := 1) rfl rfl rfl rfl rfl rfl (by decide) (Src.r 1 rfl) (by exact Nat.zero_lt_succ _) rfl) rfl (Hq [0, 1, 2, 3, 4, 5, 6] rfl) ?_; refine LM.q 3 rfl (by kernel_rfl) (Ev.load rfl rfl rfl (Src.r 1 rfl) rfl) rfl (Hq [0, 1, 2, 3, 4, 5, 6] rfl) ?_; refine LM.q 4 rfl (by kernel_rfl) (Ev.fieldAddr rfl rfl rfl rfl rfl rfl (Src.r 2 rfl) (Nat.zero_lt_succ _) rfl) rfl (Hq [0, 1, 2, 3, 4, 5, 6] rfl) ?_; refine LM.q 5 rfl (by kernel_rfl) (Ev.load rfl rfl rfl (Src.r 2 rfl) rfl) rfl (Hq [0, 1, 2, 3, 4, 5, 6] rfl) ?_; refine LM.q 6 rfl (by kernel_rfl) (Ev.loadA rfl rfl rfl (Src.r 0 rfl) rfl rfl (by decide)) rfl (Hq [0, 1, 2, 3, 4, 5, 6] rfl) ?_
    refine LM.alt [7, 12] (by kernel_rfl) (by decide) (Hq [0, 1, 2, 3, 4, 5, 6] rfl) ⟨⟨_, rfl, ?_⟩, ⟨_, rfl, ?_⟩, trivial⟩
    ·
     refine L.call (js := []) (js' := [0]) (contR_c f.size 1 s os2 hft.2.2.2.2.2) rfl rfl rfl (by decide) trivial rfl ?_
     rintro _ _ _ ⟨WO, rfl, rfl, rfl⟩
     refine L.norm (H' := [_, _]) [0, 1] ⟨rfl, rfl, trivial⟩ (by decide) ?_
     refine L.nil (QE.m (by kernel_rfl) ?_)
     refine LM.alt [8, 12] (by kernel_rfl) (by decide) (Hq [0, 1, 2, 3, 4, 5, 6] rfl) ⟨⟨_, rfl, ?_⟩, ⟨_, rfl, ?_⟩, trivial⟩
     ·
      refine L.freeze 0 rfl [1] (by decide) (by decide) ?_; refine L.norm (H' := [_]) [0] ⟨rfl, trivial⟩ (by decide) ?_; refine L.callR (js := []) (js' := [0]) (reachR_c f a hok hh hcap y.a (contF f.size 1 (slotF s)) WO f.size f.size (contF_len hfit) rfl ⟨hft.2.1, hft.2.2.2.1⟩) rfl rfl rfl (by decide) (Hq [4, 5, 6, 7, 0] rfl) rfl ?_
      rintro _ _ _ ⟨b, hb, hbc, rfl, rfl, rfl⟩
      refine L.norm (H' := [_]) [0] ⟨rfl, trivial⟩ (by decide) ?_
      refine L.nil (QE.m (by kernel_rfl) ?_)
      refine LM.q 9 rfl (by kernel_rfl) (Ev.pure rfl) rfl (Hq [5, 6, 7, 8, 9, 10, 11] rfl) ?_; refine LM.q 10 rfl (by kernel_rfl) (Ev.pure rfl) rfl (Hq [5, 6, 7, 8, 9, 10, 11] rfl) ?_; refine LM.q 11 rfl (by kernel_rfl) (Ev.pure rfl) rfl (Hq [5, 6, 7, 8, 9, 10, 11] rfl) ?_; refine LM.f 12 rfl (by kernel_rfl) (Hq [5, 6, 7, 8, 9, 10, 11] rfl) ?_
      refine L.alloc rfl rfl rfl (fun A8 => ?_)
      refine L.nil (QE.m (by kernel_rfl) ?_)
      refine LM.f 13 rfl (by kernel_rfl) (Hq [5, 6, 7, 8, 9, 10, 11] rfl) ?_; refine L.storeA (j := 1) rfl rfl rfl rfl rfl (Nat.zero_lt_succ _) rfl rfl ?_
      refine L.nil (QE.m (by kernel_rfl) ?_)
      refine LM.cut [] (by kernel_rfl) (Hq [5, 6, 7, 8, 9, 10, 11] rfl) ?_; refine LM.f 14 rfl (by kernel_rfl) trivial ?_; refine Lpu rfl rfl ?_
      refine L.nil (QE.m (by kernel_rfl) ?_)
      refine LM.nil (by kernel_rfl) trivial ?_
      refine QE.joined ((b, A8)) (by exact ⟨hb, hbc⟩) (by exact Le.mk' (rs := [0, 1, 2, 3, 7, 6]) (hs := [0, 1]) ⟨rfl, rfl, rfl, rfl, rfl, trivial⟩ ⟨rfl, rfl, rfl, rfl, rfl, rfl, trivial⟩ ⟨rfl, rfl, trivial⟩ (by decide))
     ·
      refine L.alloc rfl rfl rfl (fun A8 => ?_)
      refine L.nil (QE.m (by kernel_rfl) ?_)
      refine LM.f 8 rfl (by kernel_rfl) (Hq [0, 1, 2, 3, 4, 5, 6] rfl) ?_; refine L.freeze 0 rfl [1, 2] (by decide) (by decide) ?_; refine L.norm (H' := [_, _]) [0, 1] ⟨rfl, rfl, trivial⟩ (by decide) ?_; refine L.callR (js := []) (js' := [0, 1]) (reachR_c f a hok hh hcap y.a (contF f.size 1 (slotF s)) WO f.size f.size (contF_len hfit) rfl ⟨hft.2.1, hft.2.2.2.1⟩) rfl rfl rfl (by decide) (Hq [4, 5, 6, 7, 0] rfl) rfl ?_
      rintro _ _ _ ⟨b, hb, hbc, rfl, rfl, rfl⟩
      refine L.norm (H' := [_, _]) [0, 1] ⟨rfl, rfl, trivial⟩ (by decide) ?_
      refine L.nil (QE.m (by kernel_rfl) ?_)
      refine LM.q 9 rfl (by kernel_rfl) (Ev.pure rfl) rfl (Hq [5, 6, 7, 8, 9, 10, 11] rfl) ?_; refine LM.q 10 rfl (by kernel_rfl) (Ev.pure rfl) rfl (Hq [5, 6, 7, 8, 9, 10, 11] rfl) ?_; refine LM.q 11 rfl (by kernel_rfl) (Ev.pure rfl) rfl (Hq [5, 6, 7, 8, 9, 10, 11] rfl) ?_; refine LM.f 13 rfl (by kernel_rfl) (Hq [5, 6, 7, 8, 9, 10, 11] rfl) ?_; refine L.storeA (j := 1) rfl rfl rfl rfl rfl (Nat.zero_lt_succ _) rfl rfl ?_
      refine L.nil (QE.m (by kernel_rfl) ?_)
      refine LM.cut [] (by kernel_rfl) (Hq [5, 6, 7, 8, 9, 10, 11] rfl) ?_; refine LM.f 14 rfl (by kernel_rfl) trivial ?_; refine Lpu rfl rfl ?_
      refine L.nil (QE.m (by kernel_rfl) ?_)
      refine LM.nil (by kernel_rfl) trivial ?_
      refine QE.joined ((b, A8)) (by exact ⟨hb, hbc⟩) (by exact Le.mk' (rs := [0, 1, 2, 3, 7, 6]) (hs := [0, 1]) ⟨rfl, rfl, rfl, rfl, rfl, trivial⟩ ⟨rfl, rfl, rfl, rfl, rfl, rfl, trivial⟩ ⟨rfl, rfl, trivial⟩ (by decide))
    ·
     refine L.alloc rfl rfl rfl (fun A8 => ?_)
     refine L.nil (QE.m (by kernel_rfl) ?_)
     refine LM.f 7 rfl (by kernel_rfl) (Hq [0, 1, 2, 3, 4, 5, 6] rfl) ?_; refine L.call (js := []) (js' := [0, 1]) (contR_c f.size 1 s os2 hft.2.2.2.2.2) rfl rfl rfl (by decide) trivial rfl ?_
     rintro _ _ _ ⟨WO, rfl, rfl, rfl⟩
     refine L.norm (H' := [_, _, _]) [0, 1, 2] ⟨rfl, rfl, rfl, trivial⟩ (by decide) ?_
     refine L.nil (QE.m (by kernel_rfl) ?_)
     refine LM.f 8 rfl (by kernel_rfl) (Hq [0, 1, 2, 3, 4, 5, 6] rfl) ?_; refine L.freeze 0 rfl [1, 2] (by decide) (by decide) ?_; refine L.norm (H' := [_, _]) [0, 1] ⟨rfl, rfl, trivial⟩ (by decide) ?_; refine L.callR (js := []) (js' := [0, 1]) (reachR_c f a hok hh hcap y.a (contF f.size 1 (slotF s)) WO f.size f.size (contF_len hfit) rfl ⟨hft.2.1, hft.2.2.2.1⟩) rfl rfl rfl (by decide) (Hq [4, 5, 6, 7, 0] rfl) rfl ?_
     rintro _ _ _ ⟨b, hb, hbc, rfl, rfl, rfl⟩
     refine L.norm (H' := [_, _]) [0, 1] ⟨rfl, rfl, trivial⟩ (by decide) ?_
     refine L.nil (QE.m (by kernel_rfl) ?_)
     refine LM.q 9 rfl (by kernel_rfl) (Ev.pure rfl) rfl (Hq [5, 6, 7, 8, 9, 10, 11] rfl) ?_; refine LM.q 10 rfl (by kernel_rfl) (Ev.pure rfl) rfl (Hq [5, 6, 7, 8, 9, 10, 11] rfl) ?_; refine LM.q 11 rfl (by kernel_rfl) (Ev.pure rfl) rfl (Hq [5, 6, 7, 8, 9, 10, 11] rfl) ?_; refine LM.f 13 rfl (by kernel_rfl) (Hq [5, 6, 7, 8, 9, 10, 11] rfl) ?_; refine L.storeA (j := 1) rfl rfl rfl rfl rfl (Nat.zero_lt_succ _) rfl rfl ?_
     refine L.nil (QE.m (by kernel_rfl) ?_)
     refine LM.cut [] (by kernel_rfl) (Hq [5, 6, 7, 8, 9, 10, 11] rfl) ?_; refine LM.f 14 rfl (by kernel_rfl) trivial ?_; refine Lpu rfl rfl ?_
     refine L.nil (QE.m (by kernel_rfl) ?_)
     refine LM.nil (by kernel_rfl) trivial ?_
     refine QE.joined ((b, A8)) (by exact ⟨hb, hbc⟩) (by exact Le.mk' (rs := [0, 1, 2, 3, 7, 6]) (hs := [0, 1]) ⟨rfl, rfl, rfl, rfl, rfl, trivial⟩ ⟨rfl, rfl, rfl, rfl, rfl, rfl, trivial⟩ ⟨rfl, rfl, trivial⟩ (by decide))
   ·
    rintro ⟨b, A8⟩ ⟨hb, hbc⟩
    dsimp only at hb hbc ⊢
    refine QE.seq (C.seq (C.seq (C.region ?_))); refine Lpu rfl rfl ?_; refine Lpu rfl rfl ?_; refine L.nil (QE.seq ?_)
    refine C.condB 34 rfl (fun hc34 => ?_) (fun hc34 => ?_)
    ·
     replace hc34 := b_ne hc34
     have he1 : (reachF y.a (contF f.size 1 (slotF s)) 3 f).2 ≠ 0 := hc34
     refine C.seq (C.region ?_); refine L.step (Ev.build rfl rfl rfl rfl rfl rfl rfl) rfl ?_; refine Lpu rfl rfl ?_; refine L.storeA (j := 0) rfl rfl rfl rfl rfl (Nat.zero_lt_succ _) rfl rfl ?_; refine Lpu rfl rfl ?_; refine L.nil (QE.seq (C.ret (QE.tR ?_))); refine QE.more (r := Rd none []) Has.nil ?_; refine QE.more (r := KidsR [] []) Has.kids0 ?_; refine QE.ret (js := [1, 0, 1, 1]) (hs := []) (vs := [_, _]) rfl ⟨⟨_, _, 0, _, rfl, rfl, Src.o 0 rfl, .inl ⟨rfl, by decide, _, rfl, rfl, rfl⟩⟩, rfl, trivial⟩ (by decide) ?_
     rw [formatF_2 hfits hright rfl he1]
     exact ⟨az, rfl, fun i hi => absurd hi (Nat.not_lt_zero _), rfl, rfl, rfl⟩
    ·
     replace hc34 := b_eq hc34
     have he1 : (reachF y.a (contF f.size 1 (slotF s)) 3 f).2 = 0 := hc34
     have hr1 : (reachF y.a (contF f.size 1 (slotF s)) 3 f) = ((reachF y.a (contF f.size 1 (slotF s)) 3 f).1, 0) := Prod.ext rfl he1
     refine C.skip (QE.seq (C.seq ?_)); refine C.join (fun q : Fa × Option Addr => [(3, ptrOf A3 0), (4, ptrOf A4 0), (6, ptrOf A6 0), (10, ptrOf q.2 0), (9, .int .i64 (reachF y.b (contF f.size 0 []) 3 (reachF y.a (contF f.size 1 (slotF s)) 3 f).1).2)]) (fun q : Fa × Option Addr => [Rd q.1.D (rowsV q.1.hs (B8 (reachF y.b (contF f.size 0 []) 3 (reachF y.a (contF f.size 1 (slotF s)) 3 f).1).1.data)), KidsR q.1.hs (B8 (reachF y.b (contF f.size 0 []) 3 (reachF y.a (contF f.size 1 (slotF s)) 3 f).1).1.data), Rd q.1.W (I64 (reachF y.b (contF f.size 0 []) 3 (reachF y.a (contF f.size 1 (slotF s)) 3 f).1).1.wear), Rd q.1.E (Bs (reachF y.b (contF f.size 0 []) 3 (reachF y.a (contF f.size 1 (slotF s)) 3 f).1).1.dead)]) (fun q : Fa × Option Addr => [Own 35 5 A6 1 1 [.int .i64 0, .slice none 0 0, .slice none 0 0, .int .i64 0, .slice none 0 0], Own 35 5 q.2 1 1 [.int .i64 ((reachF y.b (contF f.size 0 []) 3 (reachF y.a (contF f.size 1 (slotF s)) 3 f).1).1.size : Int), .slice q.1.D (reachF y.b (contF f.size 0 []) 3 (reachF y.a (contF f.size 1 (slotF s)) 3 f).1).1.data.length q.1.cD, .slice q.1.W (reachF y.b (contF f.size 0 []) 3 (reachF y.a (contF f.size 1 (slotF s)) 3 f).1).1.wear.length q.1.cW, .int .i64 (reachF y.b (contF f.size 0 []) 3 (reachF y.a (contF f.size 1 (slotF s)) 3 f).1).1.limit, .slice q.1.E (reachF y.b (contF f.size 0 []) 3 (reachF y.a (contF f.size 1 (slotF s)) 3 f).1).1.dead.length q.1.cE]]) (fun q : Fa × Option Addr => q.1.hs.length = (reachF y.b (contF f.size 0 []) 3 (reachF y.a (contF f.size 1 (slotF s)) 3 f).1).1.data.length ∧ Caps (reachF y.b (contF f.size 0 []) 3 (reachF y.a (contF f.size 1 (slotF s)) 3 f).1).1 q.1) ?_ ?_
     ·
      refine C.regionM [Rd b.D (rowsV b.hs (B8 (reachF y.a (contF f.size 1 (slotF s)) 3 f).1.data)), KidsR b.hs (B8 (reachF y.a (contF f.size 1 (slotF s)) 3 f).1.data), Rd b.W (I64 (reachF y.a (contF f.size 1 (slotF s)) 3 f).1.wear), Rd b.E (Bs (reachF y.a (contF f.size 1 (slotF s)) 3 f).1.dead), Rd A3 [.int .i64 (f.size : Int), .slice a.D f.data.length a.cD, .slice a.W f.wear.length a.cW, .int .i64 f.limit, .slice a.E f.dead.length a.cE], Rd A4 [.int .i64 y.n, .int .i64 y.a, .int .i64 y.b, .int .i64 y.s0, .int .i64 y.s1, .slice y.T y.tn y.tc, .slice y.U y.un y.uc, .slice y.V y.vn y.vc], Rd A8 [.int .i64 ((reachF y.a (contF f.size 1 (slotF s)) 3 f).1.size : Int), .slice b.D (reachF y.a (contF f.size 1 (slotF s)) 3 f).1.data.length b.cD, .slice b.W (reachF y.a (contF f.size 1 (slotF s)) 3 f).1.wear.length b.cW, .int .i64 (reachF y.a (contF f.size 1 (slotF s)) 3 f).1.limit, .slice b.E (reachF y.a (contF f.size 1 (slotF s)) 3 f).1.dead.length b.cE]] ⟨Has.r 0 rfl, Has.r 1 rfl, Has.r 2 rfl, Has.r 3 rfl, Has.r 4 rfl, Has.r 5 rfl, Has.o 1 rfl, trivial⟩ ?_; refine LM.q 0 rfl (by kernel_rfl) (Ev.loadA rfl rfl rfl (Src.r 6 rfl) rfl rfl (by decide)) rfl ⟨Has.r 0 rfl, Has.r 1 rfl, Has.r 2 rfl, Has.r 3 rfl, Has.r 4 rfl, Has.r 5 rfl, Has.o 1 rfl, trivial⟩ ?_; refine LM.q 1 rfl (by kernel_rfl) (Ev.fieldAddr rfl rfl rfl rfl rfl rfl (Src.r 5 rfl) (Nat.zero_lt_succ _) rfl) rfl ⟨Has.r 0 rfl, Has.r 1 rfl, Has.r 2 rfl, Has.r 3 rfl, Has.r 4 rfl, Has.r 5 rfl, Has.o 1 rfl, trivial⟩ ?_; refine LM.q 2 rfl (by kernel_rfl) (Ev.idxArr (k := 1) (m := 2) rfl rfl rfl rfl rfl rfl (by decide) (Src.r 5 rfl) (by exact Nat.zero_lt_succ _) rfl) rfl ⟨Has.r 0 rfl, Has.r 1 rfl, Has.r 2 rfl, Has.r 3 rfl, Has.r 4 rfl, Has.r 5 rfl, Has.o 1 rfl, trivial⟩ ?_; refine LM.q 3 rfl (by kernel_rfl) (Ev.load rfl rfl rfl (Src.r 5 rfl) rfl) rfl ⟨Has.r 0 rfl, Has.r 1 rfl, Has.r 2 rfl, Has.r 3 rfl, Has.r 4 rfl, Has.r 5 rfl, Has.o 1 rfl, trivial⟩ ?_; refine LM.q 4 rfl (by kernel_rfl) (Ev.fieldAddr rfl rfl rfl rfl rfl rfl (Src.r 4 rfl) (Nat.zero_lt_succ _) rfl) rfl ⟨Has.r 0 rfl, Has.r 1 rfl, Has.r 2 rfl, Has.r 3 rfl, Has.r 4 rfl, Has.r 5 rfl, Has.o 1 rfl, trivial⟩ ?_; refine LM.q 5 rfl (by kernel_rfl) (Ev.load rfl rfl rfl (Src.r 4 rfl) rfl) rfl ⟨Has.r 0 rfl, Has.r 1 rfl, Has.r 2 rfl, Has.r 3 rfl, Has.r 4 rfl, Has.r 5 rfl, Has.o 1 rfl, trivial⟩ ?_
      refine LM.alt [6, 11] (by kernel_rfl) (by decide) ⟨Has.r 0 rfl, Has.r 1 rfl, Has.r 2 rfl, Has.r 3 rfl, Has.r 4 rfl, Has.r 5 rfl, Has.o 1 rfl, trivial⟩ ⟨⟨_, rfl, ?_⟩, ⟨_, rfl, ?_⟩, trivial⟩
      ·
       refine L.call (js := []) (js' := [0, 1]) (blank_c f.size (by omega)) rfl rfl rfl (by decide) trivial rfl ?_
       rintro _ _ _ ⟨QO, rfl, rfl, rfl⟩
       rw [show List.replicate f.size (255 : UInt8) = (contF f.size 0 []) from (cont_nil (by omega)).symm]
       refine L.norm (H' := [_, _, _]) [0, 1, 2] ⟨rfl, rfl, rfl, trivial⟩ (by decide) ?_
       refine L.nil (QE.m (by kernel_rfl) ?_)
       refine LM.alt [7, 11] (by kernel_rfl) (by decide) ⟨Has.r 0 rfl, Has.r 1 rfl, Has.r 2 rfl, Has.r 3 rfl, Has.r 4 rfl, Has.r 5 rfl, Has.o 2 rfl, trivial⟩ ⟨⟨_, rfl, ?_⟩, ⟨_, rfl, ?_⟩, trivial⟩
       ·
        refine L.freeze 0 rfl [1, 2] (by decide) (by decide) ?_; refine L.norm (H' := [_, _]) [0, 1] ⟨rfl, rfl, trivial⟩ (by decide) ?_; refine L.callR (js := []) (js' := [0, 1]) (reachR_c (reachF y.a (contF f.size 1 (slotF s)) 3 f).1 b hk.1 hb hbc y.b (contF f.size 0 []) QO f.size f.size (contF_len (slot := []) (by simp; omega)) hk.2.1.symm ⟨by omega, by rw [hk.2.2]; omega⟩) rfl rfl rfl (by decide) (Hq [1, 2, 3, 4, 0] rfl) rfl ?_
        rintro _ _ _ ⟨b2, hb2, hbc2, rfl, rfl, rfl⟩
        refine L.norm (H' := [_, _]) [0, 1] ⟨rfl, rfl, trivial⟩ (by decide) ?_
        refine L.nil (QE.m (by kernel_rfl) ?_)
        refine LM.q 8 rfl (by kernel_rfl) (Ev.pure rfl) rfl ⟨Has.r 5 rfl, Has.r 6 rfl, Has.r 7 rfl, Has.r 8 rfl, Has.r 9 rfl, Has.r 10 rfl, Has.o 1 rfl, trivial⟩ ?_; refine LM.q 9 rfl (by kernel_rfl) (Ev.pure rfl) rfl ⟨Has.r 5 rfl, Has.r 6 rfl, Has.r 7 rfl, Has.r 8 rfl, Has.r 9 rfl, Has.r 10 rfl, Has.o 1 rfl, trivial⟩ ?_; refine LM.q 10 rfl (by kernel_rfl) (Ev.pure rfl) rfl ⟨Has.r 5 rfl, Has.r 6 rfl, Has.r 7 rfl, Has.r 8 rfl, Has.r 9 rfl, Has.r 10 rfl, Has.o 1 rfl, trivial⟩ ?_; refine LM.f 11 rfl (by kernel_rfl) ⟨Has.r 5 rfl, Has.r 6 rfl, Has.r 7 rfl, Has.r 8 rfl, Has.r 9 rfl, Has.r 10 rfl, Has.o 1 rfl, trivial⟩ ?_
        refine L.alloc rfl rfl rfl (fun A10 => ?_)
        refine L.nil (QE.m (by kernel_rfl) ?_)
        refine LM.f 12 rfl (by kernel_rfl) ⟨Has.r 5 rfl, Has.r 6 rfl, Has.r 7 rfl, Has.r 8 rfl, Has.r 9 rfl, Has.r 10 rfl, Has.o 1 rfl, trivial⟩ ?_; refine L.storeA (j := 2) rfl rfl rfl rfl rfl (Nat.zero_lt_succ _) rfl rfl ?_
        refine L.nil (QE.m (by kernel_rfl) ?_)
        refine LM.cut [] (by kernel_rfl) ⟨Has.r 5 rfl, Has.r 6 rfl, Has.r 7 rfl, Has.r 8 rfl, Has.r 9 rfl, Has.r 10 rfl, Has.o 1 rfl, trivial⟩ ?_; refine LM.f 13 rfl (by kernel_rfl) trivial ?_; refine Lpu rfl rfl ?_
        refine L.nil (QE.m (by kernel_rfl) ?_)
        refine LM.nil (by kernel_rfl) trivial ?_
        refine QE.joined ((b2, A10)) (by exact ⟨hb2, hbc2⟩) (by exact Le.mk' (rs := [0, 1, 2, 3]) (hs := [0, 2]) ⟨rfl, rfl, rfl, rfl, rfl, trivial⟩ ⟨rfl, rfl, rfl, rfl, trivial⟩ ⟨rfl, rfl, trivial⟩ (by decide))
       ·
        refine L.alloc rfl rfl rfl (fun A10 => ?_)
        refine L.nil (QE.m (by kernel_rfl) ?_)
        refine LM.f 7 rfl (by kernel_rfl) ⟨Has.r 0 rfl, Has.r 1 rfl, Has.r 2 rfl, Has.r 3 rfl, Has.r 4 rfl, Has.r 5 rfl, Has.o 2 rfl, trivial⟩ ?_; refine L.freeze 0 rfl [1, 2, 3] (by decide) (by decide) ?_; refine L.norm (H' := [_, _, _]) [0, 1, 2] ⟨rfl, rfl, rfl, trivial⟩ (by decide) ?_; refine L.callR (js := []) (js' := [0, 1, 2]) (reachR_c (reachF y.a (contF f.size 1 (slotF s)) 3 f).1 b hk.1 hb hbc y.b (contF f.size 0 []) QO f.size f.size (contF_len (slot := []) (by simp; omega)) hk.2.1.symm ⟨by omega, by rw [hk.2.2]; omega⟩) rfl rfl rfl (by decide) (Hq [1, 2, 3, 4, 0] rfl) rfl ?_
        rintro _ _ _ ⟨b2, hb2, hbc2, rfl, rfl, rfl⟩
        refine L.norm (H' := [_, _, _]) [0, 1, 2] ⟨rfl, rfl, rfl, trivial⟩ (by decide) ?_
        refine L.nil (QE.m (by kernel_rfl) ?_)
        refine LM.q 8 rfl (by kernel_rfl) (Ev.pure rfl) rfl ⟨Has.r 5 rfl, Has.r 6 rfl, Has.r 7 rfl, Has.r 8 rfl, Has.r 9 rfl, Has.r 10 rfl, Has.o 1 rfl, trivial⟩ ?_; refine LM.q 9 rfl (by kernel_rfl) (Ev.pure rfl) rfl ⟨Has.r 5 rfl, Has.r 6 rfl, Has.r 7 rfl, Has.r 8 rfl, Has.r 9 rfl, Has.r 10 rfl, Has.o 1 rfl, trivial⟩ ?_; refine LM.q 10 rfl (by kernel_rfl) (Ev.pure rfl) rfl ⟨Has.r 5 rfl, Has.r 6 rfl, Has.r 7 rfl, Has.r 8 rfl, Has.r 9 rfl, Has.r 10 rfl, Has.o 1 rfl, trivial⟩ ?_; refine LM.f 12 rfl (by kernel_rfl) ⟨Has.r 5 rfl, Has.r 6 rfl, Has.r 7 rfl, Has.r 8 rfl, Has.r 9 rfl, Has.r 10 rfl, Has.o 1 rfl, trivial⟩ ?_; refine L.storeA (j := 2) rfl rfl rfl rfl rfl (Nat.zero_lt_succ _) rfl rfl ?_
        refine L.nil (QE.m (by kernel_rfl) ?_)
        refine LM.cut [] (by kernel_rfl) ⟨Has.r 5 rfl, Has.r 6 rfl, Has.r 7 rfl, Has.r 8 rfl, Has.r 9 rfl, Has.r 10 rfl, Has.o 1 rfl, trivial⟩ ?_; refine LM.f 13 rfl (by kernel_rfl) trivial ?_; refine Lpu rfl rfl ?_
        refine L.nil (QE.m (by kernel_rfl) ?_)
        refine LM.nil (by kernel_rfl) trivial ?_
        refine QE.joined ((b2, A10)) (by exact ⟨hb2, hbc2⟩) (by exact Le.mk' (rs := [0, 1, 2, 3]) (hs := [0, 2]) ⟨rfl, rfl, rfl, rfl, rfl, trivial⟩ ⟨rfl, rfl, rfl, rfl, trivial⟩ ⟨rfl, rfl, trivial⟩ (by decide))
      ·
       refine L.alloc rfl rfl rfl (fun A10 => ?_)
       refine L.nil (QE.m (by kernel_rfl) ?_)
       refine LM.f 6 rfl (by kernel_rfl) ⟨Has.r 0 rfl, Has.r 1 rfl, Has.r 2 rfl, Has.r 3 rfl, Has.r 4 rfl, Has.r 5 rfl, Has.o 1 rfl, trivial⟩ ?_; refine L.call (js := []) (js' := [0, 1, 2]) (blank_c f.size (by omega)) rfl rfl rfl (by decide) trivial rfl ?_
       rintro _ _ _ ⟨QO, rfl, rfl, rfl⟩
       rw [show List.replicate f.size (255 : UInt8) = (contF f.size 0 []) from (cont_nil (by omega)).symm]
       refine L.norm (H' := [_, _, _, _]) [0, 1, 2, 3] ⟨rfl, rfl, rfl, rfl, trivial⟩ (by decide) ?_
       refine L.nil (QE.m (by kernel_rfl) ?_)
       refine LM.f 7 rfl (by kernel_rfl) ⟨Has.r 0 rfl, Has.r 1 rfl, Has.r 2 rfl, Has.r 3 rfl, Has.r 4 rfl, Has.r 5 rfl, Has.o 2 rfl, trivial⟩ ?_; refine L.freeze 0 rfl [1, 2, 3] (by decide) (by decide) ?_; refine L.norm (H' := [_, _, _]) [0, 1, 2] ⟨rfl, rfl, rfl, trivial⟩ (by decide) ?_; refine L.callR (js := []) (js' := [0, 1, 2]) (reachR_c (reachF y.a (contF f.size 1 (slotF s)) 3 f).1 b hk.1 hb hbc y.b (contF f.size 0 []) QO f.size f.size (contF_len (slot := []) (by simp; omega)) hk.2.1.symm ⟨by omega, by rw [hk.2.2]; omega⟩) rfl rfl rfl (by decide) (Hq [1, 2, 3, 4, 0] rfl) rfl ?_
       rintro _ _ _ ⟨b2, hb2, hbc2, rfl, rfl, rfl⟩
       refine L.norm (H' := [_, _, _]) [0, 1, 2] ⟨rfl, rfl, rfl, trivial⟩ (by decide) ?_
       refine L.nil (QE.m (by kernel_rfl) ?_)
       refine LM.q 8 rfl (by kernel_rfl) (Ev.pure rfl) rfl ⟨Has.r 5 rfl, Has.r 6 rfl, Has.r 7 rfl, Has.r 8 rfl, Has.r 9 rfl, Has.r 10 rfl, Has.o 1 rfl, trivial⟩ ?_; refine LM.q 9 rfl (by kernel_rfl) (Ev.pure rfl) rfl ⟨Has.r 5 rfl, Has.r 6 rfl, Has.r 7 rfl, Has.r 8 rfl, Has.r 9 rfl, Has.r 10 rfl, Has.o 1 rfl, trivial⟩ ?_; refine LM.q 10 rfl (by kernel_rfl) (Ev.pure rfl) rfl ⟨Has.r 5 rfl, Has.r 6 rfl, Has.r 7 rfl, Has.r 8 rfl, Has.r 9 rfl, Has.r 10 rfl, Has.o 1 rfl, trivial⟩ ?_; refine LM.f 12 rfl (by kernel_rfl) ⟨Has.r 5 rfl, Has.r 6 rfl, Has.r 7 rfl, Has.r 8 rfl, Has.r 9 rfl, Has.r 10 rfl, Has.o 1 rfl, trivial⟩ ?_; refine L.storeA (j := 2) rfl rfl rfl rfl rfl (Nat.zero_lt_succ _) rfl rfl ?_
       refine L.nil (QE.m (by kernel_rfl) ?_)
       refine LM.cut [] (by kernel_rfl) ⟨Has.r 5 rfl, Has.r 6 rfl, Has.r 7 rfl, Has.r 8 rfl, Has.r 9 rfl, Has.r 10 rfl, Has.o 1 rfl, trivial⟩ ?_; refine LM.f 13 rfl (by kernel_rfl) trivial ?_; refine Lpu rfl rfl ?_
       refine L.nil (QE.m (by kernel_rfl) ?_)
       refine LM.nil (by kernel_rfl) trivial ?_
       refine QE.joined ((b2, A10)) (by exact ⟨hb2, hbc2⟩) (by exact Le.mk' (rs := [0, 1, 2, 3]) (hs := [0, 2]) ⟨rfl, rfl, rfl, rfl, rfl, trivial⟩ ⟨rfl, rfl, rfl, rfl, trivial⟩ ⟨rfl, rfl, trivial⟩ (by decide))
     ·
      rintro ⟨b2, A10⟩ ⟨hb2, hbc2⟩
      dsimp only at hb2 hbc2 ⊢
      refine QE.seq (C.seq (C.seq (C.region ?_))); refine Lpu rfl rfl ?_; refine Lpu rfl rfl ?_; refine L.nil (QE.seq ?_)
      refine C.condB 49 rfl (fun hc49 => ?_) (fun hc49 => ?_)
      ·
       replace hc49 := b_ne hc49
       have he2 : (reachF y.b (contF f.size 0 []) 3 (reachF y.a (contF f.size 1 (slotF s)) 3 f).1).2 ≠ 0 := hc49
       refine C.seq (C.region ?_); refine L.step (Ev.build rfl rfl rfl rfl rfl rfl rfl) rfl ?_; refine Lpu rfl rfl ?_; refine L.storeA (j := 0) rfl rfl rfl rfl rfl (Nat.zero_lt_succ _) rfl rfl ?_; refine Lpu rfl rfl ?_; refine L.nil (QE.seq (C.ret (QE.tR ?_))); refine QE.more (r := Rd none []) Has.nil ?_; refine QE.more (r := KidsR [] []) Has.kids0 ?_; refine QE.ret (js := [1, 0, 1, 1]) (hs := []) (vs := [_, _]) rfl ⟨⟨_, _, 0, _, rfl, rfl, Src.o 0 rfl, .inl ⟨rfl, by decide, _, rfl, rfl, rfl⟩⟩, rfl, trivial⟩ (by decide) ?_
       rw [formatF_3 hfits hright hr1 rfl he2]
       exact ⟨az, rfl, fun i hi => absurd hi (Nat.not_lt_zero _), rfl, rfl, rfl⟩
      ·
       replace hc49 := b_eq hc49
       have he2 : (reachF y.b (contF f.size 0 []) 3 (reachF y.a (contF f.size 1 (slotF s)) 3 f).1).2 = 0 := hc49
       have hr2 : (reachF y.b (contF f.size 0 []) 3 (reachF y.a (contF f.size 1 (slotF s)) 3 f).1) = ((reachF y.b (contF f.size 0 []) 3 (reachF y.a (contF f.size 1 (slotF s)) 3 f).1).1, 0) := Prod.ext rfl he2
       refine C.skip (QE.seq (C.seq (C.region ?_))); refine L.step (Ev.loadA rfl rfl rfl (Src.o 1 rfl) rfl rfl (by decide)) rfl ?_; refine L.storeA (j := 0) rfl rfl rfl rfl rfl (Nat.zero_lt_succ _) rfl rfl ?_; refine Lpu rfl rfl ?_; refine L.nil (QE.seq (C.ret ?_)); refine QE.ret (js := [0, 1, 2, 3]) (hs := []) (vs := [_, _]) rfl ⟨⟨_, _, 0, _, rfl, rfl, Src.o 0 rfl, .inl ⟨rfl, by decide, _, rfl, rfl, rfl⟩⟩, rfl, trivial⟩ (by decide) ?_
       rw [formatF_4 hfits hright hr1 hr2]
       exact ⟨b2, hb2, hbc2, rfl, rfl, rfl⟩

end Go.Proofs.Ytmbjknampholjaa
