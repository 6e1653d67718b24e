/-
  Do and Cut of both, with the capacities of the rows.
-/
import Derived.Test.YtmbjknampholjaaEWJoI
namespace Go.Proofs.Ytmbjknampholjaa
open Go.Sl

theorem apply_post2 {f : Fl} {x : Fo} {mk : Nat → UInt8} {a : Fa} {D W E A : Option Addr} {cD cW cE : Nat} {WV : List Value} (_ok : f.Ok) (hE : checkE f x = 0) (hb : a.hs.length = f.data.length) (hrow : (f.data.getD x.sec.toNat []).length = f.size)
   (hcap : Caps f a) (hW : WV = I64 (cutF f x mk).wear) :
   ∃ b' : Fa, (b'.hs.length = (cutR f x mk).data.length ∧ Caps (cutR f x mk) b') ∧ Value.tuple #[.agg (List.toArray [.int .i64 (f.size : Int), .slice D f.data.length cD, .slice W f.wear.length cW, .int .i64 f.limit, .slice E f.dead.length cE]), .int .i64 0] = .tuple #[flV (cutR f x mk) b', .int .i64 (checkE f x)] ∧
     [Rd D ((rowsV a.hs (B8 f.data)).set x.sec.toNat (.slice A f.size f.size)), KidsR (a.hs.set x.sec.toNat (A, f.size)) ((B8 f.data).set x.sec.toNat (U8 (prow (rowB f x mk) (f.data.getD x.sec.toNat []) f.size))), Rd W WV, Rd E (Bs f.dead)] = flR (cutR f x mk) b' ∧ ([] : List Pr) = [] := by
 have e1 : prow (rowB f x mk) (f.data.getD x.sec.toNat []) f.size = rowF f x mk := by
   rw [prow_end (d := 0) (by omega) (fun i h1 h2 => by omega), hrow]
   rfl
 refine ⟨⟨D, cD, a.hs.set x.sec.toNat (A, f.size), W, cW, E, cE⟩, ⟨by rw [cutR_ok hE, cutF_data, List.length_set]; exact hb, fun i hi => ?_⟩, ?_, ?_, rfl⟩
 · rw [cutR_ok hE] at hi ⊢
   rw [cutF_data] at hi
   show f.size ≤ ((a.hs.set x.sec.toNat (A, f.size)).getD i (none, 0)).2
   by_cases h : x.sec.toNat = i
   · subst h
     rw [getD_set_eq (by omega)]
     exact Nat.le_refl _
   · have e : (a.hs.set x.sec.toNat (A, f.size)).getD i (none, 0) = a.hs.getD i (none, 0) := by simp only [List.getD_eq_getElem?_getD, List.getElem?_set_ne h]
     rw [e]
     exact hcap i hi
 · rw [cutR_ok hE, hE]
   show _ = Value.tuple #[.agg (List.toArray [.int .i64 (f.size : Int), .slice D (cutF f x mk).data.length cD, .slice W (cutF f x mk).wear.length cW, .int .i64 f.limit, .slice E f.dead.length cE]), .int .i64 0]
   rw [cutF_data, cutF_wear]
 · rw [cutR_ok hE]
   show _ = [Rd D (rowsV (a.hs.set x.sec.toNat (A, f.size)) (B8 (f.data.set x.sec.toNat (rowF f x mk)))), KidsR (a.hs.set x.sec.toNat (A, f.size)) (B8 (f.data.set x.sec.toNat (rowF f x mk))), Rd W (I64 (cutF f x mk).wear), Rd E (Bs f.dead)]
   rw [e1, hW, ← rowsV_put, rowF_len, B8_set]

theorem cut_post2 {f : Fl} {x : Fo} {mk : Nat → UInt8} {b : Fa} {k : Nat} {WV : List Value} (ok : f.Ok) (hkc : ∀ i, i < f.data.length → (f.data.getD i []).length ≤ (b.hs.getD i (none, 0)).2) (hE : checkE f x = 0) (hb : b.hs.length = f.data.length) (hrow : (f.data.getD x.sec.toNat []).length = f.size) (hs : x.sec.toNat < f.data.length) (hk : k ≤ f.size)
   (hz : ∀ i, k ≤ i → i < f.size → mk i = 0) (hW : WV = I64 (cutF f x mk).wear) :
   ∃ b' : Fa, (b'.hs.length = (cutR f x mk).data.length ∧ Caps (cutR f x mk) b') ∧ Value.tuple #[.agg (List.toArray [.int .i64 (f.size : Int), .slice b.D f.data.length b.cD, .slice b.W f.wear.length b.cW, .int .i64 f.limit, .slice b.E f.dead.length b.cE]), .int .i64 0] = .tuple #[flV (cutR f x mk) b', .int .i64 (checkE f x)] ∧
     [Rd b.D (rowsV b.hs (B8 f.data)), KidsR b.hs (B8 (f.data.set x.sec.toNat (prow (rowB f x mk) (f.data.getD x.sec.toNat []) k))), Rd b.W WV, Rd b.E (Bs f.dead)] = flR (cutR f x mk) b' ∧ ([] : List Pr) = [] := by
 have e1 : prow (rowB f x mk) (f.data.getD x.sec.toNat []) k = rowF f x mk := by
   rw [prow_end (d := 0) (by omega) (fun i h1 h2 => by unfold rowB; rw [hz i h1 (by omega), mixB_zero]), hrow]
   rfl
 have e2 : rowsV b.hs (B8 (cutF f x mk).data) = rowsV b.hs (B8 f.data) := rowsV_set hb hs (by rw [rowF_len, hrow])
 refine ⟨b, ⟨by rw [cutR_ok hE, cutF_data]; exact hb, fun i hi => ?_⟩, ?_, ?_, rfl⟩
 · rw [cutR_ok hE] at hi ⊢
   rw [cutF_data] at hi
   have := hkc i hi
   rw [ok.rows i hi] at this
   exact this
 · rw [cutR_ok hE, hE]
   show _ = Value.tuple #[.agg (List.toArray [.int .i64 (f.size : Int), .slice b.D (cutF f x mk).data.length b.cD, .slice b.W (cutF f x mk).wear.length b.cW, .int .i64 f.limit, .slice b.E f.dead.length b.cE]), .int .i64 0]
   rw [cutF_data, cutF_wear]
 · rw [cutR_ok hE]
   show _ = [Rd b.D (rowsV b.hs (B8 (cutF f x mk).data)), KidsR b.hs (B8 (cutF f x mk).data), Rd b.W (I64 (cutF f x mk).wear), Rd b.E (Bs f.dead)]
   rw [e1, hW, e2]
   rfl

set_option maxHeartbeats 2000000 in
theorem apply2_c (f : Fl) (a : Fa) (ok : f.Ok) (hh : a.hs.length = f.data.length) (x : Fo) (XA : Option Addr) (xc : Nat) (hxl : x.data.length ≤ 9223372036854775807) (mf : Nat) (mcap : Array Value) (mk : Nat → UInt8) (Am Bm : Option Addr) (wm zm : List Value) (hm : ∀ i : Nat, i ≤ 1000000 → Ctr X mf ([.int .i64 (i : Int)] ++ mcap.toList) [Rd Am wm, Rd Bm zm] [] (fun v R' H' => v = .int .u8 ((mk i).toNat : Int) ∧ R' = [] ∧ H' = [])) (hcap : Caps f a) :
   Ctr X 58 [.agg (List.toArray [.int .i64 (f.size : Int), .slice a.D f.data.length a.cD, .slice a.W f.wear.length a.cW, .int .i64 f.limit, .slice a.E f.dead.length a.cE]), .agg (List.toArray [.int .i64 x.kind, .int .i64 x.sec, .int .i64 x.at_, .slice XA x.data.length xc]), .func (.func mf) #[] mcap] [Rd a.D (rowsV a.hs (B8 f.data)), KidsR a.hs (B8 f.data), Rd a.W (I64 f.wear), Rd a.E (Bs f.dead), Rd XA (U8 x.data), Rd Am wm, Rd Bm zm] [] (fun v R' H' => ∃ b : Fa, (b.hs.length = (cutR f x mk).data.length ∧ Caps (cutR f x mk) b) ∧ v = .tuple #[flV (cutR f x mk) b, .int .i64 (checkE f x)] ∧ R' = flR (cutR f x mk) b ∧ H' = []) := by
 obtain ⟨os1, os2, on1, on2, owl, odl, orows, ol1, ol2, owear⟩ := ok
 have hok : f.Ok := ⟨os1, os2, on1, on2, owl, odl, orows, ol1, ol2, owear⟩
 refine Ctr.of (X := X) (fn := Try.f58) Try.func58 rfl (by kernel_rfl) rfl ?_
 intro β
 refine C.seq (C.region ?_)
 refine L.boxA rfl rfl (fun A3 => ?_)
 refine L.boxA rfl rfl (fun A4 => ?_)
 refine L.alloc rfl rfl rfl (fun A6 => ?_)
 refine Lpu rfl rfl ?_; refine L.nil (QE.seq (C.seq (C.seq ?_))); refine C.freeze 1 rfl [0, 2] (by decide) (by decide) ?_; refine C.region ?_; refine L.step (Ev.loadA rfl rfl rfl (Src.o 0 rfl) rfl rfl (by decide)) rfl ?_; refine L.step (Ev.loadA rfl rfl rfl (Src.r 0 rfl) rfl rfl (by decide)) rfl ?_; refine L.call (js := []) (js' := [0, 1]) (check_c f a hok hh x XA xc hxl) rfl rfl rfl (by decide) (Hq [1, 2, 3, 4, 5] rfl) rfl ?_
 rintro _ _ _ ⟨rfl, rfl, rfl⟩
 refine Lpu rfl rfl ?_; refine L.nil (QE.seq (C.seq (C.region ?_))); refine Lpu rfl rfl ?_; refine Lpu rfl rfl ?_; refine L.nil (QE.seq ?_)
 refine C.condB 17 rfl (fun hc17 => ?_) (fun hc17 => ?_)
 ·
  replace hc17 := b_ne hc17
  skip
  refine C.seq (C.region ?_); refine L.step (Ev.build rfl rfl rfl rfl rfl rfl rfl) rfl ?_; refine Lpu rfl rfl ?_; refine L.storeA (j := 1) rfl rfl rfl rfl rfl (Nat.zero_lt_succ _) rfl rfl ?_; refine Lpu rfl rfl ?_; refine L.nil (QE.seq (C.ret (QE.tR ?_))); refine QE.more (r := Rd none []) Has.nil ?_; refine QE.more (r := KidsR [] []) Has.kids0 ?_; refine QE.ret (js := [1, 0, 1, 1]) (hs := []) (vs := [_, _]) rfl ⟨⟨_, _, 0, _, rfl, rfl, Src.o 1 rfl, .inl ⟨rfl, by decide, _, rfl, rfl, rfl⟩⟩, rfl, trivial⟩ (by decide) ?_
  refine ⟨az, ?_, ?_, ?_, rfl⟩
  · rw [cutR_bad hc17]; exact ⟨rfl, fun i hi => absurd hi (Nat.not_lt_zero _)⟩
  · rw [cutR_bad hc17]; rfl
  · rw [cutR_bad hc17]; rfl
 ·
  replace hc17 := b_eq hc17
  obtain ⟨q1, ⟨q2, q3, q4⟩, q5, q6⟩ := checkE_ok hc17
  have hrow := orows x.sec.toNat (by omega)
  have hwr := owear x.sec.toNat (by omega)
  refine C.skip (QE.seq (C.seq ?_)); refine C.join (fun q : Nat × Array Value × Option Addr × List Value × Option Addr => [(2, .func (.func mf) #[] mcap), (3, ptrOf A3 0), (4, ptrOf A4 0), (6, ptrOf A6 0), (9, .func (.func q.1) #[] q.2.1), (10, .slice q.2.2.2.2 f.size f.size)]) (fun q : Nat × Array Value × Option Addr × List Value × Option Addr => [Rd q.2.2.1 q.2.2.2.1, Rd A4 [.int .i64 x.kind, .int .i64 x.sec, .int .i64 x.at_, .slice XA x.data.length xc], Rd a.D (rowsV a.hs (B8 f.data)), KidsR a.hs (B8 f.data), Rd a.W (I64 f.wear), Rd a.E (Bs f.dead), Rd XA (U8 x.data), Rd Am wm, Rd Bm zm]) (fun q : Nat × Array Value × Option Addr × List Value × Option Addr => [Own 35 5 A3 1 1 [.int .i64 (f.size : Int), .slice a.D f.data.length a.cD, .slice a.W f.wear.length a.cW, .int .i64 f.limit, .slice a.E f.dead.length a.cE], Own 35 5 A6 1 1 [.int .i64 0, .slice none 0 0, .slice none 0 0, .int .i64 0, .slice none 0 0], Own 5 1 q.2.2.2.2 f.size f.size (List.replicate f.size (.int .u8 0))]) (fun q : Nat × Array Value × Option Addr × List Value × Option Addr => (∀ (i : Nat) (o : UInt8), i ≤ 1000000 → Ctr X q.1 ([.int .i64 (i : Int), .int .u8 (o.toNat : Int)] ++ q.2.1.toList) [Rd q.2.2.1 q.2.2.2.1, Rd XA (U8 x.data)] [] (fun v R' H' => v = .int .u8 ((askB x i o).toNat : Int) ∧ R' = [] ∧ H' = []))) ?_ ?_
  ·
   refine C.regionM [Rd A4 [.int .i64 x.kind, .int .i64 x.sec, .int .i64 x.at_, .slice XA x.data.length xc], Rd a.D (rowsV a.hs (B8 f.data)), KidsR a.hs (B8 f.data), Rd a.W (I64 f.wear), Rd a.E (Bs f.dead), Rd XA (U8 x.data), Rd Am wm, Rd Bm zm, Rd A3 [.int .i64 (f.size : Int), .slice a.D f.data.length a.cD, .slice a.W f.wear.length a.cW, .int .i64 f.limit, .slice a.E f.dead.length a.cE]] ⟨Has.r 0 rfl, Has.r 1 rfl, Has.r 2 rfl, Has.r 3 rfl, Has.r 4 rfl, Has.r 5 rfl, Has.r 6 rfl, Has.r 7 rfl, Has.o 0 rfl, trivial⟩ ?_; refine LM.q 0 rfl (by kernel_rfl) (Ev.loadA rfl rfl rfl (Src.r 0 rfl) rfl rfl (by decide)) rfl ⟨Has.r 0 rfl, Has.r 1 rfl, Has.r 2 rfl, Has.r 3 rfl, Has.r 4 rfl, Has.r 5 rfl, Has.r 6 rfl, Has.r 7 rfl, Has.o 0 rfl, trivial⟩ ?_; refine LM.q 2 rfl (by kernel_rfl) (Ev.fieldAddr rfl rfl rfl rfl rfl rfl (Src.r 8 rfl) (Nat.zero_lt_succ _) rfl) rfl ⟨Has.r 0 rfl, Has.r 1 rfl, Has.r 2 rfl, Has.r 3 rfl, Has.r 4 rfl, Has.r 5 rfl, Has.r 6 rfl, Has.r 7 rfl, Has.o 0 rfl, trivial⟩ ?_; refine LM.q 3 rfl (by kernel_rfl) (Ev.load rfl rfl rfl (Src.r 8 rfl) rfl) rfl ⟨Has.r 0 rfl, Has.r 1 rfl, Has.r 2 rfl, Has.r 3 rfl, Has.r 4 rfl, Has.r 5 rfl, Has.r 6 rfl, Has.r 7 rfl, Has.o 0 rfl, trivial⟩ ?_
   refine LM.alt [1, 4] (by kernel_rfl) (by decide) ⟨Has.r 0 rfl, Has.r 1 rfl, Has.r 2 rfl, Has.r 3 rfl, Has.r 4 rfl, Has.r 5 rfl, Has.r 6 rfl, Has.r 7 rfl, Has.o 0 rfl, trivial⟩ ⟨⟨_, rfl, ?_⟩, ⟨_, rfl, ?_⟩, trivial⟩
   ·
    refine L.callR (js := []) (js' := [0, 1]) (asked_c x XA xc q1 (fun h => by have := q4 h; omega) (fun h => by have := q4 h; omega)) rfl rfl rfl (by decide) trivial rfl ?_
    rintro _ _ _ ⟨fid, cap, Aw, ws, rfl, rfl, rfl, hw⟩
    refine L.nil (QE.m (by kernel_rfl) ?_)
    refine LM.q 5 rfl (by kernel_rfl) (Ev.pure rfl) rfl ⟨Has.r 1 rfl, Has.r 2 rfl, Has.r 3 rfl, Has.r 4 rfl, Has.r 5 rfl, Has.r 6 rfl, Has.r 7 rfl, Has.r 8 rfl, Has.o 0 rfl, trivial⟩ ?_; refine LM.f 4 rfl (by kernel_rfl) ⟨Has.r 1 rfl, Has.r 2 rfl, Has.r 3 rfl, Has.r 4 rfl, Has.r 5 rfl, Has.r 6 rfl, Has.r 7 rfl, Has.r 8 rfl, Has.o 0 rfl, trivial⟩ ?_
    refine L.make rfl rfl rfl rfl rfl rfl rfl rfl rfl (by show 1 * _ ≤ _; omega) (by omega) rfl (fun A24 => ?_)
    refine L.nil (QE.m (by kernel_rfl) ?_)
    refine LM.cut [] (by kernel_rfl) ⟨Has.r 1 rfl, Has.r 2 rfl, Has.r 3 rfl, Has.r 4 rfl, Has.r 5 rfl, Has.r 6 rfl, Has.r 7 rfl, Has.r 8 rfl, Has.o 0 rfl, trivial⟩ ?_; refine LM.f 6 rfl (by kernel_rfl) trivial ?_; refine Lpu rfl rfl ?_
    refine L.nil (QE.m (by kernel_rfl) ?_)
    refine LM.nil (by kernel_rfl) trivial ?_
    refine QE.joined ((fid, cap, Aw, ws, A24)) (by exact hw) (by exact Le.mk' (rs := [0, 1, 2, 3, 4, 5, 6, 7, 8]) (hs := [0, 1, 2]) ⟨rfl, rfl, rfl, rfl, rfl, rfl, trivial⟩ ⟨rfl, rfl, rfl, rfl, rfl, rfl, rfl, rfl, rfl, trivial⟩ ⟨rfl, rfl, rfl, trivial⟩ (by decide))
   ·
    refine L.make rfl rfl rfl rfl rfl rfl rfl rfl rfl (by show 1 * _ ≤ _; omega) (by omega) rfl (fun A24 => ?_)
    refine L.nil (QE.m (by kernel_rfl) ?_)
    refine LM.f 1 rfl (by kernel_rfl) ⟨Has.r 0 rfl, Has.r 1 rfl, Has.r 2 rfl, Has.r 3 rfl, Has.r 4 rfl, Has.r 5 rfl, Has.r 6 rfl, Has.r 7 rfl, Has.o 0 rfl, trivial⟩ ?_; refine L.callR (js := []) (js' := [0, 1, 2]) (asked_c x XA xc q1 (fun h => by have := q4 h; omega) (fun h => by have := q4 h; omega)) rfl rfl rfl (by decide) trivial rfl ?_
    rintro _ _ _ ⟨fid, cap, Aw, ws, rfl, rfl, rfl, hw⟩
    refine L.nil (QE.m (by kernel_rfl) ?_)
    refine LM.f 5 rfl (by kernel_rfl) ⟨Has.r 1 rfl, Has.r 2 rfl, Has.r 3 rfl, Has.r 4 rfl, Has.r 5 rfl, Has.r 6 rfl, Has.r 7 rfl, Has.r 8 rfl, Has.o 0 rfl, trivial⟩ ?_; refine Lpu rfl rfl ?_
    refine L.nil (QE.m (by kernel_rfl) ?_)
    refine LM.cut [] (by kernel_rfl) ⟨Has.r 1 rfl, Has.r 2 rfl, Has.r 3 rfl, Has.r 4 rfl, Has.r 5 rfl, Has.r 6 rfl, Has.r 7 rfl, Has.r 8 rfl, Has.o 0 rfl, trivial⟩ ?_; refine LM.f 6 rfl (by kernel_rfl) trivial ?_; refine Lpu rfl rfl ?_
    refine L.nil (QE.m (by kernel_rfl) ?_)
    refine LM.nil (by kernel_rfl) trivial ?_
    refine QE.joined ((fid, cap, Aw, ws, A24)) (by exact hw) (by exact Le.mk' (rs := [0, 1, 2, 3, 4, 5, 6, 7, 8]) (hs := [0, 1, 2]) ⟨rfl, rfl, rfl, rfl, rfl, rfl, trivial⟩ ⟨rfl, rfl, rfl, rfl, rfl, rfl, rfl, rfl, rfl, trivial⟩ ⟨rfl, rfl, rfl, trivial⟩ (by decide))
  ·
   rintro ⟨fid, cap, Aw, ws, A24⟩ hw
   dsimp only at hw ⊢
   refine QE.seq (C.seq (C.region ?_)); refine Lpu rfl rfl ?_; refine L.step (Ev.fieldAddr rfl rfl rfl rfl rfl rfl (Src.o 0 rfl) (Nat.zero_lt_succ _) rfl) rfl ?_; refine L.step (Ev.load rfl rfl rfl (Src.o 0 rfl) rfl) rfl ?_; refine L.step (Ev.fieldAddr rfl rfl rfl rfl rfl rfl (Src.r 1 rfl) (Nat.zero_lt_succ _) rfl) rfl ?_; refine L.step (Ev.load rfl rfl rfl (Src.r 1 rfl) rfl) rfl ?_; refine L.step (Ev.idx1 (k := x.sec.toNat) rfl rfl rfl rfl rfl rfl (by omega) (by omega) (Src.r 2 rfl) (by rw [rowsV_len (by rw [B8_len]; exact hh), B8_len]; omega)) rfl ?_; refine L.step (Ev.load rfl rfl rfl (Src.r 2 rfl) (rows8_get hh (by omega))) rfl ?_; refine L.copy (j := 2) (o := 0) rfl rfl rfl rfl rfl (fun g h _ => h) rfl rfl ((Src.kid 3 rfl (by rw [B8_len]; exact hh) (x.sec.toNat) (by rw [B8_len]; omega)).cast (B8_get _)) (by rw [U8_len, hrow]; simp) (U8_one _) (by rw [U8_len, hrow]; simp) rfl ?_; refine L.nil (QE.seq (C.seq (C.seq (C.region ?_)))); refine Lpu rfl rfl ?_; refine Lpu rfl rfl ?_; refine Lpu rfl rfl ?_; refine L.nil (QE.seq (C.block ?_)); refine C.loop (fun k : Nat => [(2, .func (.func mf) #[] mcap), (3, ptrOf A3 0), (4, ptrOf A4 0), (6, ptrOf A6 0), (9, .func (.func fid) #[] cap), (10, .slice A24 f.size f.size), (33, .slice A24 f.size f.size), (34, .int .i64 (f.size : Int)), (35, .int .i64 (k : Int))]) (fun k : Nat => [Rd Aw ws, Rd A4 [.int .i64 x.kind, .int .i64 x.sec, .int .i64 x.at_, .slice XA x.data.length xc], Rd a.D (rowsV a.hs (B8 f.data)), KidsR a.hs (B8 f.data), Rd a.W (I64 f.wear), Rd a.E (Bs f.dead), Rd XA (U8 x.data), Rd Am wm, Rd Bm zm]) (fun k : Nat => [Own 35 5 A3 1 1 [.int .i64 (f.size : Int), .slice a.D f.data.length a.cD, .slice a.W f.wear.length a.cW, .int .i64 f.limit, .slice a.E f.dead.length a.cE], Own 35 5 A6 1 1 [.int .i64 0, .slice none 0 0, .slice none 0 0, .int .i64 0, .slice none 0 0], Own 5 1 A24 f.size f.size (U8 (prow (rowB f x mk) (f.data.getD x.sec.toNat []) k))]) (fun k : Nat => k ≤ f.size) (fun k : Nat => f.size - k) 0 (by omega) (by exact Le.mk' (rs := [0, 1, 2, 3, 4, 5, 6, 7, 8]) (hs := [0, 1, 2]) ⟨rfl, rfl, rfl, rfl, rfl, rfl, rfl, rfl, rfl, trivial⟩ ⟨rfl, rfl, rfl, rfl, rfl, rfl, rfl, rfl, rfl, trivial⟩ ⟨rfl, rfl, (congrArg some (own_eq rfl (by rw [prow_zero]; exact copy_all (by rw [U8_len, hrow]; simp)))), trivial⟩ (by decide)) ?_
   intro k hk
   refine C.seq (C.region ?_); refine Lpu rfl rfl ?_; refine L.nil (QE.seq (C.seq ?_))
   refine C.condB 36 rfl (fun hc36 => ?_) (fun hc36 => ?_)
   ·
    replace hc36 := of_decide_eq_true hc36
    refine C.skip (QE.seq (C.seq (C.block (C.seq (C.region ?_))))); refine Lpu rfl rfl ?_; refine L.step (Ev.idx1 (k := k) rfl rfl rfl rfl rfl rfl rfl (by omega) (Src.o 2 rfl) (by rw [U8_len, prow_len (by omega)]; omega)) rfl ?_; refine L.step (Ev.load rfl rfl rfl (Src.o 2 rfl) (prow8_get (by omega))) rfl ?_; refine Lpu rfl rfl ?_; refine Lpu rfl rfl ?_; refine L.nil (QE.seq ?_); refine C.regionM [Rd Aw ws, Rd A4 [.int .i64 x.kind, .int .i64 x.sec, .int .i64 x.at_, .slice XA x.data.length xc], Rd a.D (rowsV a.hs (B8 f.data)), KidsR a.hs (B8 f.data), Rd a.W (I64 f.wear), Rd a.E (Bs f.dead), Rd XA (U8 x.data), Rd Am wm, Rd Bm zm, Rd A24 (U8 (prow (rowB f x mk) (f.data.getD x.sec.toNat []) k))] ⟨Has.r 0 rfl, Has.r 1 rfl, Has.r 2 rfl, Has.r 3 rfl, Has.r 4 rfl, Has.r 5 rfl, Has.r 6 rfl, Has.r 7 rfl, Has.r 8 rfl, Has.o 2 rfl, trivial⟩ ?_; refine LM.q 0 rfl (by kernel_rfl) (Ev.pure rfl) rfl ⟨Has.r 0 rfl, Has.r 1 rfl, Has.r 2 rfl, Has.r 3 rfl, Has.r 4 rfl, Has.r 5 rfl, Has.r 6 rfl, Has.r 7 rfl, Has.r 8 rfl, Has.o 2 rfl, trivial⟩ ?_; refine LM.q 1 rfl (by kernel_rfl) (Ev.pure rfl) rfl ⟨Has.r 0 rfl, Has.r 1 rfl, Has.r 2 rfl, Has.r 3 rfl, Has.r 4 rfl, Has.r 5 rfl, Has.r 6 rfl, Has.r 7 rfl, Has.r 8 rfl, Has.o 2 rfl, trivial⟩ ?_; refine LM.q 2 rfl (by kernel_rfl) (Ev.idx1 (k := k) rfl rfl rfl rfl rfl rfl rfl (by omega) (Src.r 9 rfl) (by rw [U8_len, prow_len (by omega)]; omega)) rfl ⟨Has.r 0 rfl, Has.r 1 rfl, Has.r 2 rfl, Has.r 3 rfl, Has.r 4 rfl, Has.r 5 rfl, Has.r 6 rfl, Has.r 7 rfl, Has.r 8 rfl, Has.o 2 rfl, trivial⟩ ?_; refine LM.q 3 rfl (by kernel_rfl) (Ev.load rfl rfl rfl (Src.r 9 rfl) (prow8_get (by omega))) rfl ⟨Has.r 0 rfl, Has.r 1 rfl, Has.r 2 rfl, Has.r 3 rfl, Has.r 4 rfl, Has.r 5 rfl, Has.r 6 rfl, Has.r 7 rfl, Has.r 8 rfl, Has.o 2 rfl, trivial⟩ ?_; refine LM.q 4 rfl (by kernel_rfl) (Ev.pure rfl) rfl ⟨Has.r 0 rfl, Has.r 1 rfl, Has.r 2 rfl, Has.r 3 rfl, Has.r 4 rfl, Has.r 5 rfl, Has.r 6 rfl, Has.r 7 rfl, Has.r 8 rfl, Has.o 2 rfl, trivial⟩ ?_; refine LM.q 5 rfl (by kernel_rfl) (Ev.pure rfl) rfl ⟨Has.r 0 rfl, Has.r 1 rfl, Has.r 2 rfl, Has.r 3 rfl, Has.r 4 rfl, Has.r 5 rfl, Has.r 6 rfl, Has.r 7 rfl, Has.r 8 rfl, Has.o 2 rfl, trivial⟩ ?_; refine LM.q 6 rfl (by kernel_rfl) (Ev.pure rfl) rfl ⟨Has.r 0 rfl, Has.r 1 rfl, Has.r 2 rfl, Has.r 3 rfl, Has.r 4 rfl, Has.r 5 rfl, Has.r 6 rfl, Has.r 7 rfl, Has.r 8 rfl, Has.o 2 rfl, trivial⟩ ?_; refine LM.q 7 rfl (by kernel_rfl) (Ev.pure rfl) rfl ⟨Has.r 0 rfl, Has.r 1 rfl, Has.r 2 rfl, Has.r 3 rfl, Has.r 4 rfl, Has.r 5 rfl, Has.r 6 rfl, Has.r 7 rfl, Has.r 8 rfl, Has.o 2 rfl, trivial⟩ ?_; refine LM.q 10 rfl (by kernel_rfl) (Ev.pure rfl) rfl ⟨Has.r 0 rfl, Has.r 1 rfl, Has.r 2 rfl, Has.r 3 rfl, Has.r 4 rfl, Has.r 5 rfl, Has.r 6 rfl, Has.r 7 rfl, Has.r 8 rfl, Has.o 2 rfl, trivial⟩ ?_; refine LM.q 11 rfl (by kernel_rfl) (Ev.pure rfl) rfl ⟨Has.r 0 rfl, Has.r 1 rfl, Has.r 2 rfl, Has.r 3 rfl, Has.r 4 rfl, Has.r 5 rfl, Has.r 6 rfl, Has.r 7 rfl, Has.r 8 rfl, Has.o 2 rfl, trivial⟩ ?_; refine LM.f 8 rfl (by kernel_rfl) ⟨Has.r 0 rfl, Has.r 1 rfl, Has.r 2 rfl, Has.r 3 rfl, Has.r 4 rfl, Has.r 5 rfl, Has.r 6 rfl, Has.r 7 rfl, Has.r 8 rfl, Has.o 2 rfl, trivial⟩ ?_; refine L.callv (js := []) (js' := [0, 1, 2]) (hw k ((f.data.getD x.sec.toNat []).getD k 0) (by omega)) rfl rfl rfl rfl rfl (by decide) (Hq [0, 6] rfl) rfl ?_
    rintro _ _ _ ⟨rfl, rfl, rfl⟩
    refine L.nil (QE.m (by kernel_rfl) ?_)
    first | refine LM.q 9 rfl (by kernel_rfl) (Ev.xor8 rfl rfl) rfl ⟨Has.r 0 rfl, Has.r 1 rfl, Has.r 2 rfl, Has.r 3 rfl, Has.r 4 rfl, Has.r 5 rfl, Has.r 6 rfl, Has.r 7 rfl, Has.r 8 rfl, Has.o 2 rfl, trivial⟩ ?_ | refine LM.q 9 rfl (by kernel_rfl) (Ev.pure rfl) rfl ⟨Has.r 0 rfl, Has.r 1 rfl, Has.r 2 rfl, Has.r 3 rfl, Has.r 4 rfl, Has.r 5 rfl, Has.r 6 rfl, Has.r 7 rfl, Has.r 8 rfl, Has.o 2 rfl, trivial⟩ ?_
    refine LM.f 12 rfl (by kernel_rfl) ⟨Has.r 0 rfl, Has.r 1 rfl, Has.r 2 rfl, Has.r 3 rfl, Has.r 4 rfl, Has.r 5 rfl, Has.r 6 rfl, Has.r 7 rfl, Has.r 8 rfl, Has.o 2 rfl, trivial⟩ ?_; refine L.callv (js := []) (js' := [0, 1, 2]) (hm k (by omega)) rfl rfl rfl rfl rfl (by decide) (Hq [7, 8] rfl) rfl ?_
    rintro _ _ _ ⟨rfl, rfl, rfl⟩
    refine L.nil (QE.m (by kernel_rfl) ?_)
    refine LM.f 13 rfl (by kernel_rfl) ⟨Has.r 0 rfl, Has.r 1 rfl, Has.r 2 rfl, Has.r 3 rfl, Has.r 4 rfl, Has.r 5 rfl, Has.r 6 rfl, Has.r 7 rfl, Has.r 8 rfl, Has.o 2 rfl, trivial⟩ ?_
    first | refine L.step (Ev.and8 rfl rfl) rfl ?_ | refine L.step (Ev.pure rfl) rfl ?_
    refine L.nil (QE.m (by kernel_rfl) ?_)
    refine LM.cut [] (by kernel_rfl) ⟨Has.r 0 rfl, Has.r 1 rfl, Has.r 2 rfl, Has.r 3 rfl, Has.r 4 rfl, Has.r 5 rfl, Has.r 6 rfl, Has.r 7 rfl, Has.r 8 rfl, Has.o 2 rfl, trivial⟩ ?_; refine LM.f 14 rfl (by kernel_rfl) trivial ?_
    first | refine L.step (Ev.xor8 rfl rfl) rfl ?_ | refine L.step (Ev.pure rfl) rfl ?_
    refine L.nil (QE.m (by kernel_rfl) ?_)
    refine LM.f 15 rfl (by kernel_rfl) trivial ?_; refine L.step (Ev.idx1 (k := k) rfl rfl rfl rfl rfl rfl rfl (by omega) (Src.o 2 rfl) (by rw [U8_len, prow_len (by omega)]; omega)) rfl ?_
    refine L.nil (QE.m (by kernel_rfl) ?_)
    refine LM.f 16 rfl (by kernel_rfl) trivial ?_; refine L.store (j := 2) rfl rfl rfl rfl rfl rfl rfl (by exact prow8_get (by omega)) ?_
    refine L.nil (QE.m (by kernel_rfl) ?_)
    refine LM.nil (by kernel_rfl) trivial ?_; refine QE.blkN ?_; refine QE.seq (C.region ?_); refine L.step (Ev.add rfl rfl (by omega) (by omega)) rfl ?_; refine Lpu rfl rfl ?_; refine L.nil ?_
    refine QE.round (k + 1) (by omega) (by omega) (by exact Le.mk' (rs := [0, 1, 2, 3, 4, 5, 6, 7, 8]) (hs := [0, 1, 2]) ⟨rfl, rfl, rfl, rfl, rfl, rfl, rfl, rfl, rfl, trivial⟩ ⟨rfl, rfl, rfl, rfl, rfl, rfl, rfl, rfl, rfl, trivial⟩ ⟨rfl, rfl, (congrArg some (by rw [U8_set, mixB_xor, ← prow_set (k := k) (by omega)]; rfl)), trivial⟩ (by decide))
   ·
    replace hc36 := of_decide_eq_false hc36
    refine C.exit ?_; refine QE.tX ?_; refine QE.tX ?_; refine QE.blk ?_; refine QE.seq (C.seq ?_); refine C.regionM [Rd Aw ws, Rd A4 [.int .i64 x.kind, .int .i64 x.sec, .int .i64 x.at_, .slice XA x.data.length xc], Rd a.D (rowsV a.hs (B8 f.data)), KidsR a.hs (B8 f.data), Rd a.W (I64 f.wear), Rd a.E (Bs f.dead), Rd XA (U8 x.data), Rd Am wm, Rd Bm zm, Rd A3 [.int .i64 (f.size : Int), .slice a.D f.data.length a.cD, .slice a.W f.wear.length a.cW, .int .i64 f.limit, .slice a.E f.dead.length a.cE]] ⟨Has.r 0 rfl, Has.r 1 rfl, Has.r 2 rfl, Has.r 3 rfl, Has.r 4 rfl, Has.r 5 rfl, Has.r 6 rfl, Has.r 7 rfl, Has.r 8 rfl, Has.o 0 rfl, trivial⟩ ?_; refine LM.q 0 rfl (by kernel_rfl) (Ev.fieldAddr rfl rfl rfl rfl rfl rfl (Src.r 9 rfl) (Nat.zero_lt_succ _) rfl) rfl ⟨Has.r 0 rfl, Has.r 1 rfl, Has.r 2 rfl, Has.r 3 rfl, Has.r 4 rfl, Has.r 5 rfl, Has.r 6 rfl, Has.r 7 rfl, Has.r 8 rfl, Has.o 0 rfl, trivial⟩ ?_; refine LM.q 1 rfl (by kernel_rfl) (Ev.load rfl rfl rfl (Src.r 9 rfl) rfl) rfl ⟨Has.r 0 rfl, Has.r 1 rfl, Has.r 2 rfl, Has.r 3 rfl, Has.r 4 rfl, Has.r 5 rfl, Has.r 6 rfl, Has.r 7 rfl, Has.r 8 rfl, Has.o 0 rfl, trivial⟩ ?_; refine LM.q 3 rfl (by kernel_rfl) (Ev.fieldAddr rfl rfl rfl rfl rfl rfl (Src.r 9 rfl) (Nat.zero_lt_succ _) rfl) rfl ⟨Has.r 0 rfl, Has.r 1 rfl, Has.r 2 rfl, Has.r 3 rfl, Has.r 4 rfl, Has.r 5 rfl, Has.r 6 rfl, Has.r 7 rfl, Has.r 8 rfl, Has.o 0 rfl, trivial⟩ ?_; refine LM.q 4 rfl (by kernel_rfl) (Ev.load rfl rfl rfl (Src.r 9 rfl) rfl) rfl ⟨Has.r 0 rfl, Has.r 1 rfl, Has.r 2 rfl, Has.r 3 rfl, Has.r 4 rfl, Has.r 5 rfl, Has.r 6 rfl, Has.r 7 rfl, Has.r 8 rfl, Has.o 0 rfl, trivial⟩ ?_; refine LM.q 6 rfl (by kernel_rfl) (Ev.fieldAddr rfl rfl rfl rfl rfl rfl (Src.r 9 rfl) (Nat.zero_lt_succ _) rfl) rfl ⟨Has.r 0 rfl, Has.r 1 rfl, Has.r 2 rfl, Has.r 3 rfl, Has.r 4 rfl, Has.r 5 rfl, Has.r 6 rfl, Has.r 7 rfl, Has.r 8 rfl, Has.o 0 rfl, trivial⟩ ?_; refine LM.q 7 rfl (by kernel_rfl) (Ev.load rfl rfl rfl (Src.r 9 rfl) rfl) rfl ⟨Has.r 0 rfl, Has.r 1 rfl, Has.r 2 rfl, Has.r 3 rfl, Has.r 4 rfl, Has.r 5 rfl, Has.r 6 rfl, Has.r 7 rfl, Has.r 8 rfl, Has.o 0 rfl, trivial⟩ ?_; refine LM.f 2 rfl (by kernel_rfl) ⟨Has.r 0 rfl, Has.r 1 rfl, Has.r 2 rfl, Has.r 3 rfl, Has.r 4 rfl, Has.r 5 rfl, Has.r 6 rfl, Has.r 7 rfl, Has.r 8 rfl, Has.o 0 rfl, trivial⟩ ?_; refine L.call (js := []) (js' := [0, 1, 2]) (cloneD_c _ _ _ _ (rowsV_one _ _) (by rw [rowsV_len (by rw [B8_len]; exact hh), B8_len]) (by omega)) rfl rfl rfl (by decide) (Hq [2] rfl) rfl ?_
    rintro _ _ _ ⟨A59, c59, rfl, rfl, rfl⟩
    refine L.nil (QE.m (by kernel_rfl) ?_)
    refine LM.q 9 rfl (by kernel_rfl) (Ev.fieldAddr rfl rfl rfl rfl rfl rfl (Src.r 9 rfl) (Nat.zero_lt_succ _) rfl) rfl ⟨Has.r 0 rfl, Has.r 1 rfl, Has.r 2 rfl, Has.r 3 rfl, Has.r 4 rfl, Has.r 5 rfl, Has.r 6 rfl, Has.r 7 rfl, Has.r 8 rfl, Has.o 1 rfl, trivial⟩ ?_; refine LM.f 5 rfl (by kernel_rfl) ⟨Has.r 0 rfl, Has.r 1 rfl, Has.r 2 rfl, Has.r 3 rfl, Has.r 4 rfl, Has.r 5 rfl, Has.r 6 rfl, Has.r 7 rfl, Has.r 8 rfl, Has.o 1 rfl, trivial⟩ ?_; refine L.call (js := []) (js' := [0, 1, 2, 3]) (cloneI_c _ _ _ _ (I64_one _) (I64_len _) (by omega)) rfl rfl rfl (by decide) (Hq [4] rfl) rfl ?_
    rintro _ _ _ ⟨A62, c62, rfl, rfl, rfl⟩
    refine L.nil (QE.m (by kernel_rfl) ?_)
    refine LM.f 8 rfl (by kernel_rfl) ⟨Has.r 0 rfl, Has.r 1 rfl, Has.r 2 rfl, Has.r 3 rfl, Has.r 4 rfl, Has.r 5 rfl, Has.r 6 rfl, Has.r 7 rfl, Has.r 8 rfl, Has.o 2 rfl, trivial⟩ ?_; refine L.call (js := []) (js' := [0, 1, 2, 3, 4]) (cloneB_c _ _ _ _ (Bs_one _) (Bs_len _) (by omega)) rfl rfl rfl (by decide) (Hq [5] rfl) rfl ?_
    rintro _ _ _ ⟨A65, c65, rfl, rfl, rfl⟩
    refine L.nil (QE.m (by kernel_rfl) ?_)
    refine LM.cut [] (by kernel_rfl) ⟨Has.r 0 rfl, Has.r 1 rfl, Has.r 2 rfl, Has.r 3 rfl, Has.r 4 rfl, Has.r 5 rfl, Has.r 6 rfl, Has.r 7 rfl, Has.r 8 rfl, Has.o 3 rfl, trivial⟩ ?_; refine LM.f 10 rfl (by kernel_rfl) trivial ?_; refine L.store (j := 3) rfl rfl rfl rfl rfl rfl rfl rfl ?_
    refine L.nil (QE.m (by kernel_rfl) ?_)
    refine LM.f 11 rfl (by kernel_rfl) trivial ?_; refine L.step (Ev.fieldAddr rfl rfl rfl rfl rfl rfl (Src.o 3 rfl) (Nat.zero_lt_succ _) rfl) rfl ?_
    refine L.nil (QE.m (by kernel_rfl) ?_)
    refine LM.f 12 rfl (by kernel_rfl) trivial ?_; refine L.store (j := 3) rfl rfl rfl rfl rfl rfl rfl rfl ?_
    refine L.nil (QE.m (by kernel_rfl) ?_)
    refine LM.f 13 rfl (by kernel_rfl) trivial ?_; refine L.step (Ev.fieldAddr rfl rfl rfl rfl rfl rfl (Src.o 3 rfl) (Nat.zero_lt_succ _) rfl) rfl ?_
    refine L.nil (QE.m (by kernel_rfl) ?_)
    refine LM.f 14 rfl (by kernel_rfl) trivial ?_; refine L.store (j := 3) rfl rfl rfl rfl rfl rfl rfl rfl ?_
    refine L.nil (QE.m (by kernel_rfl) ?_)
    refine LM.nil (by kernel_rfl) trivial ?_; refine QE.seq (C.seq (C.region ?_)); refine L.step (Ev.fieldAddr rfl rfl rfl rfl rfl rfl (Src.o 3 rfl) (Nat.zero_lt_succ _) rfl) rfl ?_; refine L.step (Ev.load rfl rfl rfl (Src.o 3 rfl) rfl) rfl ?_; refine L.step (Ev.fieldAddr rfl rfl rfl rfl rfl rfl (Src.r 1 rfl) (Nat.zero_lt_succ _) rfl) rfl ?_; refine L.step (Ev.load rfl rfl rfl (Src.r 1 rfl) rfl) rfl ?_; refine Lpu rfl rfl ?_; refine L.step (Ev.idx1 (k := x.sec.toNat) rfl rfl rfl rfl rfl rfl (by omega) (by omega) (Src.o 2 rfl) (by rw [rowsV_len (by rw [B8_len]; exact hh), B8_len]; omega)) rfl ?_; refine L.store (j := 2) rfl rfl rfl rfl rfl rfl rfl (by exact rows8_get hh (by omega)) ?_; refine L.nil (QE.seq (C.seq (C.seq (C.region ?_)))); refine L.step (Ev.fieldAddr rfl rfl rfl rfl rfl rfl (Src.r 1 rfl) (Nat.zero_lt_succ _) rfl) rfl ?_; refine L.step (Ev.load rfl rfl rfl (Src.r 1 rfl) rfl) rfl ?_; refine Lpu rfl rfl ?_; refine L.nil (QE.seq ?_)
    refine C.condB 77 rfl (fun hc77 => ?_) (fun hc77 => ?_)
    ·
     replace hc77 := i_eq hc77
     refine C.region ?_; refine L.step (Ev.fieldAddr rfl rfl rfl rfl rfl rfl (Src.o 3 rfl) (Nat.zero_lt_succ _) rfl) rfl ?_; refine L.step (Ev.load rfl rfl rfl (Src.o 3 rfl) rfl) rfl ?_; refine L.step (Ev.fieldAddr rfl rfl rfl rfl rfl rfl (Src.r 1 rfl) (Nat.zero_lt_succ _) rfl) rfl ?_; refine L.step (Ev.load rfl rfl rfl (Src.r 1 rfl) rfl) rfl ?_; refine L.step (Ev.idx1 (k := x.sec.toNat) rfl rfl rfl rfl rfl rfl (by omega) (by omega) (Src.o 1 rfl) (by rw [I64_len]; omega)) rfl ?_; refine L.step (Ev.load rfl rfl rfl (Src.o 1 rfl) (I64_get (by omega))) rfl ?_; refine L.step (Ev.add rfl rfl (by omega) (by omega)) rfl ?_; refine L.step (Ev.idx1 (k := x.sec.toNat) rfl rfl rfl rfl rfl rfl (by omega) (by omega) (Src.o 1 rfl) (by rw [I64_len]; omega)) rfl ?_; refine L.store (j := 1) rfl rfl rfl rfl rfl rfl rfl (by exact I64_get (by omega)) ?_; refine L.nil (QE.seq (C.seq (C.region ?_))); refine L.step (Ev.loadA rfl rfl rfl (Src.o 3 rfl) rfl rfl (by decide)) rfl ?_; refine L.storeA (j := 4) rfl rfl rfl rfl rfl (Nat.zero_lt_succ _) rfl rfl ?_; refine Lpu rfl rfl ?_; refine L.nil (QE.seq (C.ret ?_)); refine QE.freeze 2 rfl [0, 1, 3, 4, 5] (by decide) (by decide) ?_; refine QE.freeze 1 rfl [0, 2, 3, 4] (by decide) (by decide) ?_; refine QE.freeze 0 rfl [1, 2, 3] (by decide) (by decide) ?_; refine QE.freeze 2 rfl [0, 1] (by decide) (by decide) ?_; refine QE.more (r := KidsR (a.hs.set x.sec.toNat (A24, f.size)) ((B8 f.data).set x.sec.toNat (U8 (prow (rowB f x mk) (f.data.getD x.sec.toNat []) k)))) (Has.kidsSet 7 0 x.sec.toNat f.size rfl rfl) ?_; refine QE.ret (js := [4, 0, 3, 2]) (hs := []) (vs := [_, _]) rfl ⟨⟨_, _, 0, _, rfl, rfl, Src.o 1 rfl, .inl ⟨rfl, by decide, _, rfl, rfl, rfl⟩⟩, rfl, trivial⟩ (by decide) ?_
     obtain rfl : k = f.size := by omega
     refine apply_post2 hok hc17 hh hrow hcap ?_
     first | (rw [I64_set]; unfold cutF; rw [if_pos hc77]) | (unfold cutF; rw [if_neg hc77])
    ·
     replace hc77 := i_ne hc77
     refine C.skip (QE.seq (C.seq (C.region ?_))); refine L.step (Ev.loadA rfl rfl rfl (Src.o 3 rfl) rfl rfl (by decide)) rfl ?_; refine L.storeA (j := 4) rfl rfl rfl rfl rfl (Nat.zero_lt_succ _) rfl rfl ?_; refine Lpu rfl rfl ?_; refine L.nil (QE.seq (C.ret ?_)); refine QE.freeze 2 rfl [0, 1, 3, 4, 5] (by decide) (by decide) ?_; refine QE.freeze 1 rfl [0, 2, 3, 4] (by decide) (by decide) ?_; refine QE.freeze 0 rfl [1, 2, 3] (by decide) (by decide) ?_; refine QE.freeze 2 rfl [0, 1] (by decide) (by decide) ?_; refine QE.more (r := KidsR (a.hs.set x.sec.toNat (A24, f.size)) ((B8 f.data).set x.sec.toNat (U8 (prow (rowB f x mk) (f.data.getD x.sec.toNat []) k)))) (Has.kidsSet 7 0 x.sec.toNat f.size rfl rfl) ?_; refine QE.ret (js := [4, 0, 3, 2]) (hs := []) (vs := [_, _]) rfl ⟨⟨_, _, 0, _, rfl, rfl, Src.o 1 rfl, .inl ⟨rfl, by decide, _, rfl, rfl, rfl⟩⟩, rfl, trivial⟩ (by decide) ?_
     obtain rfl : k = f.size := by omega
     refine apply_post2 hok hc17 hh hrow hcap ?_
     first | (rw [I64_set]; unfold cutF; rw [if_pos hc77]) | (unfold cutF; rw [if_neg hc77])

theorem do2_c (f : Fl) (a : Fa) (ok : f.Ok) (hh : a.hs.length = f.data.length) (x : Fo) (XA : Option Addr) (xc : Nat) (hxl : x.data.length ≤ 9223372036854775807) (hcap : Caps f a) :
   Ctr X 30 [.agg (List.toArray [.int .i64 (f.size : Int), .slice a.D f.data.length a.cD, .slice a.W f.wear.length a.cW, .int .i64 f.limit, .slice a.E f.dead.length a.cE]), .agg (List.toArray [.int .i64 x.kind, .int .i64 x.sec, .int .i64 x.at_, .slice XA x.data.length xc])] [Rd a.D (rowsV a.hs (B8 f.data)), KidsR a.hs (B8 f.data), Rd a.W (I64 f.wear), Rd a.E (Bs f.dead), Rd XA (U8 x.data)] [] (fun v R' H' => ∃ b : Fa, (b.hs.length = (cutR f x (fun _ => 255)).data.length ∧ Caps (cutR f x (fun _ => 255)) b) ∧ v = .tuple #[flV (cutR f x (fun _ => 255)) b, .int .i64 (checkE f x)] ∧ R' = flR (cutR f x (fun _ => 255)) b ∧ H' = []) := by
 refine Ctr.of (X := X) (fn := Try.f30) Try.func30 rfl (by kernel_rfl) rfl ?_
 intro β
 refine C.seq (C.region ?_)
 refine L.boxA rfl rfl (fun A2 => ?_)
 refine L.boxA rfl rfl (fun A3 => ?_)
 refine L.alloc rfl rfl rfl (fun A4 => ?_)
 refine Lpu rfl rfl ?_; refine L.nil (QE.seq (C.seq ?_)); refine C.freeze 0 rfl [1, 2] (by decide) (by decide) ?_; refine C.freeze 0 rfl [1] (by decide) (by decide) ?_; refine C.region ?_; refine L.step (Ev.loadA rfl rfl rfl (Src.r 1 rfl) rfl rfl (by decide)) rfl ?_; refine L.step (Ev.loadA rfl rfl rfl (Src.r 0 rfl) rfl rfl (by decide)) rfl ?_; refine L.callR (js := []) (js' := [0]) (apply2_c f a ok hh x XA xc hxl 59 #[] (fun _ => 255) none none [] [] (fun i hi => do1R_c _ _ _ _ i) hcap) rfl rfl rfl (by decide) ⟨(Has.r 2 rfl), (Has.r 3 rfl), (Has.r 4 rfl), (Has.r 5 rfl), (Has.r 6 rfl), Has.nil, Has.nil, trivial⟩ rfl ?_
 rintro _ _ _ ⟨b, hb, rfl, rfl, rfl⟩
 refine Lpu rfl rfl ?_; refine Lpu rfl rfl ?_; refine L.storeA (j := 0) rfl rfl rfl rfl rfl (Nat.zero_lt_succ _) rfl rfl ?_; refine Lpu rfl rfl ?_; refine L.nil (QE.seq (C.ret ?_)); refine QE.ret (js := [0, 1, 2, 3]) (hs := []) (vs := [_, _]) rfl ⟨⟨_, _, 0, _, rfl, rfl, Src.o 0 rfl, .inl ⟨rfl, by decide, _, rfl, rfl, rfl⟩⟩, rfl, trivial⟩ (by decide) ?_
 exact ⟨b, hb, rfl, rfl, rfl⟩

theorem cut17C_c (f : Fl) (a : Fa) (ok : f.Ok) (hh : a.hs.length = f.data.length) (x : Fo) (XA : Option Addr) (xc : Nat) (hxl : x.data.length ≤ 9223372036854775807) (ms : List UInt8) (M : Option Addr) (mn mc : Nat) (hmn : ms.length = mn) (hml : ms.length ≤ 9223372036854775807) :
   Ctr X 32 [.agg (List.toArray [.int .i64 (f.size : Int), .slice a.D f.data.length a.cD, .slice a.W f.wear.length a.cW, .int .i64 f.limit, .slice a.E f.dead.length a.cE]), .agg (List.toArray [.int .i64 x.kind, .int .i64 x.sec, .int .i64 x.at_, .slice XA x.data.length xc]), .slice M mn mc] [Rd a.D (rowsV a.hs (B8 f.data)), KidsR a.hs (B8 f.data), Rd a.W (I64 f.wear), Rd a.E (Bs f.dead), Rd XA (U8 x.data), Rd M (U8 ms)] [] (fun v R' H' => ∃ b : Fa, (b.hs.length = (cutR f x (fun i => ms.getD i 0)).data.length ∧ Caps (cutR f x (fun i => ms.getD i 0)) b) ∧ v = .tuple #[flV (cutR f x (fun i => ms.getD i 0)) b, .int .i64 (checkE f x)] ∧ R' = flR (cutR f x (fun i => ms.getD i 0)) b ∧ H' = []) := by
 subst hmn
 obtain ⟨os1, os2, on1, on2, owl, odl, orows, ol1, ol2, owear⟩ := ok
 have hok : f.Ok := ⟨os1, os2, on1, on2, owl, odl, orows, ol1, ol2, owear⟩
 refine Ctr.of (X := X) (fn := Try.f32) Try.func32 rfl (by kernel_rfl) rfl ?_
 intro β
 refine C.seq (C.region ?_)
 refine L.boxA rfl rfl (fun A3 => ?_)
 refine L.boxA rfl rfl (fun A4 => ?_)
 refine L.alloc rfl rfl rfl (fun A6 => ?_)
 refine Lpu rfl rfl ?_; refine L.nil (QE.seq (C.seq ?_)); refine C.freeze 0 rfl [1, 2] (by decide) (by decide) ?_; refine C.freeze 0 rfl [1] (by decide) (by decide) ?_; refine C.region ?_; refine L.step (Ev.loadA rfl rfl rfl (Src.r 1 rfl) rfl rfl (by decide)) rfl ?_; refine L.step (Ev.loadA rfl rfl rfl (Src.r 0 rfl) rfl rfl (by decide)) rfl ?_; refine L.call (js := []) (js' := [0]) (check17_c f a hok hh x XA xc hxl) rfl rfl rfl (by decide) (Hq [2, 3, 4, 5, 6] rfl) rfl ?_
 rintro _ _ _ ⟨rfl, rfl, rfl⟩
 refine Lpu rfl rfl ?_; refine L.nil (QE.seq (C.seq (C.seq (C.region ?_)))); refine Lpu rfl rfl ?_; refine Lpu rfl rfl ?_; refine L.nil (QE.seq ?_)
 refine C.condB 17 rfl (fun hc17 => ?_) (fun hc17 => ?_)
 ·
  replace hc17 := b_ne hc17
  skip
  refine C.seq (C.region ?_); refine L.step (Ev.build rfl rfl rfl rfl rfl rfl rfl) rfl ?_; refine Lpu rfl rfl ?_; refine L.storeA (j := 0) rfl rfl rfl rfl rfl (Nat.zero_lt_succ _) rfl rfl ?_; refine Lpu rfl rfl ?_; refine L.nil (QE.seq (C.ret (QE.tR ?_))); refine QE.more (r := Rd none []) Has.nil ?_; refine QE.more (r := KidsR [] []) Has.kids0 ?_; refine QE.ret (js := [1, 0, 1, 1]) (hs := []) (vs := [_, _]) rfl ⟨⟨_, _, 0, _, rfl, rfl, Src.o 0 rfl, .inl ⟨rfl, by decide, _, rfl, rfl, rfl⟩⟩, rfl, trivial⟩ (by decide) ?_
  refine ⟨az, ?_, ?_, ?_, rfl⟩
  · rw [cutR_bad hc17]; exact ⟨rfl, fun i hi => absurd hi (Nat.not_lt_zero _)⟩
  · rw [cutR_bad hc17]; rfl
  · rw [cutR_bad hc17]; rfl
 ·
  replace hc17 := b_eq hc17
  obtain ⟨q1, ⟨q2, q3, q4⟩, q5, q6⟩ := checkE_ok hc17
  have hrow := orows x.sec.toNat (by omega)
  have hwr := owear x.sec.toNat (by omega)
  refine C.skip (QE.seq (C.seq ?_)); refine C.join (fun q : Fa × Option Addr × Option Addr × Nat => [(2, .slice M ms.length mc), (3, ptrOf A3 0), (4, ptrOf A4 0), (6, ptrOf A6 0), (9, ptrOf q.2.1 0), (10, .slice q.2.2.1 f.size q.2.2.2)]) (fun q : Fa × Option Addr × Option Addr × Nat => [Rd A4 [.int .i64 x.kind, .int .i64 x.sec, .int .i64 x.at_, .slice XA x.data.length xc], Rd A3 [.int .i64 (f.size : Int), .slice a.D f.data.length a.cD, .slice a.W f.wear.length a.cW, .int .i64 f.limit, .slice a.E f.dead.length a.cE], Rd a.D (rowsV a.hs (B8 f.data)), KidsR a.hs (B8 f.data), Rd a.W (I64 f.wear), Rd a.E (Bs f.dead), Rd XA (U8 x.data), Rd M (U8 ms)]) (fun q : Fa × Option Addr × Option Addr × Nat => [Own 35 5 A6 1 1 [.int .i64 0, .slice none 0 0, .slice none 0 0, .int .i64 0, .slice none 0 0], Own 35 5 q.2.1 1 1 [.int .i64 (f.size : Int), .slice q.1.D f.data.length q.1.cD, .slice q.1.W f.wear.length q.1.cW, .int .i64 f.limit, .slice q.1.E f.dead.length q.1.cE], Own 45 1 q.1.D f.data.length q.1.cD (rowsV q.1.hs (B8 f.data)), OwnKids 5 q.1.hs (B8 f.data), Own 3 1 q.1.W f.wear.length q.1.cW (I64 f.wear), Own 4 1 q.1.E f.dead.length q.1.cE (Bs f.dead), Own 5 1 q.2.2.1 f.size q.2.2.2 (U8 (askRow f x))]) (fun q : Fa × Option Addr × Option Addr × Nat => q.1.hs.length = f.data.length ∧ (∀ i, i < f.data.length → (f.data.getD i []).length ≤ (q.1.hs.getD i (none, 0)).2)) ?_ ?_
  ·
   refine C.regionM [Rd A4 [.int .i64 x.kind, .int .i64 x.sec, .int .i64 x.at_, .slice XA x.data.length xc], Rd A3 [.int .i64 (f.size : Int), .slice a.D f.data.length a.cD, .slice a.W f.wear.length a.cW, .int .i64 f.limit, .slice a.E f.dead.length a.cE], Rd a.D (rowsV a.hs (B8 f.data)), KidsR a.hs (B8 f.data), Rd a.W (I64 f.wear), Rd a.E (Bs f.dead), Rd XA (U8 x.data), Rd M (U8 ms)] (Hq [0, 1, 2, 3, 4, 5, 6, 7] rfl) ?_; refine LM.q 0 rfl (by kernel_rfl) (Ev.loadA rfl rfl rfl (Src.r 1 rfl) rfl rfl (by decide)) rfl (Hq [0, 1, 2, 3, 4, 5, 6, 7] rfl) ?_; refine LM.q 2 rfl (by kernel_rfl) (Ev.loadA rfl rfl rfl (Src.r 1 rfl) rfl rfl (by decide)) rfl (Hq [0, 1, 2, 3, 4, 5, 6, 7] rfl) ?_; refine LM.q 3 rfl (by kernel_rfl) (Ev.loadA rfl rfl rfl (Src.r 0 rfl) rfl rfl (by decide)) rfl (Hq [0, 1, 2, 3, 4, 5, 6, 7] rfl) ?_
   refine LM.alt [1, 5] (by kernel_rfl) (by decide) (Hq [0, 1, 2, 3, 4, 5, 6, 7] rfl) ⟨⟨_, rfl, ?_⟩, ⟨_, rfl, ?_⟩, trivial⟩
   ·
    refine L.call (js := []) (js' := [0]) (copied_c f a hok hh) rfl rfl rfl (by decide) (Hq [2, 3, 4, 5] rfl) rfl ?_
    rintro _ _ _ ⟨b, rfl, rfl, rfl, hb⟩
    refine L.kcaps 1 rfl (fun hkc => ?_)
    refine L.nil (QE.m (by kernel_rfl) ?_)
    refine LM.alt [4, 5] (by kernel_rfl) (by decide) (Hq [0, 1, 2, 3, 4, 5, 6, 7] rfl) ⟨⟨_, rfl, ?_⟩, ⟨_, rfl, ?_⟩, trivial⟩
    ·
     refine L.call (js := []) (js' := [0, 1, 2, 3, 4]) (asked17_c f a hok hh x XA xc hxl hc17) rfl rfl rfl (by decide) (Hq [2, 3, 4, 5, 6] rfl) rfl ?_
     rintro _ _ _ ⟨A24, c24, rfl, rfl, rfl⟩
     refine L.nil (QE.m (by kernel_rfl) ?_)
     refine LM.f 5 rfl (by kernel_rfl) (Hq [0, 1, 2, 3, 4, 5, 6, 7] rfl) ?_
     refine L.alloc rfl rfl rfl (fun A9 => ?_)
     refine L.nil (QE.m (by kernel_rfl) ?_)
     refine LM.cut [] (by kernel_rfl) (Hq [0, 1, 2, 3, 4, 5, 6, 7] rfl) ?_; refine LM.f 6 rfl (by kernel_rfl) trivial ?_; refine L.storeA (j := 6) rfl rfl rfl rfl rfl (Nat.zero_lt_succ _) rfl rfl ?_
     refine L.nil (QE.m (by kernel_rfl) ?_)
     refine LM.f 7 rfl (by kernel_rfl) trivial ?_; refine Lpu rfl rfl ?_
     refine L.nil (QE.m (by kernel_rfl) ?_)
     refine LM.nil (by kernel_rfl) trivial ?_
     refine QE.joined ((b, A9, A24, c24)) (by exact ⟨hb, hkc⟩) (by exact Le.mk' (rs := [0, 1, 2, 3, 4, 5, 6, 7]) (hs := [5, 6, 1, 2, 3, 4, 0]) ⟨rfl, rfl, rfl, rfl, rfl, rfl, trivial⟩ ⟨rfl, rfl, rfl, rfl, rfl, rfl, rfl, rfl, trivial⟩ ⟨rfl, rfl, rfl, rfl, rfl, rfl, rfl, trivial⟩ (by decide))
    ·
     refine L.alloc rfl rfl rfl (fun A9 => ?_)
     refine L.nil (QE.m (by kernel_rfl) ?_)
     refine LM.f 4 rfl (by kernel_rfl) (Hq [0, 1, 2, 3, 4, 5, 6, 7] rfl) ?_; refine L.call (js := []) (js' := [0, 1, 2, 3, 4, 5]) (asked17_c f a hok hh x XA xc hxl hc17) rfl rfl rfl (by decide) (Hq [2, 3, 4, 5, 6] rfl) rfl ?_
     rintro _ _ _ ⟨A24, c24, rfl, rfl, rfl⟩
     refine L.nil (QE.m (by kernel_rfl) ?_)
     refine LM.cut [] (by kernel_rfl) (Hq [0, 1, 2, 3, 4, 5, 6, 7] rfl) ?_; refine LM.f 6 rfl (by kernel_rfl) trivial ?_; refine L.storeA (j := 6) rfl rfl rfl rfl rfl (Nat.zero_lt_succ _) rfl rfl ?_
     refine L.nil (QE.m (by kernel_rfl) ?_)
     refine LM.f 7 rfl (by kernel_rfl) trivial ?_; refine Lpu rfl rfl ?_
     refine L.nil (QE.m (by kernel_rfl) ?_)
     refine LM.nil (by kernel_rfl) trivial ?_
     refine QE.joined ((b, A9, A24, c24)) (by exact ⟨hb, hkc⟩) (by exact Le.mk' (rs := [0, 1, 2, 3, 4, 5, 6, 7]) (hs := [5, 6, 1, 2, 3, 4, 0]) ⟨rfl, rfl, rfl, rfl, rfl, rfl, trivial⟩ ⟨rfl, rfl, rfl, rfl, rfl, rfl, rfl, rfl, trivial⟩ ⟨rfl, rfl, rfl, rfl, rfl, rfl, rfl, trivial⟩ (by decide))
   ·
    refine L.alloc rfl rfl rfl (fun A9 => ?_)
    refine L.nil (QE.m (by kernel_rfl) ?_)
    refine LM.f 1 rfl (by kernel_rfl) (Hq [0, 1, 2, 3, 4, 5, 6, 7] rfl) ?_; refine L.call (js := []) (js' := [0, 1]) (copied_c f a hok hh) rfl rfl rfl (by decide) (Hq [2, 3, 4, 5] rfl) rfl ?_
    rintro _ _ _ ⟨b, rfl, rfl, rfl, hb⟩
    refine L.kcaps 1 rfl (fun hkc => ?_)
    refine L.nil (QE.m (by kernel_rfl) ?_)
    refine LM.f 4 rfl (by kernel_rfl) (Hq [0, 1, 2, 3, 4, 5, 6, 7] rfl) ?_; refine L.call (js := []) (js' := [0, 1, 2, 3, 4, 5]) (asked17_c f a hok hh x XA xc hxl hc17) rfl rfl rfl (by decide) (Hq [2, 3, 4, 5, 6] rfl) rfl ?_
    rintro _ _ _ ⟨A24, c24, rfl, rfl, rfl⟩
    refine L.nil (QE.m (by kernel_rfl) ?_)
    refine LM.cut [] (by kernel_rfl) (Hq [0, 1, 2, 3, 4, 5, 6, 7] rfl) ?_; refine LM.f 6 rfl (by kernel_rfl) trivial ?_; refine L.storeA (j := 6) rfl rfl rfl rfl rfl (Nat.zero_lt_succ _) rfl rfl ?_
    refine L.nil (QE.m (by kernel_rfl) ?_)
    refine LM.f 7 rfl (by kernel_rfl) trivial ?_; refine Lpu rfl rfl ?_
    refine L.nil (QE.m (by kernel_rfl) ?_)
    refine LM.nil (by kernel_rfl) trivial ?_
    refine QE.joined ((b, A9, A24, c24)) (by exact ⟨hb, hkc⟩) (by exact Le.mk' (rs := [0, 1, 2, 3, 4, 5, 6, 7]) (hs := [5, 6, 1, 2, 3, 4, 0]) ⟨rfl, rfl, rfl, rfl, rfl, rfl, trivial⟩ ⟨rfl, rfl, rfl, rfl, rfl, rfl, rfl, rfl, trivial⟩ ⟨rfl, rfl, rfl, rfl, rfl, rfl, rfl, trivial⟩ (by decide))
  ·
   rintro ⟨b, A9, A24, c24⟩ ⟨hb, hkc⟩
   dsimp only at hb hkc ⊢
   refine QE.seq (C.seq (C.seq ?_)); refine C.freeze 1 rfl [0, 2, 3, 4, 5, 6] (by decide) (by decide) ?_; refine C.freeze 1 rfl [0, 2, 3, 4, 5] (by decide) (by decide) ?_; refine C.freeze 3 rfl [0, 1, 2, 4] (by decide) (by decide) ?_; refine C.freeze 3 rfl [0, 1, 2] (by decide) (by decide) ?_; refine C.region ?_; refine Lpu rfl rfl ?_; refine L.nil (QE.seq (C.block ?_)); refine C.loop (fun k : Nat => [(2, .slice M ms.length mc), (3, ptrOf A3 0), (4, ptrOf A4 0), (6, ptrOf A6 0), (9, ptrOf A9 0), (10, .slice A24 f.size c24), (11, .int .i64 (k : Int))]) (fun k : Nat => [Rd A24 (U8 (askRow f x)), Rd b.E (Bs f.dead), Rd b.D (rowsV b.hs (B8 f.data)), Rd A9 [.int .i64 (f.size : Int), .slice b.D f.data.length b.cD, .slice b.W f.wear.length b.cW, .int .i64 f.limit, .slice b.E f.dead.length b.cE], Rd A4 [.int .i64 x.kind, .int .i64 x.sec, .int .i64 x.at_, .slice XA x.data.length xc], Rd A3 [.int .i64 (f.size : Int), .slice a.D f.data.length a.cD, .slice a.W f.wear.length a.cW, .int .i64 f.limit, .slice a.E f.dead.length a.cE], Rd a.D (rowsV a.hs (B8 f.data)), KidsR a.hs (B8 f.data), Rd a.W (I64 f.wear), Rd a.E (Bs f.dead), Rd XA (U8 x.data), Rd M (U8 ms)]) (fun k : Nat => [Own 35 5 A6 1 1 [.int .i64 0, .slice none 0 0, .slice none 0 0, .int .i64 0, .slice none 0 0], OwnKids 5 b.hs (B8 (f.data.set x.sec.toNat (prow (rowB f x (fun i => ms.getD i 0)) (f.data.getD x.sec.toNat []) k))), Own 3 1 b.W f.wear.length b.cW (I64 f.wear)]) (fun k : Nat => k ≤ f.size ∧ k ≤ ms.length) (fun k : Nat => f.size - k) 0 ⟨by omega, by omega⟩ (by exact Le.mk' (rs := [0, 1, 2, 3, 4, 5, 6, 7, 8, 9, 10, 11]) (hs := [0, 1, 2]) ⟨rfl, rfl, rfl, rfl, rfl, rfl, rfl, trivial⟩ ⟨rfl, rfl, rfl, rfl, rfl, rfl, rfl, rfl, rfl, rfl, rfl, rfl, trivial⟩ ⟨rfl, (by rw [prow_zero, set_getD]; rfl), rfl, trivial⟩ (by decide)) ?_
   rintro k ⟨hk, hkm⟩
   refine C.seq (C.seq (C.region ?_)); refine Lpu rfl rfl ?_; refine L.step (Ev.fieldAddr rfl rfl rfl rfl rfl rfl (Src.r 5 rfl) (Nat.zero_lt_succ _) rfl) rfl ?_; refine L.step (Ev.load rfl rfl rfl (Src.r 5 rfl) rfl) rfl ?_; refine Lpu rfl rfl ?_; refine Lpu rfl rfl ?_
   refine L.bool 29 rfl (fun hg29 => ?_) (fun hg29 => ?_)
   ·
    replace hg29 := of_decide_eq_true hg29
    refine L.yes rfl ?_; refine Lpu rfl rfl ?_; refine L.yes rfl ?_; refine Lpu rfl rfl ?_; refine L.yes rfl ?_; refine Lpu rfl rfl ?_; refine L.yes rfl ?_; refine Lpu rfl rfl ?_; refine Lpu rfl rfl ?_; refine L.nil (QE.seq ?_)
    refine C.condB 34 rfl (fun hc34 => ?_) (fun hc34 => ?_)
    ·
     replace hc34 := of_decide_eq_true hc34
     refine C.skip (QE.seq (C.seq (C.block (C.seq (C.region ?_))))); refine L.step (Ev.fieldAddr rfl rfl rfl rfl rfl rfl (Src.r 5 rfl) (Nat.zero_lt_succ _) rfl) rfl ?_; refine L.step (Ev.load rfl rfl rfl (Src.r 5 rfl) rfl) rfl ?_; refine L.step (Ev.fieldAddr rfl rfl rfl rfl rfl rfl (Src.r 4 rfl) (Nat.zero_lt_succ _) rfl) rfl ?_; refine L.step (Ev.load rfl rfl rfl (Src.r 4 rfl) rfl) rfl ?_; refine L.step (Ev.idx1 (k := x.sec.toNat) rfl rfl rfl rfl rfl rfl (by omega) (by omega) (Src.r 6 rfl) (by rw [rowsV_len (by rw [B8_len]; exact hh), B8_len]; omega)) rfl ?_; refine L.step (Ev.load rfl rfl rfl (Src.r 6 rfl) (rows8_get hh (by omega))) rfl ?_; refine Lpu rfl rfl ?_; refine L.step (Ev.idx1 (k := k) rfl rfl rfl rfl rfl rfl rfl (by omega) ((Src.kid 7 rfl (by rw [B8_len]; exact hh) (x.sec.toNat) (by rw [B8_len]; omega)).cast (B8_get _)) (by rw [U8_len]; omega)) rfl ?_; refine L.step (Ev.load rfl rfl rfl ((Src.kid 7 rfl (by rw [B8_len]; exact hh) (x.sec.toNat) (by rw [B8_len]; omega)).cast (B8_get _)) (U8_get (by omega))) rfl ?_; refine Lpu rfl rfl ?_; refine L.nil (QE.seq ?_); refine C.regionM [Rd A24 (U8 (askRow f x)), Rd b.E (Bs f.dead), Rd b.D (rowsV b.hs (B8 f.data)), Rd A9 [.int .i64 (f.size : Int), .slice b.D f.data.length b.cD, .slice b.W f.wear.length b.cW, .int .i64 f.limit, .slice b.E f.dead.length b.cE], Rd A4 [.int .i64 x.kind, .int .i64 x.sec, .int .i64 x.at_, .slice XA x.data.length xc], Rd A3 [.int .i64 (f.size : Int), .slice a.D f.data.length a.cD, .slice a.W f.wear.length a.cW, .int .i64 f.limit, .slice a.E f.dead.length a.cE], Rd a.D (rowsV a.hs (B8 f.data)), KidsR a.hs (B8 f.data), Rd a.W (I64 f.wear), Rd a.E (Bs f.dead), Rd XA (U8 x.data), Rd M (U8 ms)] (Hq [0, 1, 2, 3, 4, 5, 6, 7, 8, 9, 10, 11] rfl) ?_; refine LM.q 0 rfl (by kernel_rfl) (Ev.fieldAddr rfl rfl rfl rfl rfl rfl (Src.r 3 rfl) (Nat.zero_lt_succ _) rfl) rfl (Hq [0, 1, 2, 3, 4, 5, 6, 7, 8, 9, 10, 11] rfl) ?_; refine LM.q 1 rfl (by kernel_rfl) (Ev.load rfl rfl rfl (Src.r 3 rfl) rfl) rfl (Hq [0, 1, 2, 3, 4, 5, 6, 7, 8, 9, 10, 11] rfl) ?_; refine LM.q 2 rfl (by kernel_rfl) (Ev.fieldAddr rfl rfl rfl rfl rfl rfl (Src.r 4 rfl) (Nat.zero_lt_succ _) rfl) rfl (Hq [0, 1, 2, 3, 4, 5, 6, 7, 8, 9, 10, 11] rfl) ?_; refine LM.q 3 rfl (by kernel_rfl) (Ev.load rfl rfl rfl (Src.r 4 rfl) rfl) rfl (Hq [0, 1, 2, 3, 4, 5, 6, 7, 8, 9, 10, 11] rfl) ?_; refine LM.q 4 rfl (by kernel_rfl) (Ev.idx1 (k := x.sec.toNat) rfl rfl rfl rfl rfl rfl (by omega) (by omega) (Src.r 2 rfl) (by rw [rowsV_len (by rw [B8_len]; exact hb), B8_len]; omega)) rfl (Hq [0, 1, 2, 3, 4, 5, 6, 7, 8, 9, 10, 11] rfl) ?_; refine LM.q 5 rfl (by kernel_rfl) (Ev.load rfl rfl rfl (Src.r 2 rfl) (rows8_get hb (by omega))) rfl (Hq [0, 1, 2, 3, 4, 5, 6, 7, 8, 9, 10, 11] rfl) ?_; refine LM.q 6 rfl (by kernel_rfl) (Ev.pure rfl) rfl (Hq [0, 1, 2, 3, 4, 5, 6, 7, 8, 9, 10, 11] rfl) ?_; refine LM.q 7 rfl (by kernel_rfl) (Ev.pure rfl) rfl (Hq [0, 1, 2, 3, 4, 5, 6, 7, 8, 9, 10, 11] rfl) ?_; refine LM.q 8 rfl (by kernel_rfl) (Ev.pure rfl) rfl (Hq [0, 1, 2, 3, 4, 5, 6, 7, 8, 9, 10, 11] rfl) ?_; refine LM.q 9 rfl (by kernel_rfl) (Ev.pure rfl) rfl (Hq [0, 1, 2, 3, 4, 5, 6, 7, 8, 9, 10, 11] rfl) ?_; refine LM.q 10 rfl (by kernel_rfl) (Ev.idx1 (k := k) rfl rfl rfl rfl rfl rfl rfl (by omega) (Src.r 11 rfl) (by rw [U8_len]; omega)) rfl (Hq [0, 1, 2, 3, 4, 5, 6, 7, 8, 9, 10, 11] rfl) ?_; refine LM.q 11 rfl (by kernel_rfl) (Ev.load rfl rfl rfl (Src.r 11 rfl) (U8_get (by omega))) rfl (Hq [0, 1, 2, 3, 4, 5, 6, 7, 8, 9, 10, 11] rfl) ?_
     first | refine LM.q 12 rfl (by kernel_rfl) (Ev.andNot8 rfl rfl) rfl (Hq [0, 1, 2, 3, 4, 5, 6, 7, 8, 9, 10, 11] rfl) ?_ | refine LM.q 12 rfl (by kernel_rfl) (Ev.pure rfl) rfl (Hq [0, 1, 2, 3, 4, 5, 6, 7, 8, 9, 10, 11] rfl) ?_
     refine LM.q 13 rfl (by kernel_rfl) (Ev.pure rfl) rfl (Hq [0, 1, 2, 3, 4, 5, 6, 7, 8, 9, 10, 11] rfl) ?_; refine LM.q 14 rfl (by kernel_rfl) (Ev.pure rfl) rfl (Hq [0, 1, 2, 3, 4, 5, 6, 7, 8, 9, 10, 11] rfl) ?_; refine LM.q 15 rfl (by kernel_rfl) (Ev.idx1 (k := k) rfl rfl rfl rfl rfl rfl rfl (by omega) (Src.r 0 rfl) (by rw [U8_len, askRow_len]; omega)) rfl (Hq [0, 1, 2, 3, 4, 5, 6, 7, 8, 9, 10, 11] rfl) ?_; refine LM.q 16 rfl (by kernel_rfl) (Ev.load rfl rfl rfl (Src.r 0 rfl) (askRow_get (by omega))) rfl (Hq [0, 1, 2, 3, 4, 5, 6, 7, 8, 9, 10, 11] rfl) ?_; refine LM.q 17 rfl (by kernel_rfl) (Ev.pure rfl) rfl (Hq [0, 1, 2, 3, 4, 5, 6, 7, 8, 9, 10, 11] rfl) ?_; refine LM.f 18 rfl (by kernel_rfl) (Hq [0, 1, 2, 3, 4, 5, 6, 7, 8, 9, 10, 11] rfl) ?_; refine Lpu rfl rfl ?_
     refine L.nil (QE.m (by kernel_rfl) ?_)
     refine LM.f 19 rfl (by kernel_rfl) (Hq [0, 1, 2, 3, 4, 5, 6, 7, 8, 9, 10, 11] rfl) ?_; refine L.step (Ev.idx1 (k := k) rfl rfl rfl rfl rfl rfl rfl (by omega) (Src.r 11 rfl) (by rw [U8_len]; omega)) rfl ?_
     refine L.nil (QE.m (by kernel_rfl) ?_)
     refine LM.f 20 rfl (by kernel_rfl) (Hq [0, 1, 2, 3, 4, 5, 6, 7, 8, 9, 10, 11] rfl) ?_; refine L.step (Ev.load rfl rfl rfl (Src.r 11 rfl) (U8_get (by omega))) rfl ?_
     refine L.nil (QE.m (by kernel_rfl) ?_)
     refine LM.f 21 rfl (by kernel_rfl) (Hq [0, 1, 2, 3, 4, 5, 6, 7, 8, 9, 10, 11] rfl) ?_
     first | refine L.step (Ev.and8 rfl rfl) rfl ?_ | refine L.step (Ev.pure rfl) rfl ?_
     refine L.nil (QE.m (by kernel_rfl) ?_)
     refine LM.f 22 rfl (by kernel_rfl) (Hq [0, 1, 2, 3, 4, 5, 6, 7, 8, 9, 10, 11] rfl) ?_
     first | refine L.step (Ev.or8 rfl rfl) rfl ?_ | refine L.step (Ev.pure rfl) rfl ?_
     refine L.nil (QE.m (by kernel_rfl) ?_)
     refine LM.cut [] (by kernel_rfl) (Hq [0, 1, 2, 3, 4, 5, 6, 7, 8, 9, 10, 11] rfl) ?_; refine LM.f 23 rfl (by kernel_rfl) trivial ?_; refine L.step (Ev.idx1 (k := k) rfl rfl rfl rfl rfl rfl rfl (by omega) (Src.okid 1 rfl (by rw [B8_len, List.length_set]; exact hb) x.sec.toNat (by rw [B8_len, List.length_set]; omega)) (by rw [B8_get, getD_set_eq (by omega), U8_len, prow_len (by omega)]; omega)) rfl ?_
     refine L.nil (QE.m (by kernel_rfl) ?_)
     refine LM.f 24 rfl (by kernel_rfl) trivial ?_; refine L.storeKid (j := 1) (i := x.sec.toNat) rfl rfl (by rw [B8_len, List.length_set]; exact hb) (by rw [B8_len, List.length_set]; omega) rfl rfl rfl rfl rfl (by rw [B8_get, getD_set_eq (by omega), U8_len, prow_len (by omega)]; omega) ?_
     refine L.nil (QE.m (by kernel_rfl) ?_)
     refine LM.nil (by kernel_rfl) trivial ?_; refine QE.blkN ?_; refine QE.seq (C.region ?_); refine Lpu rfl rfl ?_; refine L.step (Ev.add rfl rfl (by omega) (by omega)) rfl ?_; refine Lpu rfl rfl ?_; refine L.nil ?_
     refine QE.round (k + 1) (by exact ⟨by omega, by omega⟩) (by omega) (by exact Le.mk' (rs := [0, 1, 2, 3, 4, 5, 6, 7, 8, 9, 10, 11]) (hs := [0, 1, 2]) ⟨rfl, rfl, rfl, rfl, rfl, rfl, rfl, trivial⟩ ⟨rfl, rfl, rfl, rfl, rfl, rfl, rfl, rfl, rfl, rfl, rfl, rfl, trivial⟩ ⟨rfl, (congrArg some (by rw [B8_get, getD_set_eq (by omega), U8_set, B8_set, List.set_set, ← prow_set (k := k) (by omega)]; rfl)), rfl, trivial⟩ (by decide))
    ·
     replace hc34 := of_decide_eq_false hc34
     refine C.exit ?_; refine QE.tX ?_; refine QE.tX ?_; refine QE.blk ?_; refine QE.seq (C.seq (C.seq (C.region ?_))); refine L.step (Ev.fieldAddr rfl rfl rfl rfl rfl rfl (Src.r 4 rfl) (Nat.zero_lt_succ _) rfl) rfl ?_; refine L.step (Ev.load rfl rfl rfl (Src.r 4 rfl) rfl) rfl ?_; refine Lpu rfl rfl ?_; refine L.nil (QE.seq ?_)
     refine C.condB 72 rfl (fun hc72 => ?_) (fun hc72 => ?_)
     ·
      replace hc72 := i_eq hc72
      refine C.region ?_; refine L.step (Ev.fieldAddr rfl rfl rfl rfl rfl rfl (Src.r 3 rfl) (Nat.zero_lt_succ _) rfl) rfl ?_; refine L.step (Ev.load rfl rfl rfl (Src.r 3 rfl) rfl) rfl ?_; refine L.step (Ev.fieldAddr rfl rfl rfl rfl rfl rfl (Src.r 4 rfl) (Nat.zero_lt_succ _) rfl) rfl ?_; refine L.step (Ev.load rfl rfl rfl (Src.r 4 rfl) rfl) rfl ?_; refine L.step (Ev.idx1 (k := x.sec.toNat) rfl rfl rfl rfl rfl rfl (by omega) (by omega) (Src.o 2 rfl) (by rw [I64_len]; omega)) rfl ?_; refine L.step (Ev.load rfl rfl rfl (Src.o 2 rfl) (I64_get (by omega))) rfl ?_; refine L.step (Ev.add rfl rfl (by omega) (by omega)) rfl ?_; refine L.step (Ev.idx1 (k := x.sec.toNat) rfl rfl rfl rfl rfl rfl (by omega) (by omega) (Src.o 2 rfl) (by rw [I64_len]; omega)) rfl ?_; refine L.store (j := 2) rfl rfl rfl rfl rfl rfl rfl (by exact I64_get (by omega)) ?_; refine L.nil (QE.seq (C.seq (C.region ?_))); refine L.step (Ev.loadA rfl rfl rfl (Src.r 3 rfl) rfl rfl (by decide)) rfl ?_; refine L.storeA (j := 0) rfl rfl rfl rfl rfl (Nat.zero_lt_succ _) rfl rfl ?_; refine Lpu rfl rfl ?_; refine L.nil (QE.seq (C.ret ?_)); refine QE.freeze 2 rfl [0, 1] (by decide) (by decide) ?_; refine QE.freezeKids 1 rfl [0] (by decide) (by decide) ?_; refine QE.ret (js := [4, 0, 1, 3]) (hs := []) (vs := [_, _]) rfl ⟨⟨_, _, 0, _, rfl, rfl, Src.o 0 rfl, .inl ⟨rfl, by decide, _, rfl, rfl, rfl⟩⟩, rfl, trivial⟩ (by decide) ?_; refine cut_post2 hok hkc hc17 hb hrow (by omega) hk (fun i h1 h2 => getD_ge (by omega)) ?_
      first | (rw [I64_set]; unfold cutF; rw [if_pos hc72]) | (unfold cutF; rw [if_neg hc72])
     ·
      replace hc72 := i_ne hc72
      refine C.skip (QE.seq (C.seq (C.region ?_))); refine L.step (Ev.loadA rfl rfl rfl (Src.r 3 rfl) rfl rfl (by decide)) rfl ?_; refine L.storeA (j := 0) rfl rfl rfl rfl rfl (Nat.zero_lt_succ _) rfl rfl ?_; refine Lpu rfl rfl ?_; refine L.nil (QE.seq (C.ret ?_)); refine QE.freeze 2 rfl [0, 1] (by decide) (by decide) ?_; refine QE.freezeKids 1 rfl [0] (by decide) (by decide) ?_; refine QE.ret (js := [4, 0, 1, 3]) (hs := []) (vs := [_, _]) rfl ⟨⟨_, _, 0, _, rfl, rfl, Src.o 0 rfl, .inl ⟨rfl, by decide, _, rfl, rfl, rfl⟩⟩, rfl, trivial⟩ (by decide) ?_; refine cut_post2 hok hkc hc17 hb hrow (by omega) hk (fun i h1 h2 => getD_ge (by omega)) ?_
      first | (rw [I64_set]; unfold cutF; rw [if_pos hc72]) | (unfold cutF; rw [if_neg hc72])
   ·
    replace hg29 := of_decide_eq_false hg29
    refine L.no rfl rfl rfl ?_; refine L.no rfl rfl rfl ?_; refine L.no rfl rfl rfl ?_; refine L.no rfl rfl rfl ?_; refine Lpu rfl rfl ?_; refine L.nil (QE.seq ?_)
    refine C.cond rfl (fun h => by cases h) (fun _ => ?_)
    refine C.exit ?_; refine QE.tX ?_; refine QE.tX ?_; refine QE.blk ?_; refine QE.seq (C.seq (C.seq (C.region ?_))); refine L.step (Ev.fieldAddr rfl rfl rfl rfl rfl rfl (Src.r 4 rfl) (Nat.zero_lt_succ _) rfl) rfl ?_; refine L.step (Ev.load rfl rfl rfl (Src.r 4 rfl) rfl) rfl ?_; refine Lpu rfl rfl ?_; refine L.nil (QE.seq ?_)
    refine C.condB 72 rfl (fun hc72 => ?_) (fun hc72 => ?_)
    ·
     replace hc72 := i_eq hc72
     refine C.region ?_; refine L.step (Ev.fieldAddr rfl rfl rfl rfl rfl rfl (Src.r 3 rfl) (Nat.zero_lt_succ _) rfl) rfl ?_; refine L.step (Ev.load rfl rfl rfl (Src.r 3 rfl) rfl) rfl ?_; refine L.step (Ev.fieldAddr rfl rfl rfl rfl rfl rfl (Src.r 4 rfl) (Nat.zero_lt_succ _) rfl) rfl ?_; refine L.step (Ev.load rfl rfl rfl (Src.r 4 rfl) rfl) rfl ?_; refine L.step (Ev.idx1 (k := x.sec.toNat) rfl rfl rfl rfl rfl rfl (by omega) (by omega) (Src.o 2 rfl) (by rw [I64_len]; omega)) rfl ?_; refine L.step (Ev.load rfl rfl rfl (Src.o 2 rfl) (I64_get (by omega))) rfl ?_; refine L.step (Ev.add rfl rfl (by omega) (by omega)) rfl ?_; refine L.step (Ev.idx1 (k := x.sec.toNat) rfl rfl rfl rfl rfl rfl (by omega) (by omega) (Src.o 2 rfl) (by rw [I64_len]; omega)) rfl ?_; refine L.store (j := 2) rfl rfl rfl rfl rfl rfl rfl (by exact I64_get (by omega)) ?_; refine L.nil (QE.seq (C.seq (C.region ?_))); refine L.step (Ev.loadA rfl rfl rfl (Src.r 3 rfl) rfl rfl (by decide)) rfl ?_; refine L.storeA (j := 0) rfl rfl rfl rfl rfl (Nat.zero_lt_succ _) rfl rfl ?_; refine Lpu rfl rfl ?_; refine L.nil (QE.seq (C.ret ?_)); refine QE.freeze 2 rfl [0, 1] (by decide) (by decide) ?_; refine QE.freezeKids 1 rfl [0] (by decide) (by decide) ?_; refine QE.ret (js := [4, 0, 1, 3]) (hs := []) (vs := [_, _]) rfl ⟨⟨_, _, 0, _, rfl, rfl, Src.o 0 rfl, .inl ⟨rfl, by decide, _, rfl, rfl, rfl⟩⟩, rfl, trivial⟩ (by decide) ?_; refine cut_post2 hok hkc hc17 hb hrow (by omega) hk (fun i h1 h2 => getD_ge (by omega)) ?_
     first | (rw [I64_set]; unfold cutF; rw [if_pos hc72]) | (unfold cutF; rw [if_neg hc72])
    ·
     replace hc72 := i_ne hc72
     refine C.skip (QE.seq (C.seq (C.region ?_))); refine L.step (Ev.loadA rfl rfl rfl (Src.r 3 rfl) rfl rfl (by decide)) rfl ?_; refine L.storeA (j := 0) rfl rfl rfl rfl rfl (Nat.zero_lt_succ _) rfl rfl ?_; refine Lpu rfl rfl ?_; refine L.nil (QE.seq (C.ret ?_)); refine QE.freeze 2 rfl [0, 1] (by decide) (by decide) ?_; refine QE.freezeKids 1 rfl [0] (by decide) (by decide) ?_; refine QE.ret (js := [4, 0, 1, 3]) (hs := []) (vs := [_, _]) rfl ⟨⟨_, _, 0, _, rfl, rfl, Src.o 0 rfl, .inl ⟨rfl, by decide, _, rfl, rfl, rfl⟩⟩, rfl, trivial⟩ (by decide) ?_; refine cut_post2 hok hkc hc17 hb hrow (by omega) hk (fun i h1 h2 => getD_ge (by omega)) ?_
     first | (rw [I64_set]; unfold cutF; rw [if_pos hc72]) | (unfold cutF; rw [if_neg hc72])

theorem do17C_c (f : Fl) (a : Fa) (ok : f.Ok) (hh : a.hs.length = f.data.length) (x : Fo) (XA : Option Addr) (xc : Nat) (hxl : x.data.length ≤ 9223372036854775807) :
   Ctr X 37 [.agg (List.toArray [.int .i64 (f.size : Int), .slice a.D f.data.length a.cD, .slice a.W f.wear.length a.cW, .int .i64 f.limit, .slice a.E f.dead.length a.cE]), .agg (List.toArray [.int .i64 x.kind, .int .i64 x.sec, .int .i64 x.at_, .slice XA x.data.length xc])] [Rd a.D (rowsV a.hs (B8 f.data)), KidsR a.hs (B8 f.data), Rd a.W (I64 f.wear), Rd a.E (Bs f.dead), Rd XA (U8 x.data)] [] (fun v R' H' => ∃ b : Fa, (b.hs.length = (cutR f x (fun _ => 255)).data.length ∧ Caps (cutR f x (fun _ => 255)) b) ∧ v = .tuple #[flV (cutR f x (fun _ => 255)) b, .int .i64 (checkE f x)] ∧ R' = flR (cutR f x (fun _ => 255)) b ∧ H' = []) := by
 obtain ⟨os1, os2, on1, on2, owl, odl, orows, ol1, ol2, owear⟩ := ok
 have hok : f.Ok := ⟨os1, os2, on1, on2, owl, odl, orows, ol1, ol2, owear⟩
 refine Ctr.of (X := X) (fn := Try.f37) Try.func37 rfl (by kernel_rfl) rfl ?_
 intro β
 refine C.seq (C.region ?_)
 refine L.boxA rfl rfl (fun A2 => ?_)
 refine L.boxA rfl rfl (fun A3 => ?_)
 refine L.alloc rfl rfl rfl (fun A4 => ?_)
 refine Lpu rfl rfl ?_; refine L.nil (QE.seq (C.seq ?_)); refine C.freeze 0 rfl [1, 2] (by decide) (by decide) ?_; refine C.freeze 0 rfl [1] (by decide) (by decide) ?_; refine C.regionM [Rd A3 [.int .i64 x.kind, .int .i64 x.sec, .int .i64 x.at_, .slice XA x.data.length xc], Rd A2 [.int .i64 (f.size : Int), .slice a.D f.data.length a.cD, .slice a.W f.wear.length a.cW, .int .i64 f.limit, .slice a.E f.dead.length a.cE], Rd a.D (rowsV a.hs (B8 f.data)), KidsR a.hs (B8 f.data), Rd a.W (I64 f.wear), Rd a.E (Bs f.dead), Rd XA (U8 x.data)] (Hq [0, 1, 2, 3, 4, 5, 6] rfl) ?_; refine LM.q 0 rfl (by kernel_rfl) (Ev.loadA rfl rfl rfl (Src.r 1 rfl) rfl rfl (by decide)) rfl (Hq [0, 1, 2, 3, 4, 5, 6] rfl) ?_; refine LM.q 1 rfl (by kernel_rfl) (Ev.loadA rfl rfl rfl (Src.r 0 rfl) rfl rfl (by decide)) rfl (Hq [0, 1, 2, 3, 4, 5, 6] rfl) ?_; refine LM.q 2 rfl (by kernel_rfl) (Ev.fieldAddr rfl rfl rfl rfl rfl rfl (Src.r 1 rfl) (Nat.zero_lt_succ _) rfl) rfl (Hq [0, 1, 2, 3, 4, 5, 6] rfl) ?_; refine LM.q 3 rfl (by kernel_rfl) (Ev.load rfl rfl rfl (Src.r 1 rfl) rfl) rfl (Hq [0, 1, 2, 3, 4, 5, 6] rfl) ?_; refine LM.f 4 rfl (by kernel_rfl) (Hq [0, 1, 2, 3, 4, 5, 6] rfl) ?_; refine L.call (js := []) (js' := [0]) (blank_c f.size (by omega)) rfl rfl rfl (by decide) trivial rfl ?_
 rintro _ _ _ ⟨A10, rfl, rfl, rfl⟩
 refine L.nil (QE.m (by kernel_rfl) ?_)
 refine LM.f 5 rfl (by kernel_rfl) (Hq [0, 1, 2, 3, 4, 5, 6] rfl) ?_; refine L.freeze 0 rfl [1] (by decide) (by decide) ?_; refine L.callR (js := []) (js' := [0]) (cut17C_c f a hok hh x XA xc hxl (List.replicate f.size 255) _ f.size _ (by simp) (by simp; omega)) rfl rfl rfl (by decide) (Hq [3, 4, 5, 6, 7, 0] rfl) rfl ?_
 rintro _ _ _ ⟨b, hb, rfl, rfl, rfl⟩
 refine L.nil (QE.m (by kernel_rfl) ?_)
 refine LM.q 6 rfl (by kernel_rfl) (Ev.pure rfl) rfl (Hq [5, 6, 7, 8, 9, 10, 11] rfl) ?_; refine LM.f 7 rfl (by kernel_rfl) (Hq [5, 6, 7, 8, 9, 10, 11] rfl) ?_; refine Lpu rfl rfl ?_
 refine L.nil (QE.m (by kernel_rfl) ?_)
 refine LM.cut [] (by kernel_rfl) (Hq [5, 6, 7, 8, 9, 10, 11] rfl) ?_; refine LM.f 8 rfl (by kernel_rfl) trivial ?_; refine L.storeA (j := 0) rfl rfl rfl rfl rfl (Nat.zero_lt_succ _) rfl rfl ?_
 refine L.nil (QE.m (by kernel_rfl) ?_)
 refine LM.f 9 rfl (by kernel_rfl) trivial ?_; refine Lpu rfl rfl ?_
 refine L.nil (QE.m (by kernel_rfl) ?_)
 refine LM.nil (by kernel_rfl) trivial ?_; refine QE.seq (C.ret ?_); refine QE.ret (js := [0, 1, 2, 3]) (hs := []) (vs := [_, _]) rfl ⟨⟨_, _, 0, _, rfl, rfl, Src.o 0 rfl, .inl ⟨rfl, by decide, _, rfl, rfl, rfl⟩⟩, rfl, trivial⟩ (by decide) ?_
 rw [cutR_congr (mk' := fun _ => 255) (fun i hi => getD_rep _ _ _ _ hi)] at hb ⊢
 exact ⟨b, hb, rfl, rfl, rfl⟩

end Go.Proofs.Ytmbjknampholjaa
