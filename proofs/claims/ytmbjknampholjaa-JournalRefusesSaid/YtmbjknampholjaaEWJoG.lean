/-
  The contracts of Find and Read of the reference, and of Read of the program.
-/
import Derived.Test.YtmbjknampholjaaEWJoF
import Derived.Test.YtmbjknampholjaaEPm
section
namespace Go.Proofs.Ytmbjknampholjaa
open Go.Sl

theorem readP_c (f : Fl) (a : Fa) (ok : f.Ok) (hh : a.hs.length = f.data.length) (y : Ly) (hcap : Caps f a) :
   Ctr X 43 [.agg (List.toArray [.int .i64 (f.size : Int), .slice a.D f.data.length a.cD, .slice a.W f.wear.length a.cW, .int .i64 f.limit, .slice a.E f.dead.length a.cE]), .agg (List.toArray [.int .i64 y.n, .int .i64 y.a, .int .i64 y.b, .int .i64 y.s0, .int .i64 y.s1, .slice y.T y.tn y.tc, .slice y.U y.un y.uc, .slice y.V y.vn y.vc])] [Rd a.D (rowsV a.hs (B8 f.data)), KidsR a.hs (B8 f.data), Rd a.W (I64 f.wear), Rd a.E (Bs f.dead)] [] (fun v R' H' => v = .tuple #[.agg (List.toArray (st9 (readF f y.a y.b).1)), .int .i64 ((readF f y.a y.b).2.1 : Int), .int .i64 (readF f y.a y.b).2.2] ∧ R' = [] ∧ H' = []) := by
 have hok := ok
 obtain ⟨os1, os2, on1, on2, owl, odl, orows, ol1, ol2, owear⟩ := ok
 refine Ctr.of (X := X) (fn := Try.f43) Try.func43 rfl (by kernel_rfl) rfl ?_
 intro β
 refine C.seq (C.region ?_)
 refine L.boxA rfl rfl (fun A2 => ?_)
 refine L.boxA rfl rfl (fun A3 => ?_)
 refine L.alloc rfl rfl rfl (fun A4 => ?_)
 refine Lpu rfl rfl ?_; refine Lpu rfl rfl ?_; refine L.nil (QE.seq (C.seq ?_)); refine C.freeze 0 rfl [1, 2] (by decide) (by decide) ?_; refine C.freeze 0 rfl [1] (by decide) (by decide) ?_; refine C.region ?_; refine L.step (Ev.loadA rfl rfl rfl (Src.r 1 rfl) rfl rfl (by decide)) rfl ?_; refine L.step (Ev.loadA rfl rfl rfl (Src.r 0 rfl) rfl rfl (by decide)) rfl ?_; refine L.call (js := []) (js' := [0]) (findP_c f a hok hh y hcap) rfl rfl rfl (by decide) (Hq [2, 3, 4, 5] rfl) rfl ?_
 rintro _ _ _ ⟨rfl, rfl, rfl⟩
 refine Lpu rfl rfl ?_; refine Lpu rfl rfl ?_; refine Lpu rfl rfl ?_
 refine L.alloc rfl rfl rfl (fun A7 => ?_)
 refine L.storeA (j := 1) rfl rfl rfl rfl rfl (Nat.zero_lt_succ _) rfl rfl ?_; refine Lpu rfl rfl ?_; refine L.nil (QE.seq (C.seq (C.seq (C.region ?_)))); refine Lpu rfl rfl ?_; refine Lpu rfl rfl ?_; refine L.nil (QE.seq ?_)
 refine C.condB 16 rfl (fun hc16 => ?_) (fun hc16 => ?_)
 ·
  have hno : (findF f y.a y.b).found = false := by rw [← findP_found]; simpa using hc16
  refine C.seq (C.region ?_); refine L.step (Ev.build rfl rfl rfl rfl rfl rfl rfl) rfl ?_; refine L.storeA (j := 0) rfl rfl rfl rfl rfl (Nat.zero_lt_succ _) rfl rfl ?_; refine Lpu rfl rfl ?_; refine Lpu rfl rfl ?_; refine L.nil (QE.seq (C.ret (QE.tR ?_))); refine QE.ret (js := []) (hs := []) (vs := [_, _, _]) rfl ⟨⟨_, _, 0, _, rfl, rfl, Src.o 0 rfl, .inl ⟨rfl, by decide, _, rfl, rfl, rfl⟩⟩, rfl, rfl, trivial⟩ (by decide) ?_
  refine ⟨?_, rfl, rfl⟩
  rw [readF_no hno]
  rfl
 ·
  have hyes : (findF f y.a y.b).found = true := by rw [← findP_found]; simpa using hc16
  refine C.skip (QE.seq (C.seq ?_)); refine C.regionM [Rd A3 [.int .i64 y.n, .int .i64 y.a, .int .i64 y.b, .int .i64 y.s0, .int .i64 y.s1, .slice y.T y.tn y.tc, .slice y.U y.un y.uc, .slice y.V y.vn y.vc], Rd A2 [.int .i64 (f.size : Int), .slice a.D f.data.length a.cD, .slice a.W f.wear.length a.cW, .int .i64 f.limit, .slice a.E f.dead.length a.cE], Rd a.D (rowsV a.hs (B8 f.data)), KidsR a.hs (B8 f.data), Rd a.W (I64 f.wear), Rd a.E (Bs f.dead), Rd A7 [.int .i64 (findP f y.a y.b).sec, .int .i64 (findP f y.a y.b).oth, .int .i64 (findP f y.a y.b).gen, .int .i64 ((findP f y.a y.b).s.getD 0 0), .int .i64 ((findP f y.a y.b).s.getD 1 0), .int .i64 ((findP f y.a y.b).s.getD 2 0), .int .i64 ((findP f y.a y.b).s.getD 3 0), .int .i64 ((findP f y.a y.b).s.getD 4 0), .int .i64 ((findP f y.a y.b).s.getD 5 0), .int .i64 ((findP f y.a y.b).s.getD 6 0), .int .i64 ((findP f y.a y.b).s.getD 7 0), .int .i64 ((findP f y.a y.b).s.getD 8 0), .bool (findP f y.a y.b).found, .int .i64 ((findP f y.a y.b).free : Int), .int .i64 (lgP f y.a y.b : Int), .int .i64 ((findP f y.a y.b).torn : Int)]] ⟨Has.r 0 rfl, Has.r 1 rfl, Has.r 2 rfl, Has.r 3 rfl, Has.r 4 rfl, Has.r 5 rfl, Has.o 1 rfl, trivial⟩ ?_; refine LM.q 0 rfl (by kernel_rfl) (Ev.fieldAddr rfl rfl rfl rfl rfl rfl (Src.r 6 rfl) (Nat.zero_lt_succ _) rfl) rfl ⟨Has.r 0 rfl, Has.r 1 rfl, Has.r 2 rfl, Has.r 3 rfl, Has.r 4 rfl, Has.r 5 rfl, Has.o 1 rfl, trivial⟩ ?_; refine LM.q 1 rfl (by kernel_rfl) (Ev.loadA rfl rfl rfl (Src.r 6 rfl) rfl rfl (by decide)) rfl ⟨Has.r 0 rfl, Has.r 1 rfl, Has.r 2 rfl, Has.r 3 rfl, Has.r 4 rfl, Has.r 5 rfl, Has.o 1 rfl, trivial⟩ ?_; refine LM.q 2 rfl (by kernel_rfl) (Ev.fieldAddr rfl rfl rfl rfl rfl rfl (Src.r 6 rfl) (Nat.zero_lt_succ _) rfl) rfl ⟨Has.r 0 rfl, Has.r 1 rfl, Has.r 2 rfl, Has.r 3 rfl, Has.r 4 rfl, Has.r 5 rfl, Has.o 1 rfl, trivial⟩ ?_; refine LM.q 3 rfl (by kernel_rfl) (Ev.load rfl rfl rfl (Src.r 6 rfl) rfl) rfl ⟨Has.r 0 rfl, Has.r 1 rfl, Has.r 2 rfl, Has.r 3 rfl, Has.r 4 rfl, Has.r 5 rfl, Has.o 1 rfl, trivial⟩ ?_; refine LM.f 4 rfl (by kernel_rfl) ⟨Has.r 0 rfl, Has.r 1 rfl, Has.r 2 rfl, Has.r 3 rfl, Has.r 4 rfl, Has.r 5 rfl, Has.o 1 rfl, trivial⟩ ?_; refine L.storeA (j := 0) rfl rfl rfl rfl rfl (Nat.zero_lt_succ _) rfl rfl ?_
  refine L.nil (QE.m (by kernel_rfl) ?_)
  refine LM.cut [] (by kernel_rfl) ⟨Has.r 0 rfl, Has.r 1 rfl, Has.r 2 rfl, Has.r 3 rfl, Has.r 4 rfl, Has.r 5 rfl, Has.o 1 rfl, trivial⟩ ?_; refine LM.f 5 rfl (by kernel_rfl) trivial ?_; refine Lpu rfl rfl ?_
  refine L.nil (QE.m (by kernel_rfl) ?_)
  refine LM.f 6 rfl (by kernel_rfl) trivial ?_; refine Lpu rfl rfl ?_
  refine L.nil (QE.m (by kernel_rfl) ?_)
  refine LM.nil (by kernel_rfl) trivial ?_; refine QE.seq (C.ret ?_); refine QE.ret (js := []) (hs := []) (vs := [_, _, _]) rfl ⟨⟨_, _, 0, _, rfl, rfl, Src.o 0 rfl, .inl ⟨rfl, by decide, _, rfl, rfl, rfl⟩⟩, rfl, rfl, trivial⟩ (by decide) ?_
  refine ⟨?_, rfl, rfl⟩
  rw [readF_yes hyes, ← findP_eq hyes]
  rfl

end Go.Proofs.Ytmbjknampholjaa
end
/-
  The plain law of following Toward: at most two operations.
-/
section
namespace Go.Sl
section
variable {f : Fl} {x : Fo} {mk : Nat → UInt8}
/-! ### Toward -/
theorem towX_sec (f : Fl) (w : List UInt8) : (towX f 0 w).sec.toNat = 0 := by unfold towX; split <;> rfl
theorem towN_in {w : List UInt8} (ok : f.Ok) (hw : w.length = f.size) : ¬(¬(0 ≤ (0 : Int) ∧ (0 : Int) ≤ (f.data.length : Int) - 1) ∨ w.length ≠ f.size) := by
 have := ok.n1
 omega
theorem towN_go {w : List UInt8} (ok : f.Ok) (hw : w.length = f.size) (he : (towN f 0 w).e = 0) (hd : (towN f 0 w).done = false) : f.data.getD 0 [] ≠ w ∧ (towN f 0 w).x = towX f 0 w ∧ checkE f (towX f 0 w) = 0 := by
 have hin := towN_in ok hw
 by_cases h2 : f.data.getD 0 [] = w
 · rw [towN_2 hin h2] at hd; cases hd
 · by_cases h3 : checkE f (towX f 0 w) ≠ 0
   · rw [towN_3 hin h2 rfl h3] at he
     exact (h3 he).elim
   · exact ⟨h2, by rw [towN_4 hin h2 rfl h3], by simpa using h3⟩
/-- How far the sector is, behind so many operations. -/
def Phase (k : Nat) (f : Fl) (w : List UInt8) : Prop :=
 k = 0 ∨ (k = 1 ∧ (f.data.getD 0 [] = w ∨ (f.dead.getD 0 false = false ∧ ∀ i, i < f.size → (f.data.getD 0 []).getD i 0 = 255))) ∨ (k = 2 ∧ f.data.getD 0 [] = w)
theorem cutF_row0 (h0 : x.sec.toNat = 0) (h : 0 < f.data.length) : (cutF f x mk).data.getD 0 [] = rowF f x mk := by
 have e := cutF_row (f := f) (x := x) (mk := mk) (by rw [h0]; exact h)
 rwa [h0] at e
theorem prog_row {w : List UInt8} (hw : w.length = f.size) (hb : towB (f.data.getD 0 []) w f.size = true) : rowF f ⟨2, 0, 0, w⟩ (fun _ => 255) = w := by
 refine ext_getD (d := 0) (by rw [rowF_len, hw]) fun i hi => ?_
 rw [rowF_len] at hi
 rw [rowF_get hi, rowB_w, askB_in (by show (2 : Int) ≠ 1; decide) (by dsimp only; omega)]
 have h := List.all_eq_true.1 hb i (List.mem_range.2 hi)
 have h0 : w.getD i 0 &&& ~~~((f.data.getD 0 []).getD i 0) = 0 := by simpa using h
 show (f.data.getD 0 []).getD i 0 &&& w.getD ((i : Int) - 0).toNat 0 = w.getD i 0
 rw [show ((i : Int) - 0).toNat = i from by omega]
 exact (andNot_zero _ _).2 h0
theorem Phase.next {w : List UInt8} {k : Nat} (ok : f.Ok) (hw : w.length = f.size) (h : Phase k f w) (he : (towN f 0 w).e = 0) (hd : (towN f 0 w).done = false) : Phase (k + 1) (cutR f (towN f 0 w).x (fun _ => 255)) w := by
 obtain ⟨hne, hx, hE⟩ := towN_go ok hw he hd
 rw [hx, cutR_ok hE]
 have hlt := ok.n1
 have hdd := (checkE_ok hE).2.2.1
 rw [towX_sec] at hdd
 have prog : towB (f.data.getD 0 []) w f.size = true → (cutF f (towX f 0 w) (fun _ => 255)).data.getD 0 [] = w := by
   intro hb
   have hx1 : towX f 0 w = ⟨2, 0, 0, w⟩ := towX_1 (sec := 0) (show towB (f.data.getD (0 : Int).toNat []) w f.size = true from hb)
   rw [hx1]
   have e := cutF_row0 (f := f) (x := ⟨2, 0, 0, w⟩) (mk := fun _ => 255) (show (0 : Int).toNat = 0 from rfl) hlt
   rw [e]
   exact prog_row hw hb
 rcases h with rfl | ⟨rfl, h⟩ | ⟨rfl, h⟩
 · by_cases hb : towB (f.data.getD 0 []) w f.size = true
   · exact .inr (.inl ⟨rfl, .inl (prog hb)⟩)
   · have hb' : towB (f.data.getD 0 []) w f.size = false := by simpa using hb
     refine .inr (.inl ⟨rfl, .inr ⟨hdd, fun i hi => ?_⟩⟩)
     have hx1 : towX f 0 w = ⟨1, 0, 0, []⟩ := towX_2 (sec := 0) (show towB (f.data.getD (0 : Int).toNat []) w f.size = false from hb')
     rw [hx1]
     have e := cutF_row0 (f := f) (x := ⟨1, 0, 0, []⟩) (mk := fun _ => 255) (show (0 : Int).toNat = 0 from rfl) hlt
     rw [e]
     have hi' : i < f.size := hi
     rw [rowF_get hi', rowB_w, askB_1 rfl]
 · rcases h with h | ⟨_, h⟩
   · exact (hne h).elim
   · refine .inr (.inr ⟨rfl, prog ?_⟩)
     refine List.all_eq_true.2 fun i hi => ?_
     rw [h i (List.mem_range.1 hi)]
     have : w.getD i 0 &&& ~~~(255 : UInt8) = 0 := by
       rw [show ~~~(255 : UInt8) = 0 from rfl]
       exact and_zero8 _
     rw [this]
     rfl
 · exact (hne h).elim
theorem Phase.lt {w : List UInt8} {k : Nat} (h : Phase k f w) : k < 3 := by
 rcases h with rfl | ⟨rfl, _⟩ | ⟨rfl, _⟩ <;> decide
end
end Go.Sl
end
