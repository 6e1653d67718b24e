/-
  The contract of FlashValid.
-/
import Derived.Test.YthfjkdgopkmgoaaWFlM
import Derived.Test.YthfjkdgopkmgoaaSlJ
namespace Go.Proofs.Ythfjkdgopkmgoaa
open Go.Sl

def FineN (s m l : Int) : Prop := 1 ≤ s ∧ s ≤ 4096 ∧ 1 ≤ m ∧ m ≤ 64 ∧ 1 ≤ l ∧ l ≤ 100000
instance (s m l : Int) : Decidable (FineN s m l) := by unfold FineN; infer_instance
def newF (s m l : Int) : Fl := if FineN s m l then fl0 s.toNat m.toNat l else flz
def newE (s m l : Int) : Int := if FineN s m l then 0 else 1
theorem newE_fine {s m l : Int} : newE s m l = 0 ↔ FineN s m l := by
  unfold newE
  split
  · next h => exact ⟨fun _ => h, fun _ => rfl⟩
  · next h => exact ⟨fun x => (by cases x), fun x => (h x).elim⟩
theorem newE_bool {s m l : Int} {q : Bool} (h : q = true ↔ FineN s m l) (h2 : ((newE s m l == 0) != q) = true) : False := by
  by_cases hf : FineN s m l
  · rw [h.2 hf, newE_fine.2 hf] at h2; cases h2
  · have hq : q = false := by
      cases q
      · rfl
      · exact (hf (h.1 rfl)).elim
    have he : newE s m l = 1 := if_neg hf
    rw [hq, he] at h2
    cases h2
theorem newE_eq (s m l : Int) : (newE s m l = 0) = FineN s m l := propext newE_fine
theorem fl0_ok {s m : Nat} {l : Int} (h : FineN (s : Int) (m : Int) l) : (fl0 s m l).Ok := by
  obtain ⟨a, b, c, d, e, f⟩ := h
  have hd : (fl0 s m l).data.length = m := List.length_replicate
  refine ⟨by show 1 ≤ s; omega, by show s ≤ 4096; omega, by rw [hd]; omega, by rw [hd]; omega, by rw [hd]; exact List.length_replicate, by rw [hd]; exact List.length_replicate, fun i hi => ?_, e, f, fun i hi => ?_⟩
  · rw [hd] at hi
    show ((List.replicate m (List.replicate s (255 : UInt8))).getD i []).length = s
    rw [getD_rep _ _ _ _ hi, List.length_replicate]
  · rw [hd] at hi
    show 0 ≤ (List.replicate m (0 : Int)).getD i 0 ∧ (List.replicate m (0 : Int)).getD i 0 ≤ l
    rw [getD_rep _ _ _ _ hi]
    omega
theorem newF_ok {s m l : Int} (h : FineN s m l) : (newF s m l).Ok := by
  unfold newF
  rw [if_pos h]
  obtain ⟨a, b, c, d, e, f⟩ := h
  exact fl0_ok ⟨by omega, by omega, by omega, by omega, e, f⟩
theorem newF_sm (s m l : Int) : (newF s m l).Sm := by
  by_cases h : FineN s m l
  · exact (newF_ok h).sm
  · unfold newF
    rw [if_neg h]
    exact flz_sm
theorem Ctr.readF {f : Nat} {args : List Value} {R H : List Pr} {P : Fa → Value → Prop} {F : Fl} (h : Ctr X f args R H (fun v R' H' => ∃ a : Fa, P a v ∧ R' = [] ∧ H' = flO F a)) : Ctr X f args R H (fun v R' H' => ∃ a : Fa, P a v ∧ R' = flR F a ∧ H' = []) := by
  refine ⟨h.1, fun w hs => (h.2 w hs).mono ?_⟩
  rintro e w' ⟨v, R', H', ⟨a, hp, rfl, rfl⟩, he, hsat⟩
  have h1 := hsat.freeze (j := 0) rfl (js := [1, 2, 3]) (by decide) (by decide)
  have h2 := h1.freezeKids (j := 0) rfl (js := [1, 2]) (by decide) (by decide)
  have h3 := h2.freeze (j := 0) rfl (js := [1]) (by decide) (by decide)
  have h4 := h3.freeze (j := 0) rfl (js := []) (by decide) (by decide)
  refine ⟨v, flR F a, [], ⟨a, hp, rfl, rfl⟩, he, h4.reads _ (fun r hr => .inl ?_)⟩
  simp only [flR, List.mem_cons, List.not_mem_nil, or_false] at hr ⊢
  rcases hr with rfl | rfl | rfl | rfl <;> simp
theorem newbad_e {n : Nat} {s m l : Int} (h : ¬FineN s m l) (hc : Ctr X n [.int .i64 s, .int .i64 m, .int .i64 l] [] [] (fun v R' H' => v = .tuple #[flV flz az, .int .i64 1] ∧ R' = [] ∧ H' = [])) :
    Ctr X n [.int .i64 s, .int .i64 m, .int .i64 l] [] [] (fun v R' H' => ∃ b : Fa, (b.hs.length = (newF s m l).data.length ∧ v = .tuple #[flV (newF s m l) b, .int .i64 (newE s m l)]) ∧ R' = flR (newF s m l) b ∧ H' = []) := by
  have h1 := hc.moreR (r := Rd none (Bs [])) (fun _ _ _ _ => Has.nil)
  have h2 := h1.moreR (r := Rd none (I64 [])) (fun _ _ _ _ => Has.nil)
  have h3 := h2.moreR (r := KidsR [] (B8 [])) (fun _ _ _ _ => Has.kids0)
  have h4 := h3.moreR (r := Rd none (rowsV [] (B8 []))) (fun _ _ _ _ => Has.nil)
  refine h4.mono ?_
  rintro v R' H' ⟨R3, rfl, R2, rfl, R1, rfl, R0, rfl, rfl, rfl, rfl⟩
  have e : newF s m l = flz := if_neg h
  have e2 : newE s m l = 1 := if_neg h
  rw [e, e2]
  exact ⟨az, ⟨rfl, rfl⟩, rfl, rfl⟩
theorem newP_e (s m l : Int) : Ctr X 45 [.int .i64 s, .int .i64 m, .int .i64 l] [] [] (fun v R' H' => ∃ b : Fa, (b.hs.length = (newF s m l).data.length ∧ v = .tuple #[flV (newF s m l) b, .int .i64 (newE s m l)]) ∧ R' = flR (newF s m l) b ∧ H' = []) := by
  by_cases h : FineN s m l
  · have e : newF s m l = fl0 s.toNat m.toNat l := if_pos h
    have e2 : newE s m l = 0 := if_pos h
    rw [e, e2]
    obtain ⟨a, b, c, d, e, f⟩ := h
    have key := newP_c s.toNat m.toNat l (by omega) (by omega) (by omega) (by omega) e f
    rw [Int.toNat_of_nonneg (by omega), Int.toNat_of_nonneg (by omega)] at key
    refine key.mono ?_
    rintro v R' H' ⟨b, rfl, rfl, rfl, hb⟩
    refine ⟨b, ⟨by rw [hb]; exact List.length_replicate.symm, ?_⟩, ?_, rfl⟩
    · simp [flV, flL, fl0]
      omega
    · simp [flR, fl0, V0]
  · exact newbad_e h (newPbad_c s m l h)
theorem new17_e (s m l : Int) : Ctr X 47 [.int .i64 s, .int .i64 m, .int .i64 l] [] [] (fun v R' H' => ∃ b : Fa, (b.hs.length = (newF s m l).data.length ∧ v = .tuple #[flV (newF s m l) b, .int .i64 (newE s m l)]) ∧ R' = flR (newF s m l) b ∧ H' = []) := by
  by_cases h : FineN s m l
  · have e : newF s m l = fl0 s.toNat m.toNat l := if_pos h
    have e2 : newE s m l = 0 := if_pos h
    rw [e, e2]
    obtain ⟨a, b, c, d, e, f⟩ := h
    have key := new17_c s.toNat m.toNat l (by omega) (by omega) (by omega) (by omega) e f
    rw [Int.toNat_of_nonneg (by omega), Int.toNat_of_nonneg (by omega)] at key
    refine Ctr.readF (F := fl0 s.toNat m.toNat l) (key.mono ?_)
    rintro v R' H' ⟨b, rfl, rfl, rfl, hb⟩
    exact ⟨b, ⟨by rw [hb]; exact List.length_replicate.symm, rfl⟩, rfl, rfl⟩
  · exact newbad_e h (new17bad_c s m l h)

set_option maxHeartbeats 2000000 in
theorem valid_law_c (rs : UInt8) (rd : List (List UInt8)) (rw : List UInt8) (re : UInt8) (RD RW : Option Addr) (rc rwc : Nat) (rhs : List Hd) (hrh : rhs.length = rd.length) (hrl : rd.length ≤ 9223372036854775807) (hrr : ∀ i, (rd.getD i []).length ≤ 9223372036854775807) (hrw : rw.length ≤ 9223372036854775807) (w0 w1 w2 : Int) (kk : UInt8) (hw0 : -2147483648 ≤ w0 ∧ w0 ≤ 2147483647) (hw1 : -2147483648 ≤ w1 ∧ w1 ≤ 2147483647) (hw2 : -2147483648 ≤ w2 ∧ w2 ≤ 2147483647) :
    Ctr X 11 [.agg (List.toArray [.int .u8 (rs.toNat : Int), .slice RD rd.length rc, .slice RW rw.length rwc, .int .u8 (re.toNat : Int)]), .agg (List.toArray [.int .i32 w0, .int .i32 w1, .int .i32 w2]), .int .u8 (kk.toNat : Int)] [Rd RD (rowsV rhs (B8 rd)), KidsR rhs (B8 rd), Rd RW (U8 rw)] [] (fun v R' H' => v = .bool true ∧ R' = [] ∧ H' = []) := by
  refine Ctr.of (X := X) (fn := Try.f11) Try.func11 rfl (by kernel_rfl) rfl ?_
  intro β
  refine C.seq ?_
  refine C.region ?_
  refine L.boxA rfl rfl (fun A3 => ?_)
  refine L.boxA rfl rfl (fun A4 => ?_)
  refine L.step (Ev.pure rfl) rfl ?_
  refine L.nil ?_
  refine QE.seq ?_
  refine C.seq ?_
  refine C.freeze 0 rfl [1] (by decide) (by decide) ?_
  refine C.freeze 0 rfl [] (by decide) (by decide) ?_
  refine C.region ?_
  refine L.call (js := []) (js' := []) (sanity_c) rfl rfl rfl (by decide) trivial rfl ?_
  rintro _ _ _ ⟨rfl, rfl, rfl⟩
  refine L.step (Ev.pure rfl) rfl ?_
  refine L.nil ?_
  refine QE.seq ?_
  refine C.seq ?_
  refine C.regionQ (by kernel_rfl) ?_
  refine LQ.step (Ev.idxArr (k := 0) rfl rfl rfl rfl rfl rfl (by decide) (Src.r 0 rfl) (Nat.zero_lt_succ _) rfl) rfl ?_
  refine LQ.step (Ev.load rfl rfl rfl (Src.r 0 rfl) rfl) rfl ?_
  first | refine LQ.step (Ev.byteInt rfl rfl rfl rfl) rfl ?_ | refine LQ.step (Ev.toInt rfl rfl rfl rfl (by omega) (by omega)) rfl ?_
  refine LQ.step (Ev.idxArr (k := 1) rfl rfl rfl rfl rfl rfl (by decide) (Src.r 0 rfl) (Nat.zero_lt_succ _) rfl) rfl ?_
  refine LQ.step (Ev.load rfl rfl rfl (Src.r 0 rfl) rfl) rfl ?_
  first | refine LQ.step (Ev.byteInt rfl rfl rfl rfl) rfl ?_ | refine LQ.step (Ev.toInt rfl rfl rfl rfl (by omega) (by omega)) rfl ?_
  refine LQ.step (Ev.idxArr (k := 2) rfl rfl rfl rfl rfl rfl (by decide) (Src.r 0 rfl) (Nat.zero_lt_succ _) rfl) rfl ?_
  refine LQ.step (Ev.load rfl rfl rfl (Src.r 0 rfl) rfl) rfl ?_
  first | refine LQ.step (Ev.byteInt rfl rfl rfl rfl) rfl ?_ | refine LQ.step (Ev.toInt rfl rfl rfl rfl (by omega) (by omega)) rfl ?_
  refine LQ.step (Ev.pure rfl) rfl ?_
  refine LQ.step (Ev.pure rfl) rfl ?_
  refine LQ.step (Ev.pure rfl) rfl ?_
  refine LQ.nil ?_
  refine QE.seq ?_
  refine C.seq ?_
  refine C.le (Γ' := [(2, .int .u8 (kk.toNat : Int)), (3, ptrOf A3 0), (7, .bool true), (8, .int .i64 w0), (9, .int .i64 w1), (10, .int .i64 w2)]) (R' := [Rd RD (rowsV rhs (B8 rd)), KidsR rhs (B8 rd), Rd RW (U8 rw), Rd A3 [.int .u8 (rs.toNat : Int), .slice RD rd.length rc, .slice RW rw.length rwc, .int .u8 (re.toNat : Int)]]) (H' := []) (by exact Le.mk' (rs := [2, 3, 4, 1]) (hs := []) ⟨rfl, rfl, rfl, rfl, rfl, rfl, trivial⟩ ⟨rfl, rfl, rfl, rfl, trivial⟩ trivial (by decide)) ?_
  refine C.region ?_
  refine L.step (Ev.pure rfl) rfl ?_
  refine L.step (Ev.pure rfl) rfl ?_
  refine L.step (Ev.pure rfl) rfl ?_
  refine L.callR (js := []) (js' := []) (newP_e w0 w1 w2) rfl rfl rfl (by decide) trivial rfl ?_
  rintro _ _ _ ⟨b1, ⟨hb1, rfl⟩, rfl, rfl⟩
  refine L.step (Ev.pure rfl) rfl ?_
  refine L.step (Ev.pure rfl) rfl ?_
  refine L.step (Ev.pure rfl) rfl ?_
  refine L.alloc rfl rfl rfl (fun A11 => ?_)
  refine L.storeA (j := 0) rfl rfl rfl rfl rfl (Nat.zero_lt_succ _) rfl rfl ?_
  refine L.step (Ev.pure rfl) rfl ?_
  refine L.nil ?_
  refine QE.seq ?_
  refine C.seqJ (fun q : Bool => [(2, .int .u8 (kk.toNat : Int)), (3, ptrOf A3 0), (7, .bool true), (8, .int .i64 w0), (9, .int .i64 w1), (10, .int .i64 w2), (11, ptrOf A11 0), (12, .int .i64 (newE w0 w1 w2)), (13, .bool q)]) (fun q : Bool => [Rd RD (rowsV rhs (B8 rd)), KidsR rhs (B8 rd), Rd RW (U8 rw), Rd A3 [.int .u8 (rs.toNat : Int), .slice RD rd.length rc, .slice RW rw.length rwc, .int .u8 (re.toNat : Int)], Rd b1.D (rowsV b1.hs (B8 (newF w0 w1 w2).data)), KidsR b1.hs (B8 (newF w0 w1 w2).data), Rd b1.W (I64 (newF w0 w1 w2).wear), Rd b1.E (Bs (newF w0 w1 w2).dead), Rd A11 [.int .i64 ((newF w0 w1 w2).size : Int), .slice b1.D (newF w0 w1 w2).data.length b1.cD, .slice b1.W (newF w0 w1 w2).wear.length b1.cW, .int .i64 (newF w0 w1 w2).limit, .slice b1.E (newF w0 w1 w2).dead.length b1.cE]]) (fun q : Bool => []) (fun q : Bool => (q = true ↔ FineN w0 w1 w2)) ?_ ?_
  · skip
    refine C.le (Γ' := [(2, .int .u8 (kk.toNat : Int)), (3, ptrOf A3 0), (7, .bool true), (8, .int .i64 w0), (9, .int .i64 w1), (10, .int .i64 w2), (11, ptrOf A11 0), (12, .int .i64 (newE w0 w1 w2))]) (R' := [Rd RD (rowsV rhs (B8 rd)), KidsR rhs (B8 rd), Rd RW (U8 rw), Rd A3 [.int .u8 (rs.toNat : Int), .slice RD rd.length rc, .slice RW rw.length rwc, .int .u8 (re.toNat : Int)], Rd b1.D (rowsV b1.hs (B8 (newF w0 w1 w2).data)), KidsR b1.hs (B8 (newF w0 w1 w2).data), Rd b1.W (I64 (newF w0 w1 w2).wear), Rd b1.E (Bs (newF w0 w1 w2).dead)]) (H' := [Own 32 5 A11 1 1 [.int .i64 ((newF w0 w1 w2).size : Int), .slice b1.D (newF w0 w1 w2).data.length b1.cD, .slice b1.W (newF w0 w1 w2).wear.length b1.cW, .int .i64 (newF w0 w1 w2).limit, .slice b1.E (newF w0 w1 w2).dead.length b1.cE]]) (by exact Le.mk' (rs := [4, 5, 6, 7, 0, 1, 2, 3]) (hs := [0]) ⟨rfl, rfl, rfl, rfl, rfl, rfl, rfl, rfl, trivial⟩ ⟨rfl, rfl, rfl, rfl, rfl, rfl, rfl, rfl, trivial⟩ ⟨rfl, trivial⟩ (by decide)) ?_
    refine C.freeze 0 rfl [] (by decide) (by decide) ?_
    refine C.region ?_
    refine L.step (Ev.pure rfl) rfl ?_
    refine L.step (Ev.pure rfl) rfl ?_
    refine L.step (Ev.pure rfl) rfl ?_
    refine L.bool 36 rfl (fun hg36 => ?_) (fun hg36 => ?_)
    · skip
      replace hg36 := of_decide_eq_true hg36
      refine L.yes rfl ?_
      refine L.step (Ev.pure rfl) rfl ?_
      refine L.yes rfl ?_
      refine L.step (Ev.pure rfl) rfl ?_
      refine L.step (Ev.pure rfl) rfl ?_
      refine L.step (Ev.pure rfl) rfl ?_
      refine L.bool 40 rfl (fun hg40 => ?_) (fun hg40 => ?_)
      · skip
        replace hg40 := of_decide_eq_true hg40
        refine L.yes rfl ?_
        refine L.step (Ev.pure rfl) rfl ?_
        refine L.yes rfl ?_
        refine L.step (Ev.pure rfl) rfl ?_
        refine L.step (Ev.pure rfl) rfl ?_
        refine L.step (Ev.pure rfl) rfl ?_
        refine L.bool 44 rfl (fun hg44 => ?_) (fun hg44 => ?_)
        · skip
          replace hg44 := of_decide_eq_true hg44
          refine L.yes rfl ?_
          refine L.step (Ev.pure rfl) rfl ?_
          refine L.yes rfl ?_
          refine L.step (Ev.pure rfl) rfl ?_
          refine L.step (Ev.pure rfl) rfl ?_
          refine L.step (Ev.pure rfl) rfl ?_
          refine L.bool 48 rfl (fun hg48 => ?_) (fun hg48 => ?_)
          · skip
            replace hg48 := of_decide_eq_true hg48
            refine L.yes rfl ?_
            refine L.step (Ev.pure rfl) rfl ?_
            refine L.yes rfl ?_
            refine L.step (Ev.pure rfl) rfl ?_
            refine L.step (Ev.pure rfl) rfl ?_
            refine L.step (Ev.pure rfl) rfl ?_
            refine L.bool 52 rfl (fun hg52 => ?_) (fun hg52 => ?_)
            · skip
              replace hg52 := of_decide_eq_true hg52
              refine L.yes rfl ?_
              refine L.step (Ev.pure rfl) rfl ?_
              refine L.yes rfl ?_
              refine L.step (Ev.pure rfl) rfl ?_
              refine L.step (Ev.pure rfl) rfl ?_
              refine L.step (Ev.pure rfl) rfl ?_
              refine L.nil ?_
              refine QE.join (decide (w2 ≤ 100000)) (by unfold FineN; rw [decide_eq_true_eq]; omega) (by exact Le.mk' (rs := [1, 2, 3, 4, 5, 6, 7, 8, 0]) (hs := []) ⟨rfl, rfl, rfl, rfl, rfl, rfl, rfl, rfl, rfl, trivial⟩ ⟨rfl, rfl, rfl, rfl, rfl, rfl, rfl, rfl, rfl, trivial⟩ trivial (by decide))
            · skip
              replace hg52 := of_decide_eq_false hg52
              refine L.no rfl rfl rfl ?_
              refine L.no rfl rfl rfl ?_
              refine L.step (Ev.pure rfl) rfl ?_
              refine L.step (Ev.pure rfl) rfl ?_
              refine L.nil ?_
              refine QE.join (false) (by exact ⟨fun h => (by cases h), fun h => (by unfold FineN at h; omega)⟩) (by exact Le.mk' (rs := [1, 2, 3, 4, 5, 6, 7, 8, 0]) (hs := []) ⟨rfl, rfl, rfl, rfl, rfl, rfl, rfl, rfl, rfl, trivial⟩ ⟨rfl, rfl, rfl, rfl, rfl, rfl, rfl, rfl, rfl, trivial⟩ trivial (by decide))
          · skip
            replace hg48 := of_decide_eq_false hg48
            refine L.no rfl rfl rfl ?_
            refine L.no rfl rfl rfl ?_
            refine L.step (Ev.pure rfl) rfl ?_
            refine L.step (Ev.pure rfl) rfl ?_
            refine L.no rfl rfl rfl ?_
            refine L.no rfl rfl rfl ?_
            refine L.step (Ev.pure rfl) rfl ?_
            refine L.step (Ev.pure rfl) rfl ?_
            refine L.nil ?_
            refine QE.join (false) (by exact ⟨fun h => (by cases h), fun h => (by unfold FineN at h; omega)⟩) (by exact Le.mk' (rs := [1, 2, 3, 4, 5, 6, 7, 8, 0]) (hs := []) ⟨rfl, rfl, rfl, rfl, rfl, rfl, rfl, rfl, rfl, trivial⟩ ⟨rfl, rfl, rfl, rfl, rfl, rfl, rfl, rfl, rfl, trivial⟩ trivial (by decide))
        · skip
          replace hg44 := of_decide_eq_false hg44
          refine L.no rfl rfl rfl ?_
          refine L.no rfl rfl rfl ?_
          refine L.step (Ev.pure rfl) rfl ?_
          refine L.step (Ev.pure rfl) rfl ?_
          refine L.no rfl rfl rfl ?_
          refine L.no rfl rfl rfl ?_
          refine L.step (Ev.pure rfl) rfl ?_
          refine L.step (Ev.pure rfl) rfl ?_
          refine L.no rfl rfl rfl ?_
          refine L.no rfl rfl rfl ?_
          refine L.step (Ev.pure rfl) rfl ?_
          refine L.step (Ev.pure rfl) rfl ?_
          refine L.nil ?_
          refine QE.join (false) (by exact ⟨fun h => (by cases h), fun h => (by unfold FineN at h; omega)⟩) (by exact Le.mk' (rs := [1, 2, 3, 4, 5, 6, 7, 8, 0]) (hs := []) ⟨rfl, rfl, rfl, rfl, rfl, rfl, rfl, rfl, rfl, trivial⟩ ⟨rfl, rfl, rfl, rfl, rfl, rfl, rfl, rfl, rfl, trivial⟩ trivial (by decide))
      · skip
        replace hg40 := of_decide_eq_false hg40
        refine L.no rfl rfl rfl ?_
        refine L.no rfl rfl rfl ?_
        refine L.step (Ev.pure rfl) rfl ?_
        refine L.step (Ev.pure rfl) rfl ?_
        refine L.no rfl rfl rfl ?_
        refine L.no rfl rfl rfl ?_
        refine L.step (Ev.pure rfl) rfl ?_
        refine L.step (Ev.pure rfl) rfl ?_
        refine L.no rfl rfl rfl ?_
        refine L.no rfl rfl rfl ?_
        refine L.step (Ev.pure rfl) rfl ?_
        refine L.step (Ev.pure rfl) rfl ?_
        refine L.no rfl rfl rfl ?_
        refine L.no rfl rfl rfl ?_
        refine L.step (Ev.pure rfl) rfl ?_
        refine L.step (Ev.pure rfl) rfl ?_
        refine L.nil ?_
        refine QE.join (false) (by exact ⟨fun h => (by cases h), fun h => (by unfold FineN at h; omega)⟩) (by exact Le.mk' (rs := [1, 2, 3, 4, 5, 6, 7, 8, 0]) (hs := []) ⟨rfl, rfl, rfl, rfl, rfl, rfl, rfl, rfl, rfl, trivial⟩ ⟨rfl, rfl, rfl, rfl, rfl, rfl, rfl, rfl, rfl, trivial⟩ trivial (by decide))
    · skip
      replace hg36 := of_decide_eq_false hg36
      refine L.no rfl rfl rfl ?_
      refine L.no rfl rfl rfl ?_
      refine L.step (Ev.pure rfl) rfl ?_
      refine L.step (Ev.pure rfl) rfl ?_
      refine L.no rfl rfl rfl ?_
      refine L.no rfl rfl rfl ?_
      refine L.step (Ev.pure rfl) rfl ?_
      refine L.step (Ev.pure rfl) rfl ?_
      refine L.no rfl rfl rfl ?_
      refine L.no rfl rfl rfl ?_
      refine L.step (Ev.pure rfl) rfl ?_
      refine L.step (Ev.pure rfl) rfl ?_
      refine L.no rfl rfl rfl ?_
      refine L.no rfl rfl rfl ?_
      refine L.step (Ev.pure rfl) rfl ?_
      refine L.step (Ev.pure rfl) rfl ?_
      refine L.no rfl rfl rfl ?_
      refine L.no rfl rfl rfl ?_
      refine L.step (Ev.pure rfl) rfl ?_
      refine L.step (Ev.pure rfl) rfl ?_
      refine L.nil ?_
      refine QE.join (false) (by exact ⟨fun h => (by cases h), fun h => (by unfold FineN at h; omega)⟩) (by exact Le.mk' (rs := [1, 2, 3, 4, 5, 6, 7, 8, 0]) (hs := []) ⟨rfl, rfl, rfl, rfl, rfl, rfl, rfl, rfl, rfl, trivial⟩ ⟨rfl, rfl, rfl, rfl, rfl, rfl, rfl, rfl, rfl, trivial⟩ trivial (by decide))
  · skip
    rintro q hq
    refine C.seqJ (fun q : Unit => [(2, .int .u8 (kk.toNat : Int)), (3, ptrOf A3 0), (7, .bool true), (8, .int .i64 w0), (9, .int .i64 w1), (10, .int .i64 w2), (11, ptrOf A11 0), (12, .int .i64 (newE w0 w1 w2))]) (fun q : Unit => [Rd RD (rowsV rhs (B8 rd)), KidsR rhs (B8 rd), Rd RW (U8 rw), Rd A3 [.int .u8 (rs.toNat : Int), .slice RD rd.length rc, .slice RW rw.length rwc, .int .u8 (re.toNat : Int)], Rd b1.D (rowsV b1.hs (B8 (newF w0 w1 w2).data)), KidsR b1.hs (B8 (newF w0 w1 w2).data), Rd b1.W (I64 (newF w0 w1 w2).wear), Rd b1.E (Bs (newF w0 w1 w2).dead), Rd A11 [.int .i64 ((newF w0 w1 w2).size : Int), .slice b1.D (newF w0 w1 w2).data.length b1.cD, .slice b1.W (newF w0 w1 w2).wear.length b1.cW, .int .i64 (newF w0 w1 w2).limit, .slice b1.E (newF w0 w1 w2).dead.length b1.cE]]) (fun q : Unit => []) (fun q : Unit => True) ?_ ?_
    · skip
      refine C.seq ?_
      refine C.region ?_
      refine L.step (Ev.pure rfl) rfl ?_
      refine L.step (Ev.pure rfl) rfl ?_
      refine L.step (Ev.pure rfl) rfl ?_
      refine L.step (Ev.neBool rfl rfl rfl rfl) rfl ?_
      refine L.step (Ev.pure rfl) rfl ?_
      refine L.bool 60 rfl (fun hg60 => ?_) (fun hg60 => ?_)
      · skip
        exact (newE_bool hq hg60).elim
      · skip
        refine L.yes rfl ?_
        refine L.step (Ev.pure rfl) rfl ?_
        refine L.yes rfl ?_
        refine L.step (Ev.pure rfl) rfl ?_
        refine L.yes rfl ?_
        refine L.step (Ev.pure rfl) rfl ?_
        refine L.bool 63 rfl (fun hg63 => ?_) (fun hg63 => ?_)
        · skip
          replace hg63 := i_eq hg63
          have hfine := newE_fine.1 hg63
          refine L.yes rfl ?_
          refine L.step (Ev.loadA rfl rfl rfl (Src.r 8 rfl) rfl rfl (by decide)) rfl ?_
          refine L.yes rfl ?_
          refine L.call (js := []) (js' := []) (Ctr.tb true (valid_c ((newF w0 w1 w2).size : Int) (newF w0 w1 w2) b1 hb1 (by have := (newF_ok hfine).n2; omega)) (okB_ok (newF_ok hfine))) rfl rfl rfl (by decide) ⟨(Has.r 4 rfl), (Has.r 5 rfl), (Has.r 6 rfl), (Has.r 7 rfl), trivial⟩ rfl ?_
          rintro _ _ _ ⟨rfl, rfl, rfl⟩
          refine L.yes rfl ?_
          refine L.step (Ev.pure rfl) rfl ?_
          refine L.yes rfl ?_
          refine L.step (Ev.pure rfl) rfl ?_
          refine L.step (Ev.pure rfl) rfl ?_
          refine L.nil ?_
          refine QE.seq ?_
          refine C.cond rfl (fun h => by cases h) (fun _ => ?_)
          refine C.skip ?_
          refine QE.join (()) (by exact trivial) (by exact Le.mk' (rs := [0, 1, 2, 3, 4, 5, 6, 7, 8]) (hs := []) ⟨rfl, rfl, rfl, rfl, rfl, rfl, rfl, rfl, trivial⟩ ⟨rfl, rfl, rfl, rfl, rfl, rfl, rfl, rfl, rfl, trivial⟩ trivial (by decide))
        · skip
          replace hg63 := i_ne hg63
          refine L.no rfl rfl rfl ?_
          refine L.no rfl rfl rfl ?_
          refine L.no rfl rfl rfl ?_
          refine L.yes rfl ?_
          refine L.step (Ev.pure rfl) rfl ?_
          refine L.step (Ev.pure rfl) rfl ?_
          refine L.nil ?_
          refine QE.seq ?_
          refine C.cond rfl (fun h => by cases h) (fun _ => ?_)
          refine C.skip ?_
          refine QE.join (()) (by exact trivial) (by exact Le.mk' (rs := [0, 1, 2, 3, 4, 5, 6, 7, 8]) (hs := []) ⟨rfl, rfl, rfl, rfl, rfl, rfl, rfl, rfl, trivial⟩ ⟨rfl, rfl, rfl, rfl, rfl, rfl, rfl, rfl, rfl, trivial⟩ trivial (by decide))
    · skip
      rintro _ _
      refine C.seqJ (fun q : Unit => [(2, .int .u8 (kk.toNat : Int)), (3, ptrOf A3 0), (7, .bool true), (8, .int .i64 w0), (9, .int .i64 w1), (10, .int .i64 w2)]) (fun q : Unit => [Rd RD (rowsV rhs (B8 rd)), KidsR rhs (B8 rd), Rd RW (U8 rw), Rd A3 [.int .u8 (rs.toNat : Int), .slice RD rd.length rc, .slice RW rw.length rwc, .int .u8 (re.toNat : Int)]]) (fun q : Unit => []) (fun q : Unit => True) ?_ ?_
      · skip
        refine C.seq ?_
        refine C.region ?_
        refine L.step (Ev.pure rfl) rfl ?_
        refine L.step (Ev.pure rfl) rfl ?_
        refine L.nil ?_
        refine QE.seq ?_
        refine C.condB 70 rfl (fun hc70 => ?_) (fun hc70 => ?_)
        · skip
          replace hc70 := of_decide_eq_true hc70
          refine C.seq ?_
          refine C.region ?_
          refine L.step (Ev.pure rfl) rfl ?_
          refine L.step (Ev.pure rfl) rfl ?_
          refine L.step (Ev.pure rfl) rfl ?_
          refine L.callR (js := []) (js' := []) (new17_e w0 w1 w2) rfl rfl rfl (by decide) trivial rfl ?_
          rintro _ _ _ ⟨b2, ⟨hb2, rfl⟩, rfl, rfl⟩
          refine L.step (Ev.pure rfl) rfl ?_
          refine L.step (Ev.pure rfl) rfl ?_
          refine L.step (Ev.pure rfl) rfl ?_
          refine L.alloc rfl rfl rfl (fun A14 => ?_)
          refine L.storeA (j := 0) rfl rfl rfl rfl rfl (Nat.zero_lt_succ _) rfl rfl ?_
          refine L.step (Ev.pure rfl) rfl ?_
          refine L.nil ?_
          refine QE.seq ?_
          refine C.seq ?_
          refine C.region ?_
          refine L.step (Ev.loadA rfl rfl rfl (Src.r 12 rfl) rfl rfl (by decide)) rfl ?_
          refine L.step (Ev.loadA rfl rfl rfl (Src.o 0 rfl) rfl rfl (by decide)) rfl ?_
          refine L.call (js := []) (js' := [0]) (Ctr.tb true (sameF_c (newF w0 w1 w2) (newF w0 w1 w2) b1 b2 (newF_sm w0 w1 w2) (newF_sm w0 w1 w2) hb1 hb2) (decide_eq_true rfl)) rfl rfl rfl (by decide) ⟨(Has.r 8 rfl), (Has.r 9 rfl), (Has.r 10 rfl), (Has.r 11 rfl), (Has.r 0 rfl), (Has.r 1 rfl), (Has.r 2 rfl), (Has.r 3 rfl), trivial⟩ rfl ?_
          rintro _ _ _ ⟨rfl, rfl, rfl⟩
          refine L.step (Ev.pure rfl) rfl ?_
          refine L.step (Ev.pure rfl) rfl ?_
          refine L.yes rfl ?_
          refine L.step (Ev.pure rfl) rfl ?_
          refine L.yes rfl ?_
          refine L.step (Ev.pure rfl) rfl ?_
          refine L.yes rfl ?_
          refine L.step (Ev.pure rfl) rfl ?_
          refine L.step (Ev.pure rfl) rfl ?_
          refine L.nil ?_
          refine QE.seq ?_
          refine C.condB 86 rfl (fun hc86 => ?_) (fun hc86 => ?_)
          · skip
            replace hc86 := b_ne hc86
            exact (hc86 rfl).elim
          · skip
            replace hc86 := b_eq hc86
            refine C.skip ?_
            refine QE.join (()) (by exact trivial) (by exact Le.mk' (rs := [4, 5, 6, 7]) (hs := []) ⟨rfl, rfl, rfl, rfl, rfl, rfl, trivial⟩ ⟨rfl, rfl, rfl, rfl, trivial⟩ trivial (by decide))
        · skip
          replace hc70 := of_decide_eq_false hc70
          refine C.skip ?_
          refine QE.join (()) (by exact trivial) (by exact Le.mk' (rs := [0, 1, 2, 3]) (hs := []) ⟨rfl, rfl, rfl, rfl, rfl, rfl, trivial⟩ ⟨rfl, rfl, rfl, rfl, trivial⟩ trivial (by decide))
      · skip
        rintro _ _
        refine C.seq ?_
        refine C.region ?_
        refine L.step (Ev.loadA rfl rfl rfl (Src.r 3 rfl) rfl rfl (by decide)) rfl ?_
        refine L.call (js := []) (js' := []) (made_c rs rd rw re RD RW rc rwc rhs hrh hrl hrr hrw) rfl rfl rfl (by decide) ⟨(Has.r 0 rfl), (Has.r 1 rfl), (Has.r 2 rfl), trivial⟩ rfl ?_
        rintro _ _ _ ⟨f, b, ok, hlim, hsz, hdl, hb, rfl, rfl, rfl⟩
        refine L.alloc rfl rfl rfl (fun A16 => ?_)
        refine L.storeA (j := 4) rfl rfl rfl rfl rfl (Nat.zero_lt_succ _) rfl rfl ?_
        refine L.nil ?_
        refine QE.seq ?_
        refine C.seq ?_
        refine C.seq ?_
        refine C.le (Γ' := [(2, .int .u8 (kk.toNat : Int)), (7, .bool true), (8, .int .i64 w0), (9, .int .i64 w1), (10, .int .i64 w2), (16, ptrOf A16 0)]) (R' := []) (H' := [Own 32 5 A16 1 1 [.int .i64 (f.size : Int), .slice b.D f.data.length b.cD, .slice b.W f.wear.length b.cW, .int .i64 f.limit, .slice b.E f.dead.length b.cE], Own 24 1 b.D f.data.length b.cD (rowsV b.hs (B8 f.data)), OwnKids 5 b.hs (B8 f.data), Own 3 1 b.W f.wear.length b.cW (I64 f.wear), Own 4 1 b.E f.dead.length b.cE (Bs f.dead)]) (by exact Le.mk' (rs := []) (hs := [4, 0, 1, 2, 3]) ⟨rfl, rfl, rfl, rfl, rfl, rfl, trivial⟩ trivial ⟨rfl, rfl, rfl, rfl, rfl, trivial⟩ (by decide)) ?_
        refine C.region ?_
        refine L.step (Ev.loadA rfl rfl rfl (Src.o 0 rfl) rfl rfl (by decide)) rfl ?_
        refine L.call (js := []) (js' := [0, 1, 2, 3, 4]) (Ctr.tb true (valid_c (f.size : Int) f b hb (by omega)) (okB_ok ok)) rfl rfl rfl (by decide) ⟨(Has.o 1 rfl), (Has.okids 2 rfl), (Has.o 3 rfl), (Has.o 4 rfl), trivial⟩ rfl ?_
        rintro _ _ _ ⟨rfl, rfl, rfl⟩
        refine L.step (Ev.pure rfl) rfl ?_
        refine L.nil ?_
        refine QE.seq ?_
        refine C.cond rfl (fun h => by cases h) (fun _ => ?_)
        refine C.skip ?_
        refine QE.seq ?_
        refine C.seqJ (fun q : Int × Fl × Fa => [(7, .bool true), (16, ptrOf A16 0)]) (fun q : Int × Fl × Fa => [Rd q.2.2.D (rowsV q.2.2.hs (B8 q.2.1.data)), KidsR q.2.2.hs (B8 q.2.1.data), Rd q.2.2.W (I64 q.2.1.wear), Rd q.2.2.E (Bs q.2.1.dead)]) (fun q : Int × Fl × Fa => [Own 32 5 A16 1 1 [.int .i64 q.1, .slice q.2.2.D q.2.1.data.length q.2.2.cD, .slice q.2.2.W q.2.1.wear.length q.2.2.cW, .int .i64 q.2.1.limit, .slice q.2.2.E q.2.1.dead.length q.2.2.cE]]) (fun q : Int × Fl × Fa => q.2.2.hs.length = q.2.1.data.length ∧ q.2.1.data.length ≤ 9223372036854775807) ?_ ?_
        · skip
          refine C.seq ?_
          refine C.cap 1 rfl (fun hcD => ?_)
          refine C.cap 3 rfl (fun hcW => ?_)
          have hdlb : f.data.length ≤ 9223372036854775807 := by omega
          have hpd : 0 < f.data.length := ok.n1
          have hpw : 0 < f.wear.length := by rw [ok.wl]; exact hpd
          have hrow0 := ok.rows 0 hpd
          have hokd := ok.dl
          refine C.region ?_
          refine L.step (Ev.pure rfl) rfl ?_
          refine L.step (Ev.rem rfl rfl (by omega) (by decide)) rfl ?_
          refine L.nil ?_
          refine QE.seq ?_
          refine C.block ?_
          refine C.seq ?_
          refine C.region ?_
          refine L.step (Ev.pure rfl) rfl ?_
          refine L.step (Ev.pure rfl) rfl ?_
          refine L.nil ?_
          refine QE.seq ?_
          refine C.condB 98 rfl (fun hc98 => ?_) (fun hc98 => ?_)
          · skip
            replace hc98 := i_eq hc98
            refine C.region ?_
            refine L.step (Ev.pure rfl) rfl ?_
            refine L.step (Ev.fieldAddr rfl rfl rfl rfl rfl rfl (Src.o 0 rfl) (Nat.zero_lt_succ _) rfl) rfl ?_
            refine L.store (j := 0) rfl rfl rfl rfl rfl rfl rfl rfl ?_
            refine L.nil ?_
            refine QE.blkN ?_
            refine QE.freeze 1 rfl [0, 2, 3, 4] (by decide) (by decide) ?_
            refine QE.freezeKids 1 rfl [0, 2, 3] (by decide) (by decide) ?_
            refine QE.freeze 1 rfl [0, 2] (by decide) (by decide) ?_
            refine QE.freeze 1 rfl [0] (by decide) (by decide) ?_
            refine QE.join ((w0, f, b)) (by exact ⟨hb, hdlb⟩) (by exact Le.mk' (rs := [3, 2, 1, 0]) (hs := [0]) ⟨rfl, rfl, trivial⟩ ⟨rfl, rfl, rfl, rfl, trivial⟩ ⟨rfl, trivial⟩ (by decide))
          · skip
            replace hc98 := i_ne hc98
            refine C.seq ?_
            refine C.region ?_
            refine L.step (Ev.pure rfl) rfl ?_
            refine L.step (Ev.pure rfl) rfl ?_
            refine L.nil ?_
            refine QE.seq ?_
            refine C.condB 102 rfl (fun hc102 => ?_) (fun hc102 => ?_)
            · skip
              replace hc102 := i_eq hc102
              refine C.region ?_
              refine L.step (Ev.pure rfl) rfl ?_
              refine L.step (Ev.fieldAddr rfl rfl rfl rfl rfl rfl (Src.o 0 rfl) (Nat.zero_lt_succ _) rfl) rfl ?_
              refine L.store (j := 0) rfl rfl rfl rfl rfl rfl rfl rfl ?_
              refine L.nil ?_
              refine QE.blkN ?_
              refine QE.freeze 1 rfl [0, 2, 3, 4] (by decide) (by decide) ?_
              refine QE.freezeKids 1 rfl [0, 2, 3] (by decide) (by decide) ?_
              refine QE.freeze 1 rfl [0, 2] (by decide) (by decide) ?_
              refine QE.freeze 1 rfl [0] (by decide) (by decide) ?_
              refine QE.join (((f.size : Int), { f with limit := w2 }, b)) (by exact ⟨hb, hdlb⟩) (by exact Le.mk' (rs := [3, 2, 1, 0]) (hs := [0]) ⟨rfl, rfl, trivial⟩ ⟨rfl, rfl, rfl, rfl, trivial⟩ ⟨rfl, trivial⟩ (by decide))
            · skip
              replace hc102 := i_ne hc102
              refine C.seq ?_
              refine C.region ?_
              refine L.step (Ev.pure rfl) rfl ?_
              refine L.step (Ev.pure rfl) rfl ?_
              refine L.nil ?_
              refine QE.seq ?_
              refine C.condB 106 rfl (fun hc106 => ?_) (fun hc106 => ?_)
              · skip
                replace hc106 := i_eq hc106
                refine C.region ?_
                refine L.step (Ev.fieldAddr rfl rfl rfl rfl rfl rfl (Src.o 0 rfl) (Nat.zero_lt_succ _) rfl) rfl ?_
                refine L.step (Ev.load rfl rfl rfl (Src.o 0 rfl) rfl) rfl ?_
                refine L.step (Ev.pure rfl) rfl ?_
                refine L.step (Ev.idx1 (k := 0) rfl rfl rfl rfl rfl rfl rfl hpw (Src.o 3 rfl) (I64_pos hpw)) rfl ?_
                refine L.store (j := 3) rfl rfl rfl rfl rfl rfl rfl (by exact I64_get hpw) ?_
                refine L.nil ?_
                refine QE.blkN ?_
                refine QE.freeze 1 rfl [0, 2, 3, 4] (by decide) (by decide) ?_
                refine QE.freezeKids 1 rfl [0, 2, 3] (by decide) (by decide) ?_
                refine QE.freeze 1 rfl [0, 2] (by decide) (by decide) ?_
                refine QE.freeze 1 rfl [0] (by decide) (by decide) ?_
                refine QE.join (((f.size : Int), { f with wear := f.wear.set 0 w1 }, b)) (by exact ⟨hb, hdlb⟩) (by exact Le.mk' (rs := [3, 2, 1, 0]) (hs := [0]) ⟨rfl, rfl, trivial⟩ ⟨rfl, rfl, (congrArg some (by rw [I64_set])), rfl, trivial⟩ ⟨(congrArg some (by dsimp only; rw [List.length_set] <;> rfl)), trivial⟩ (by decide))
              · skip
                replace hc106 := i_ne hc106
                refine C.seq ?_
                refine C.region ?_
                refine L.step (Ev.pure rfl) rfl ?_
                refine L.step (Ev.pure rfl) rfl ?_
                refine L.nil ?_
                refine QE.seq ?_
                refine C.condB 112 rfl (fun hc112 => ?_) (fun hc112 => ?_)
                · skip
                  replace hc112 := i_eq hc112
                  refine C.region ?_
                  refine L.step (Ev.fieldAddr rfl rfl rfl rfl rfl rfl (Src.o 0 rfl) (Nat.zero_lt_succ _) rfl) rfl ?_
                  refine L.step (Ev.load rfl rfl rfl (Src.o 0 rfl) rfl) rfl ?_
                  refine L.step (Ev.sliceL (l := 1) rfl rfl rfl rfl rfl rfl hpw) rfl ?_
                  refine L.step (Ev.fieldAddr rfl rfl rfl rfl rfl rfl (Src.o 0 rfl) (Nat.zero_lt_succ _) rfl) rfl ?_
                  refine L.store (j := 0) rfl rfl rfl rfl rfl rfl rfl rfl ?_
                  refine L.nil ?_
                  refine QE.blkN ?_
                  refine QE.freeze 1 rfl [0, 2, 3, 4] (by decide) (by decide) ?_
                  refine QE.freezeKids 1 rfl [0, 2, 3] (by decide) (by decide) ?_
                  refine QE.freeze 1 rfl [0, 2] (by decide) (by decide) ?_
                  refine QE.freeze 1 rfl [0] (by decide) (by decide) ?_
                  refine QE.more (r := Rd (subA b.W b.cW 1 1) (I64 (f.wear.drop 1))) ((Has.drop1 (Has.r 1 rfl) b.cW (by rw [I64_len]; exact hcW)).cast (I64_drop _ _)) ?_
                  refine QE.join (((f.size : Int), { f with wear := f.wear.drop 1 }, { b with W := subA b.W b.cW 1 1, cW := b.cW - 1 })) (by exact ⟨hb, hdlb⟩) (by exact Le.mk' (rs := [4, 3, 0, 1]) (hs := [0]) ⟨rfl, rfl, trivial⟩ ⟨rfl, rfl, rfl, rfl, trivial⟩ ⟨(congrArg some (by dsimp only; rw [List.length_drop] <;> rfl)), trivial⟩ (by decide))
                · skip
                  replace hc112 := i_ne hc112
                  refine C.seq ?_
                  refine C.region ?_
                  refine L.step (Ev.pure rfl) rfl ?_
                  refine L.step (Ev.pure rfl) rfl ?_
                  refine L.nil ?_
                  refine QE.seq ?_
                  refine C.condB 118 rfl (fun hc118 => ?_) (fun hc118 => ?_)
                  · skip
                    replace hc118 := i_eq hc118
                    refine C.region ?_
                    refine L.step (Ev.fieldAddr rfl rfl rfl rfl rfl rfl (Src.o 0 rfl) (Nat.zero_lt_succ _) rfl) rfl ?_
                    refine L.step (Ev.load rfl rfl rfl (Src.o 0 rfl) rfl) rfl ?_
                    refine L.lit rfl rfl rfl rfl rfl (by rfl) (by rfl) (by rfl) rfl rfl (fun A122 => ?_)
                    refine L.append (j := 4) rfl rfl rfl rfl (by decide) rfl rfl rfl rfl (Src.o 5 rfl) rfl (Bs_one [false]) (by omega) (by show _ * 1 ≤ _; omega) rfl (fun A123 cc123 => ?_)
                    refine L.step (Ev.fieldAddr rfl rfl rfl rfl rfl rfl (Src.o 0 rfl) (Nat.zero_lt_succ _) rfl) rfl ?_
                    refine L.store (j := 0) rfl rfl rfl rfl rfl rfl rfl rfl ?_
                    refine L.nil ?_
                    refine QE.blkN ?_
                    refine QE.freeze 1 rfl [0, 2, 3, 4, 5] (by decide) (by decide) ?_
                    refine QE.freezeKids 1 rfl [0, 2, 3, 4] (by decide) (by decide) ?_
                    refine QE.freeze 1 rfl [0, 2, 3] (by decide) (by decide) ?_
                    refine QE.freeze 1 rfl [0, 2] (by decide) (by decide) ?_
                    refine QE.join (((f.size : Int), { f with dead := f.dead ++ [false] }, { b with E := A123, cE := cc123 })) (by exact ⟨hb, hdlb⟩) (by exact Le.mk' (rs := [3, 2, 1, 0]) (hs := [0]) ⟨rfl, rfl, trivial⟩ ⟨rfl, rfl, rfl, (congrArg some (by rw [← Bs_app]; rfl)), trivial⟩ ⟨(congrArg some (by dsimp only; rw [List.length_append, List.length_singleton] <;> rfl)), trivial⟩ (by decide))
                  · skip
                    replace hc118 := i_ne hc118
                    refine C.seq ?_
                    refine C.region ?_
                    refine L.step (Ev.pure rfl) rfl ?_
                    refine L.step (Ev.pure rfl) rfl ?_
                    refine L.nil ?_
                    refine QE.seq ?_
                    refine C.condB 125 rfl (fun hc125 => ?_) (fun hc125 => ?_)
                    · skip
                      replace hc125 := i_eq hc125
                      refine C.takeKid8 2 0 rfl hpd [0, 1, 3, 4] (by decide) ?_
                      refine C.regionM [Rd A16 [.int .i64 (f.size : Int), .slice b.D f.data.length b.cD, .slice b.W f.wear.length b.cW, .int .i64 f.limit, .slice b.E f.dead.length b.cE], Rd b.D (rowsV b.hs (B8 f.data))] ⟨Has.o 2 rfl, Has.o 3 rfl, trivial⟩ ?_
                      refine LM.q 0 rfl (by kernel_rfl) (Ev.fieldAddr rfl rfl rfl rfl rfl rfl (Src.r 0 rfl) (Nat.zero_lt_succ _) rfl) rfl ⟨Has.o 2 rfl, Has.o 3 rfl, trivial⟩ ?_
                      refine LM.q 1 rfl (by kernel_rfl) (Ev.load rfl rfl rfl (Src.r 0 rfl) rfl) rfl ⟨Has.o 2 rfl, Has.o 3 rfl, trivial⟩ ?_
                      refine LM.q 2 rfl (by kernel_rfl) (Ev.fieldAddr rfl rfl rfl rfl rfl rfl (Src.r 0 rfl) (Nat.zero_lt_succ _) rfl) rfl ⟨Has.o 2 rfl, Has.o 3 rfl, trivial⟩ ?_
                      refine LM.q 3 rfl (by kernel_rfl) (Ev.load rfl rfl rfl (Src.r 0 rfl) rfl) rfl ⟨Has.o 2 rfl, Has.o 3 rfl, trivial⟩ ?_
                      refine LM.q 4 rfl (by kernel_rfl) (Ev.idx1 (k := 0) rfl rfl rfl rfl rfl rfl rfl hpd (Src.r 1 rfl) (rows_pos hb hpd)) rfl ⟨Has.o 2 rfl, Has.o 3 rfl, trivial⟩ ?_
                      refine LM.q 5 rfl (by kernel_rfl) (Ev.load rfl rfl rfl (Src.r 1 rfl) (rows8_get hb hpd)) rfl ⟨Has.o 2 rfl, Has.o 3 rfl, trivial⟩ ?_
                      refine LM.f 6 rfl (by kernel_rfl) ⟨Has.o 2 rfl, Has.o 3 rfl, trivial⟩ ?_
                      refine L.lit rfl rfl rfl rfl rfl (by rfl) (by rfl) (by rfl) rfl rfl (fun A133 => ?_)
                      refine L.nil (QE.m (by kernel_rfl) ?_)
                      refine LM.f 7 rfl (by kernel_rfl) ⟨Has.o 2 rfl, Has.o 3 rfl, trivial⟩ ?_
                      refine L.append (j := 0) rfl rfl rfl rfl (by decide) rfl rfl rfl rfl (Src.o 6 rfl) rfl (U8_one [0]) (by omega) (by show _ * 1 ≤ _; omega) rfl (fun A134 cc134 => ?_)
                      refine L.nil (QE.m (by kernel_rfl) ?_)
                      refine LM.cut [] (by kernel_rfl) ⟨Has.o 2 rfl, Has.o 3 rfl, trivial⟩ ?_
                      refine LM.f 8 rfl (by kernel_rfl) trivial ?_
                      refine L.step (Ev.idx1 (k := 0) rfl rfl rfl rfl rfl rfl rfl hpd (Src.o 3 rfl) (rows_pos hb hpd)) rfl ?_
                      refine L.nil (QE.m (by kernel_rfl) ?_)
                      refine LM.f 9 rfl (by kernel_rfl) trivial ?_
                      refine L.store (j := 3) rfl rfl rfl rfl rfl rfl rfl (by exact rows8_get hb hpd) ?_
                      refine L.nil (QE.m (by kernel_rfl) ?_)
                      refine LM.nil (by kernel_rfl) trivial ?_
                      refine QE.blkN ?_
                      refine QE.freeze 3 rfl [0, 1, 2, 4, 5, 6] (by decide) (by decide) ?_
                      refine QE.freezeKids 1 rfl [0, 2, 3, 4, 5] (by decide) (by decide) ?_
                      refine QE.freeze 2 rfl [0, 1, 3, 4] (by decide) (by decide) ?_
                      refine QE.freeze 2 rfl [0, 1, 3] (by decide) (by decide) ?_
                      refine QE.freeze 0 rfl [1, 2] (by decide) (by decide) ?_
                      refine QE.more (r := KidsR (b.hs.set 0 (A134, cc134)) (B8 (f.data.set 0 (f.data.getD 0 [] ++ [0])))) (Has.kidsSet8 3 0 0 cc134 rfl rfl (by rw [← U8_app]; rfl)) ?_
                      refine QE.join (((f.size : Int), { f with data := f.data.set 0 (f.data.getD 0 [] ++ [0]) }, { b with hs := b.hs.set 0 (A134, cc134) })) (by exact ⟨by dsimp only; rw [List.length_set, List.length_set]; exact hb, by dsimp only; rw [List.length_set]; exact hdlb⟩) (by exact Le.mk' (rs := [5, 0, 3, 2]) (hs := [0]) ⟨rfl, rfl, trivial⟩ ⟨(congrArg some (by dsimp only; rw [← rowsV_put, List.length_append, List.length_singleton])), rfl, rfl, rfl, trivial⟩ ⟨(congrArg some (by dsimp only; rw [List.length_set] <;> rfl)), trivial⟩ (by decide))
                    · skip
                      replace hc125 := i_ne hc125
                      refine C.region ?_
                      refine L.step (Ev.fieldAddr rfl rfl rfl rfl rfl rfl (Src.o 0 rfl) (Nat.zero_lt_succ _) rfl) rfl ?_
                      refine L.step (Ev.load rfl rfl rfl (Src.o 0 rfl) rfl) rfl ?_
                      refine L.step (Ev.sliceL (l := 1) rfl rfl rfl rfl rfl rfl hpd) rfl ?_
                      refine L.step (Ev.fieldAddr rfl rfl rfl rfl rfl rfl (Src.o 0 rfl) (Nat.zero_lt_succ _) rfl) rfl ?_
                      refine L.store (j := 0) rfl rfl rfl rfl rfl rfl rfl rfl ?_
                      refine L.nil ?_
                      refine QE.blkN ?_
                      refine QE.freeze 1 rfl [0, 2, 3, 4] (by decide) (by decide) ?_
                      refine QE.freezeKids 1 rfl [0, 2, 3] (by decide) (by decide) ?_
                      refine QE.freeze 1 rfl [0, 2] (by decide) (by decide) ?_
                      refine QE.freeze 1 rfl [0] (by decide) (by decide) ?_
                      refine QE.more (r := Rd (subA b.D b.cD 1 1) (rowsV (b.hs.drop 1) (B8 (f.data.drop 1)))) ((Has.drop1 (Has.r 3 rfl) b.cD (by rw [rowsV_len (by rw [B8_len]; exact hb), B8_len]; exact hcD)).cast (by rw [rowsV_drop, B8_drop])) ?_
                      refine QE.more (r := KidsR (b.hs.drop 1) (B8 (f.data.drop 1))) ((B8_drop f.data 1) ▸ (Has.kidsDrop (Has.r 3 rfl) 1)) ?_
                      refine QE.join (((f.size : Int), { f with data := f.data.drop 1 }, { b with D := subA b.D b.cD 1 1, cD := b.cD - 1, hs := b.hs.drop 1 })) (by exact ⟨by dsimp only; rw [List.length_drop, List.length_drop, hb], by dsimp only; rw [List.length_drop]; omega⟩) (by exact Le.mk' (rs := [1, 0, 3, 2]) (hs := [0]) ⟨rfl, rfl, trivial⟩ ⟨rfl, rfl, rfl, rfl, trivial⟩ ⟨(congrArg some (by dsimp only; rw [List.length_drop] <;> rfl)), trivial⟩ (by decide))
        · skip
          clear hb
          rintro ⟨z, g, c⟩ ⟨hgb, hgl⟩
          dsimp only at hgb hgl ⊢
          refine C.seq ?_
          refine C.regionQ (by kernel_rfl) ?_
          refine LQ.step (Ev.loadA rfl rfl rfl (Src.o 0 rfl) rfl rfl (by decide)) rfl ?_
          refine LQ.call (.bool (okB z g)) (valid_c z g c hgb hgl) (fun _ _ _ h => h.1) rfl ⟨(Has.r 0 rfl), (Has.r 1 rfl), (Has.r 2 rfl), (Has.r 3 rfl), trivial⟩ rfl ?_
          refine LQ.step (Ev.loadA rfl rfl rfl (Src.o 0 rfl) rfl rfl (by decide)) rfl ?_
          refine LQ.call (.bool (okB z g)) (valid17_c z g c hgb hgl) (fun _ _ _ h => h.1) rfl ⟨(Has.r 0 rfl), (Has.r 1 rfl), (Has.r 2 rfl), (Has.r 3 rfl), trivial⟩ rfl ?_
          refine LQ.step (Ev.eqBool rfl rfl rfl rfl) rfl ?_
          refine LQ.step (Ev.pure rfl) rfl ?_
          refine LQ.bool 141 rfl (fun hg141 => ?_) (fun hg141 => ?_)
          · skip
            refine LQ.yes rfl ?_
            refine LQ.step (Ev.pure rfl) rfl ?_
            refine LQ.step (Ev.pure rfl) rfl ?_
            refine LQ.step (Ev.pure rfl) rfl ?_
            refine LQ.nil ?_
            refine QE.seq ?_
            refine C.ret ?_
            refine QE.ret (js := []) (hs := []) (vs := [_]) rfl ⟨rfl, trivial⟩ (by decide) ?_
            exact ⟨rfl, rfl, rfl⟩
          · skip
            simp at hg141

end Go.Proofs.Ythfjkdgopkmgoaa
