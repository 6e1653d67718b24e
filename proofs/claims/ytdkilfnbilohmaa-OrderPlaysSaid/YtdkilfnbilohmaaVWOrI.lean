/-
  Reads of the program.
-/
import Derived.Laws.StructEq
import Derived.Test.YtdkilfnbilohmaaVWOrH
import Derived.Test.YtdkilfnbilohmaaVOg
namespace Go.Proofs.Ytdkilfnbilohmaa
open Go.Sl

theorem run_part {P : Program} {t : Nat} {d : TypeDesc} (w : World) {xs : Array Value} {off : Nat} {v : Value} (hu : P.underlying t = some d) (hd : (match d with | .struct _ | .array _ _ => true | _ => false) = false) (hx : xs[off]? = some v) : (part t xs off).run P w = .ok v w := by
 cases d <;> simp at hd <;> simp [part, isAgg, run_underlying hu, hx]
theorem Ev.neSym {β : Base} {Γ : Env} {R H : List Pr} {x y : Operand} {a b : Sy} {ty : Nat} (hx : ev Γ x = some (.agg (List.toArray a.cells))) (hy : ev Γ y = some (.agg (List.toArray b.cells))) :
   Ev X β Γ R H (.binOp .neq 45 x y ty) (.bool (decide (a ≠ b))) := by
 intro ρ w hρ hw o ho
 have e1 := (X.ok 45 _ rfl).und
 have u4 := (X.ok 4 _ rfl).und
 have u3 := (X.ok 3 _ rfl).und
 have u5 := (X.ok 5 _ rfl).und
 have hp : X.P.stoodInHeld 45 = false := by kernel_rfl
 have hg : X.P.eqGuardType X.P.depth 45 = false := by kernel_rfl
 have hf : X.P.fieldsOf 45 = #[⟨ "Old", 4, 0, false, "", "", 0⟩, ⟨ "At", 3, 1, false, "", "", 8⟩, ⟨ "B", 5, 2, false, "", "", 16⟩] := by unfold Program.fieldsOf; rw [e1]; rfl
 have hS : X.P.underlying 45 = some (.struct (X.P.fieldsOf 45)) := by rw [hf]; exact e1
 have hb : (binOp .neq 45 (.agg (List.toArray a.cells)) (.agg (List.toArray b.cells))).run X.P w = .ok (.bool (decide (a ≠ b))) w := by
   rw [run_neq_struct, show (10000 : Nat) = 9998 + 1 + 1 from rfl, run_equalIn_agg w _ 45 _ _ hS hp, hf]
   obtain ⟨a1, a2, a3⟩ := a
   obtain ⟨b1, b2, b3⟩ := b
   simp only [Op.eqFields, Sy.cells]
   have f1 : ∀ (p q r : Value), (part 4 #[p, q, r] 0).run X.P w = .ok p w := fun p q r => run_part w u4 rfl rfl
   have f2 : ∀ (p q r : Value), (part 3 #[p, q, r] 1).run X.P w = .ok q w := fun p q r => run_part w u3 rfl rfl
   have f3 : ∀ (p q r : Value), (part 5 #[p, q, r] 2).run X.P w = .ok r w := fun p q r => run_part w u5 rfl rfl
   have e3 : (a3.toNat : Int) = (b3.toNat : Int) ↔ a3 = b3 := by rw [Int.ofNat_inj, UInt8.toNat_inj]
   simp [f1, f2, f3, run_equalIn_bool' w _ 4 _ _ u4, run_equalIn_int w _ 3 _ _ _ _ u3, run_equalIn_int w _ 5 _ _ _ _ u5]
   by_cases h1 : a1 = b1
   · by_cases h2 : a2 = b2
     · by_cases h3 : a3 = b3
       · simp [h1, h2, h3]
       · simp [h1, h2, h3, e3]
     · simp [h1, h2]
   · simp [h1]
 simp [execOp, ho, hρ _ _ hx, hρ _ _ hy, run_eqGuard_agg w .neq 45 x y _ _ hg, hb]
set_option maxHeartbeats 2000000 in
theorem reads_c (lf : Bool) (inn out : Int) (ops : List Po) (OA : Option Addr) (oc : Nat) (hops : ops.length ≤ 9223372036854775807) (size : Int) (hok : chkE inn out ops = 0 → lf = false → 1 ≤ size → size ≤ 4096 → RwOk (rdC inn out size.toNat (symL ops)) size.toNat (rdN inn out size.toNat) (symL ops)) :
   Ctr X 7 [.agg (List.toArray [.bool lf, .int .i64 inn, .int .i64 out, .slice OA ops.length oc]), .int .i64 size] [Rd OA (opsV ops)] [] (fun v R' H' => ∃ (A : Option Addr) (c : Nat) (hs : List Hd), v = .tuple #[.slice A (rdR lf inn out size ops).length c, .int .i64 (rdE lf inn out size ops)] ∧ R' = [Rd A (rowsV hs (J8 (rdR lf inn out size ops))), KidsR hs (J8 (rdR lf inn out size ops))] ∧ H' = [] ∧ hs.length = (rdR lf inn out size ops).length) := by
 refine Ctr.of (X := X) (fn := Try.f7) Try.func7 rfl (by kernel_rfl) rfl ?_
 intro β
 refine C.seq (C.region ?_)
 refine L.boxA rfl rfl (fun A2 => ?_)
 refine Lpu rfl rfl ?_; refine Lpu rfl rfl ?_; refine L.nil (QE.seq (C.seq ?_)); refine C.freeze 0 rfl [] (by decide) (by decide) ?_; refine C.region ?_; refine L.step (Ev.loadA rfl rfl rfl (Src.r 0 rfl) rfl rfl (by decide)) rfl ?_; refine L.call (js := []) (js' := []) (symbols_c lf inn out ops OA oc hops) rfl rfl rfl (by decide) (Hq [1] rfl) rfl ?_
 rintro _ _ _ ⟨A22, c22, rfl, rfl, rfl⟩
 refine Lpu rfl rfl ?_; refine Lpu rfl rfl ?_; refine Lpu rfl rfl ?_; refine Lpu rfl rfl ?_; refine Lpu rfl rfl ?_; refine L.nil (QE.seq (C.seq (C.block (C.seq ?_)))); refine C.freeze 0 rfl [] (by decide) (by decide) ?_; refine C.region ?_; refine Lpu rfl rfl ?_; refine Lpu rfl rfl ?_; refine Lpu rfl rfl ?_; refine L.nil (QE.seq ?_)
 refine C.condB 25 rfl (fun hc25 => ?_) (fun hc25 => ?_)
 ·
  replace hc25 := b_ne hc25
  refine C.seq (C.region ?_); refine Lpu rfl rfl ?_; refine Lpu rfl rfl ?_; refine Lpu rfl rfl ?_; refine L.nil (QE.seq (C.ret (QE.bR (QE.tR ?_)))); refine QE.more (r := Rd none (rowsV [] (J8 []))) (Has.nil) ?_; refine QE.more (r := KidsR [] (J8 [])) (Has.kids0) ?_; refine QE.ret (js := [1, 0]) (hs := []) (vs := [_, _]) rfl ⟨rfl, rfl, trivial⟩ (by decide) ?_
  have hE : rdE lf inn out size ops = _ := rdE_1 hc25
  refine ⟨none, 0, [], ?_, ?_, rfl, ?_⟩
  · rw [rdR_no (by rw [hE]; first | decide | exact hc25), hE]; rfl
  · rw [rdR_no (by rw [hE]; first | decide | exact hc25)]; rfl
  · rw [rdR_no (by rw [hE]; first | decide | exact hc25)]; rfl
 ·
  replace hc25 := b_eq hc25
  obtain ⟨k1, k2, k3, k4, k5, k6⟩ := chkE_ok hc25
  rw [show syS inn out ops = symL ops from if_pos hc25]
  have htot := chkG_tot ops out k3 k6
  refine C.seq (C.region ?_); refine L.step (Ev.fieldAddr rfl rfl rfl rfl rfl rfl (Src.r 1 rfl) (Nat.zero_lt_succ _) rfl) rfl ?_; refine L.step (Ev.load rfl rfl rfl (Src.r 1 rfl) rfl) rfl ?_; refine Lpu rfl rfl ?_; refine L.nil (QE.seq ?_)
  refine C.condB 29 rfl (fun hc29 => ?_) (fun hc29 => ?_)
  ·
   refine C.seq (C.region ?_); refine Lpu rfl rfl ?_; refine Lpu rfl rfl ?_; refine L.nil (QE.seq (C.ret (QE.bR (QE.tR ?_)))); refine QE.more (r := Rd none (rowsV [] (J8 []))) (Has.nil) ?_; refine QE.more (r := KidsR [] (J8 [])) (Has.kids0) ?_; refine QE.ret (js := [1, 0]) (hs := []) (vs := [_, _]) rfl ⟨rfl, rfl, trivial⟩ (by decide) ?_
   have hE : rdE lf inn out size ops = _ := rdE_2 hc25 hc29
   refine ⟨none, 0, [], ?_, ?_, rfl, ?_⟩
   · rw [rdR_no (by rw [hE]; first | decide | exact hc25), hE]; rfl
   · rw [rdR_no (by rw [hE]; first | decide | exact hc25)]; rfl
   · rw [rdR_no (by rw [hE]; first | decide | exact hc25)]; rfl
  ·
   refine C.seq (C.region ?_); refine Lpu rfl rfl ?_; refine Lpu rfl rfl ?_; refine Lpu rfl rfl ?_
   refine L.bool 35 rfl (fun hg35 => ?_) (fun hg35 => ?_)
   ·
    replace hg35 := of_decide_eq_true hg35
    refine L.no rfl rfl rfl ?_; refine L.no rfl rfl rfl ?_; refine Lpu rfl rfl ?_; refine Lpu rfl rfl ?_; refine L.nil (QE.seq ?_)
    refine C.cond rfl (fun _ => ?_) (fun h => by cases h)
    refine C.seq (C.region ?_); refine Lpu rfl rfl ?_; refine Lpu rfl rfl ?_; refine L.nil (QE.seq (C.ret (QE.bR (QE.tR ?_)))); refine QE.more (r := Rd none (rowsV [] (J8 []))) (Has.nil) ?_; refine QE.more (r := KidsR [] (J8 [])) (Has.kids0) ?_; refine QE.ret (js := [1, 0]) (hs := []) (vs := [_, _]) rfl ⟨rfl, rfl, trivial⟩ (by decide) ?_
    have hE : rdE lf inn out size ops = _ := rdE_3 hc25 (by simpa using hc29) (by omega)
    refine ⟨none, 0, [], ?_, ?_, rfl, ?_⟩
    · rw [rdR_no (by rw [hE]; first | decide | exact hc25), hE]; rfl
    · rw [rdR_no (by rw [hE]; first | decide | exact hc25)]; rfl
    · rw [rdR_no (by rw [hE]; first | decide | exact hc25)]; rfl
   ·
    replace hg35 := of_decide_eq_false hg35
    refine L.yes rfl ?_; refine Lpu rfl rfl ?_; refine L.yes rfl ?_; refine Lpu rfl rfl ?_; refine Lpu rfl rfl ?_; refine Lpu rfl rfl ?_; refine L.nil (QE.seq ?_)
    refine C.condB 32 rfl (fun hc32 => ?_) (fun hc32 => ?_)
    ·
     replace hc32 := of_decide_eq_true hc32
     refine C.seq (C.region ?_); refine Lpu rfl rfl ?_; refine Lpu rfl rfl ?_; refine L.nil (QE.seq (C.ret (QE.bR (QE.tR ?_)))); refine QE.more (r := Rd none (rowsV [] (J8 []))) (Has.nil) ?_; refine QE.more (r := KidsR [] (J8 [])) (Has.kids0) ?_; refine QE.ret (js := [1, 0]) (hs := []) (vs := [_, _]) rfl ⟨rfl, rfl, trivial⟩ (by decide) ?_
     have hE : rdE lf inn out size ops = _ := rdE_3 hc25 (by simpa using hc29) (by omega)
     refine ⟨none, 0, [], ?_, ?_, rfl, ?_⟩
     · rw [rdR_no (by rw [hE]; first | decide | exact hc25), hE]; rfl
     · rw [rdR_no (by rw [hE]; first | decide | exact hc25)]; rfl
     · rw [rdR_no (by rw [hE]; first | decide | exact hc25)]; rfl
    ·
     replace hc32 := of_decide_eq_false hc32
     refine C.skip ?_; refine QE.blkN ?_; refine QE.seq (C.seq ?_)
     obtain ⟨S, rfl⟩ : ∃ S : Nat, size = (S : Int) := ⟨size.toNat, by omega⟩
     refine C.region ?_; refine L.step (Ev.fieldAddr rfl rfl rfl rfl rfl rfl (Src.r 1 rfl) (Nat.zero_lt_succ _) rfl) rfl ?_; refine L.step (Ev.load rfl rfl rfl (Src.r 1 rfl) rfl) rfl ?_; refine L.step (Ev.fieldAddr rfl rfl rfl rfl rfl rfl (Src.r 1 rfl) (Nat.zero_lt_succ _) rfl) rfl ?_; refine L.step (Ev.load rfl rfl rfl (Src.r 1 rfl) rfl) rfl ?_; refine L.step (Ev.cast (u := .int .i64 (max inn out)) (Ev.pure rfl) (congrArg (Value.int .i64) (by simp only [if_true]; split <;> omega))) rfl ?_; refine Lpu rfl rfl ?_; refine L.step (Ev.add rfl rfl (by omega) (by omega)) rfl ?_; refine L.step (Ev.sub rfl rfl (by omega) (by omega)) rfl ?_; refine Lpu rfl rfl ?_; refine L.step (Ev.cast (u := .int .i64 (((rdN inn out S) : Nat) : Int)) (Ev.quo rfl rfl (by omega) (by omega) (by omega)) (congrArg (Value.int .i64) (rdN_eq k1 k3 (by omega)))) rfl ?_; refine Lpu rfl rfl ?_; refine L.nil (QE.seq (C.seq (C.seq (C.region ?_)))); refine Lpu rfl rfl ?_; refine Lpu rfl rfl ?_; refine L.nil (QE.seq ?_)
     refine C.condB 50 rfl (fun hc50 => ?_) (fun hc50 => ?_)
     ·
      replace hc50 := of_decide_eq_true hc50
      refine C.seq (C.region ?_); refine Lpu rfl rfl ?_; refine Lpu rfl rfl ?_; refine L.nil (QE.seq (C.ret (QE.tR ?_))); refine QE.more (r := Rd none (rowsV [] (J8 []))) (Has.nil) ?_; refine QE.more (r := KidsR [] (J8 [])) (Has.kids0) ?_; refine QE.ret (js := [1, 0]) (hs := []) (vs := [_, _]) rfl ⟨rfl, rfl, trivial⟩ (by decide) ?_
      have hE : rdE lf inn out (S : Int) ops = _ := rdE_4 hc25 (by simpa using hc29) (by omega) (by omega) (by simp only [Int.toNat_natCast]; omega)
      refine ⟨none, 0, [], ?_, ?_, rfl, ?_⟩
      · rw [rdR_no (by rw [hE]; first | decide | exact hc25), hE]; rfl
      · rw [rdR_no (by rw [hE]; first | decide | exact hc25)]; rfl
      · rw [rdR_no (by rw [hE]; first | decide | exact hc25)]; rfl
     ·
      replace hc50 := of_decide_eq_false hc50
      have hrw : RwOk (rdC inn out S (symL ops)) S (rdN inn out S) (symL ops) := hok hc25 (by simpa using hc29) (by omega) (by omega)
      refine C.skip (QE.seq (C.seq (C.region ?_))); refine Lpu rfl rfl ?_
      refine L.make (m := (rdN inn out S)) rfl rfl rfl rfl rfl rfl rfl rfl rfl (by show 1 * _ ≤ _; omega) (by omega) rfl (fun A52 => ?_)
      refine Lpu rfl rfl ?_; refine L.nil (QE.seq (C.seq (C.seq (C.region ?_)))); refine Lpu rfl rfl ?_; refine Lpu rfl rfl ?_; refine Lpu rfl rfl ?_; refine L.nil (QE.seq (C.block ?_)); refine C.loop (fun k : Nat => [(1, .int .i64 (S : Int)), (2, ptrOf A2 0), (6, .slice A22 (symL ops).length c22), (8, .int .i64 ((rdN inn out S) : Int)), (9, .slice A52 (rdN inn out S) (rdN inn out S)), (53, .slice A22 (symL ops).length c22), (54, .int .i64 ((symL ops).length : Int)), (55, .int .i64 (k : Int))]) (fun k : Nat => [Rd A2 [.bool lf, .int .i64 inn, .int .i64 out, .slice OA ops.length oc], Rd OA (opsV ops), Rd A22 (symsV (symL ops))]) (fun k : Nat => [Own 4 1 A52 (rdN inn out S) (rdN inn out S) (Bs (chL (symL ops) S (rdN inn out S) k))]) (fun k : Nat => k ≤ (symL ops).length) (fun k : Nat => (symL ops).length - k) 0 (Nat.zero_le _) (by exact Le.mk' (rs := [1, 2, 0]) (hs := [0]) ⟨rfl, rfl, rfl, rfl, rfl, rfl, rfl, rfl, trivial⟩ ⟨rfl, rfl, rfl, trivial⟩ ⟨(congrArg some (own_eq rfl (by rw [chL_zero, ← Bs_rep]; rfl))), trivial⟩ (by decide)) ?_
      intro k hk
      refine C.seq (C.region ?_); refine Lpu rfl rfl ?_; refine L.nil (QE.seq (C.seq ?_))
      refine C.condB 56 rfl (fun hc56 => ?_) (fun hc56 => ?_)
      ·
       replace hc56 := of_decide_eq_true hc56
       refine C.skip (QE.seq (C.seq (C.block (C.seq ?_))))
       have hlt := rdN_lt (inn := inn) (out := out) (S := S) (i := k) (by omega) (by omega)
       refine C.region ?_; refine Lpu rfl rfl ?_; refine L.step (Ev.idx (k := k) (m := k * 3) rfl rfl rfl rfl rfl rfl (by omega) (Src.r 2 rfl) (syms_pos (k := k) (by omega)) rfl) rfl ?_; refine L.step (Ev.loadA (vs := Sy.cells ((symL ops).getD k Sy.zero)) rfl rfl rfl (Src.r 2 rfl) (symsV_at (symL ops) k (by omega)) rfl (by decide)) rfl ?_
       refine L.alloc rfl rfl rfl (fun A11 => ?_)
       refine Lpu rfl rfl ?_; refine L.storeA (j := 1) rfl rfl rfl rfl rfl (Nat.zero_lt_succ _) rfl rfl ?_; refine L.nil (QE.seq (C.seq (C.region ?_))); refine L.step (Ev.loadA (vs := Sy.cells ((symL ops).getD k Sy.zero)) rfl rfl rfl (Src.o 1 rfl) rfl rfl (by decide)) rfl ?_; refine Lpu rfl rfl ?_; refine L.step (Ev.build rfl rfl rfl rfl rfl rfl rfl) rfl ?_; refine L.step (Ev.neSym (a := ((symL ops).getD k Sy.zero)) (b := ⟨true, (k : Int), 0⟩) rfl rfl) rfl ?_; refine L.nil (QE.seq ?_)
       refine C.condB 63 rfl (fun hc63 => ?_) (fun hc63 => ?_)
       ·
        have hx : chX (symL ops) k = true := by rw [chX_lo (by omega)]; exact hc63
        refine C.region ?_; refine Lpu rfl rfl ?_; refine Lpu rfl rfl ?_; refine Lpu rfl rfl ?_; refine L.step (Ev.cast (u := .int .i64 ((k / S : Nat) : Int)) (Ev.quo rfl rfl (by omega) (by omega) (by omega)) (congrArg (Value.int .i64) (Int.natCast_ediv k S).symm)) rfl ?_; refine L.step (Ev.idx1 (k := (k / S)) rfl rfl rfl rfl rfl rfl rfl (by omega) (Src.o 0 rfl) (by rw [Bs_len, chL_len]; exact Nat.zero_lt_of_lt hlt)) rfl ?_; refine L.store (j := 0) rfl rfl rfl rfl rfl rfl rfl (by exact Bs_get (by rw [chL_len]; omega)) ?_; refine L.nil ?_; refine QE.blkN ?_; refine QE.seq (C.region ?_); refine L.step (Ev.add rfl rfl (by omega) (by omega)) rfl ?_; refine Lpu rfl rfl ?_; refine L.nil ?_
        refine QE.round (k + 1) (by omega) (by omega) (by exact Le.mk' (rs := [0, 1, 2]) (hs := [0]) ⟨rfl, rfl, rfl, rfl, rfl, rfl, rfl, rfl, trivial⟩ ⟨rfl, rfl, rfl, trivial⟩ ⟨(congrArg some (own_eq rfl (by rw [Bs_set, chL_yes hx]))), trivial⟩ (by decide))
       ·
        have hx : chX (symL ops) k = false := by rw [chX_lo (by omega)]; exact hc63
        refine C.skip ?_; refine QE.blkN ?_; refine QE.seq (C.region ?_); refine L.step (Ev.add rfl rfl (by omega) (by omega)) rfl ?_; refine Lpu rfl rfl ?_; refine L.nil ?_
        refine QE.round (k + 1) (by omega) (by omega) (by exact Le.mk' (rs := [0, 1, 2]) (hs := [0]) ⟨rfl, rfl, rfl, rfl, rfl, rfl, rfl, rfl, trivial⟩ ⟨rfl, rfl, rfl, trivial⟩ ⟨(congrArg some (by rw [chL_no hx])), trivial⟩ (by decide))
      ·
       replace hc56 := of_decide_eq_false hc56
       refine C.exit ?_; refine QE.tX ?_; refine QE.tX ?_; refine QE.blk ?_; refine QE.seq (C.seq (C.seq (C.region ?_))); refine L.step (Ev.fieldAddr rfl rfl rfl rfl rfl rfl (Src.r 0 rfl) (Nat.zero_lt_succ _) rfl) rfl ?_; refine L.step (Ev.load rfl rfl rfl (Src.r 0 rfl) rfl) rfl ?_; refine Lpu rfl rfl ?_; refine L.nil (QE.seq (C.block ?_))
       obtain rfl : k = (symL ops).length := by omega
       refine C.loop (fun k : Nat => [(1, .int .i64 (S : Int)), (2, ptrOf A2 0), (6, .slice A22 (symL ops).length c22), (8, .int .i64 ((rdN inn out S) : Int)), (9, .slice A52 (rdN inn out S) (rdN inn out S)), (12, .int .i64 (k : Int))]) (fun k : Nat => [Rd A2 [.bool lf, .int .i64 inn, .int .i64 out, .slice OA ops.length oc], Rd OA (opsV ops), Rd A22 (symsV (symL ops))]) (fun k : Nat => [Own 4 1 A52 (rdN inn out S) (rdN inn out S) (Bs (chL (symL ops) S (rdN inn out S) k))]) (fun k : Nat => (symL ops).length ≤ k ∧ k ≤ (max inn out).toNat) (fun k : Nat => (max inn out).toNat - k) (symL ops).length ⟨Nat.le_refl _, by omega⟩ (by exact Le.mk' (rs := [0, 1, 2]) (hs := [0]) ⟨rfl, rfl, rfl, rfl, rfl, (congrArg some (congrArg (Value.int .i64) htot.symm)), trivial⟩ ⟨rfl, rfl, rfl, trivial⟩ ⟨rfl, trivial⟩ (by decide)) ?_
       rintro k ⟨hk, hk2⟩
       refine C.seq (C.seq (C.region ?_)); refine Lpu rfl rfl ?_; refine L.step (Ev.fieldAddr rfl rfl rfl rfl rfl rfl (Src.r 0 rfl) (Nat.zero_lt_succ _) rfl) rfl ?_; refine L.step (Ev.load rfl rfl rfl (Src.r 0 rfl) rfl) rfl ?_; refine Lpu rfl rfl ?_; refine L.nil (QE.seq ?_)
       refine C.condB 75 rfl (fun hc75 => ?_) (fun hc75 => ?_)
       ·
        replace hc75 := of_decide_eq_true hc75
        refine C.skip (QE.seq (C.seq (C.block ?_)))
        have hlt := rdN_lt (inn := inn) (out := out) (S := S) (i := k) (by omega) (by omega)
        refine C.region ?_; refine Lpu rfl rfl ?_; refine Lpu rfl rfl ?_; refine Lpu rfl rfl ?_; refine L.step (Ev.cast (u := .int .i64 ((k / S : Nat) : Int)) (Ev.quo rfl rfl (by omega) (by omega) (by omega)) (congrArg (Value.int .i64) (Int.natCast_ediv k S).symm)) rfl ?_; refine L.step (Ev.idx1 (k := (k / S)) rfl rfl rfl rfl rfl rfl rfl (by omega) (Src.o 0 rfl) (by rw [Bs_len, chL_len]; exact Nat.zero_lt_of_lt hlt)) rfl ?_; refine L.store (j := 0) rfl rfl rfl rfl rfl rfl rfl (by exact Bs_get (by rw [chL_len]; omega)) ?_; refine L.nil ?_; refine QE.blkN ?_; refine QE.seq (C.region ?_); refine Lpu rfl rfl ?_; refine L.step (Ev.add rfl rfl (by omega) (by omega)) rfl ?_; refine Lpu rfl rfl ?_; refine L.nil ?_
        refine QE.round (k + 1) (by exact ⟨by omega, by omega⟩) (by omega) (by exact Le.mk' (rs := [0, 1, 2]) (hs := [0]) ⟨rfl, rfl, rfl, rfl, rfl, rfl, trivial⟩ ⟨rfl, rfl, rfl, trivial⟩ ⟨(congrArg some (own_eq rfl (by rw [Bs_set, chL_yes (chX_hi hk)]))), trivial⟩ (by decide))
       ·
        replace hc75 := of_decide_eq_false hc75
        refine C.exit ?_; refine QE.tX ?_; refine QE.tX ?_; refine QE.blk ?_; refine QE.seq (C.seq ?_)
        obtain rfl : k = (max inn out).toNat := by omega
        refine C.freeze 0 rfl [] (by decide) (by decide) ?_; refine C.region ?_; refine Lpu rfl rfl ?_
        refine L.make (m := (rdN inn out S)) rfl rfl rfl rfl rfl rfl rfl rfl rfl (by show 24 * _ ≤ _; omega) (by omega) rfl (fun A84 => ?_)
        refine Lpu rfl rfl ?_; refine L.nil (QE.seq (C.seq (C.seq (C.region ?_)))); refine Lpu rfl rfl ?_; refine Lpu rfl rfl ?_; refine Lpu rfl rfl ?_; refine L.nil (QE.seq (C.block ?_)); refine C.kidsN 3 (rdN inn out S) ?_; refine C.loop (fun q : Nat × List Hd => [(1, .int .i64 (S : Int)), (2, ptrOf A2 0), (6, .slice A22 (symL ops).length c22), (8, .int .i64 ((rdN inn out S) : Int)), (9, .slice A52 (rdN inn out S) (rdN inn out S)), (85, .slice A22 (symL ops).length c22), (86, .int .i64 ((symL ops).length : Int)), (13, .slice A84 (rdN inn out S) (rdN inn out S)), (87, .int .i64 (q.1 : Int))]) (fun q : Nat × List Hd => [Rd A52 (Bs (rdC inn out S (symL ops))), Rd A2 [.bool lf, .int .i64 inn, .int .i64 out, .slice OA ops.length oc], Rd OA (opsV ops), Rd A22 (symsV (symL ops))]) (fun q : Nat × List Hd => [Own 40 1 A84 (rdN inn out S) (rdN inn out S) (rowsV q.2 (J8 (rwL (rdC inn out S (symL ops)) S (rdN inn out S) (symL ops) q.1))), OwnKids 3 q.2 (J8 (rwL (rdC inn out S (symL ops)) S (rdN inn out S) (symL ops) q.1))]) (fun q : Nat × List Hd => q.1 ≤ (symL ops).length ∧ q.2.length = (rdN inn out S)) (fun q : Nat × List Hd => (symL ops).length - q.1) (0, List.replicate (rdN inn out S) (none, 0)) ⟨Nat.zero_le _, List.length_replicate⟩ (by exact Le.mk' (rs := [0, 1, 2, 3]) (hs := [0, 1]) ⟨rfl, rfl, rfl, rfl, rfl, rfl, rfl, rfl, rfl, trivial⟩ ⟨rfl, rfl, rfl, rfl, trivial⟩ ⟨(congrArg some (own_eq rfl (rows0 _))), (congrArg some (by dsimp only; rw [rwL]; simp [J8, I64])), trivial⟩ (by decide)) ?_
        rintro ⟨k, hs⟩ ⟨hk, hhs⟩
        dsimp only at hk hhs ⊢
        refine C.seq (C.region ?_); refine Lpu rfl rfl ?_; refine L.nil (QE.seq (C.seq ?_))
        refine C.condB 88 rfl (fun hc88 => ?_) (fun hc88 => ?_)
        ·
         replace hc88 := of_decide_eq_true hc88
         refine C.skip (QE.seq (C.seq (C.block (C.seq ?_))))
         have hlt := rdN_lt (inn := inn) (out := out) (S := S) (i := k) (by omega) (by omega)
         have hat := symL_atI k6 (k := k) (by omega)
         have hat2 : ((symL ops).getD k Sy.zero).at_ ≤ 65536 := by
           cases ho : ((symL ops).getD k Sy.zero).old with
           | true => have := hat.2.1 ho; omega
           | false => have := hat.2.2 ho; omega
         refine C.region ?_; refine Lpu rfl rfl ?_; refine L.step (Ev.idx (k := k) (m := k * 3) rfl rfl rfl rfl rfl rfl (by omega) (Src.r 3 rfl) (syms_pos (k := k) (by omega)) rfl) rfl ?_; refine L.step (Ev.loadA (vs := Sy.cells ((symL ops).getD k Sy.zero)) rfl rfl rfl (Src.r 3 rfl) (symsV_at (symL ops) k (by omega)) rfl (by decide)) rfl ?_
         refine L.alloc rfl rfl rfl (fun A15 => ?_)
         refine Lpu rfl rfl ?_; refine L.storeA (j := 2) rfl rfl rfl rfl rfl (Nat.zero_lt_succ _) rfl rfl ?_; refine L.nil (QE.seq (C.seq ?_)); refine C.regionQ (by kernel_rfl) ?_; refine LQ.step (Ev.pure rfl) rfl ?_; refine LQ.step (Ev.pure rfl) rfl ?_; refine LQ.step (Ev.cast (u := .int .i64 ((k / S : Nat) : Int)) (Ev.quo rfl rfl (by omega) (by omega) (by omega)) (congrArg (Value.int .i64) (Int.natCast_ediv k S).symm)) rfl ?_; refine LQ.step (Ev.fieldAddr rfl rfl rfl rfl rfl rfl (Src.o 2 rfl) (Nat.zero_lt_succ _) rfl) rfl ?_; refine LQ.step (Ev.load rfl rfl rfl (Src.o 2 rfl) rfl) rfl ?_; refine LQ.step (Ev.pure rfl) rfl ?_; refine LQ.step (Ev.cast (u := .int .i64 (((rdT ((symL ops).getD k Sy.zero) S) : Nat) : Int)) (Ev.quo rfl rfl (by omega) (by omega) (by omega)) (congrArg (Value.int .i64) (rdT_eq hat.1))) rfl ?_; refine LQ.step (Ev.pure rfl) rfl ?_; refine LQ.step (Ev.pure rfl) rfl ?_; refine LQ.nil ?_; refine QE.seq (C.seq (C.seq (C.region ?_))); refine L.step (Ev.fieldAddr rfl rfl rfl rfl rfl rfl (Src.o 2 rfl) (Nat.zero_lt_succ _) rfl) rfl ?_; refine L.step (Ev.load rfl rfl rfl (Src.o 2 rfl) rfl) rfl ?_; refine Lpu rfl rfl ?_; refine Lpu rfl rfl ?_
         refine L.bool 102 rfl (fun hg102 => ?_) (fun hg102 => ?_)
         ·
          have hsk : skipB (rdC inn out S (symL ops)) S k ((symL ops).getD k Sy.zero) = true := skip_1 (by simpa using hg102)
          refine L.no rfl rfl rfl ?_; refine L.no rfl rfl rfl ?_; refine L.no rfl rfl rfl ?_; refine Lpu rfl rfl ?_; refine Lpu rfl rfl ?_; refine L.no rfl rfl rfl ?_; refine L.no rfl rfl rfl ?_; refine L.no rfl rfl rfl ?_; refine L.no rfl rfl rfl ?_; refine L.no rfl rfl rfl ?_; refine Lpu rfl rfl ?_; refine Lpu rfl rfl ?_; refine L.no rfl rfl rfl ?_; refine L.no rfl rfl rfl ?_; refine L.no rfl rfl rfl ?_; refine L.no rfl rfl rfl ?_; refine L.no rfl rfl rfl ?_; refine Lpu rfl rfl ?_; refine L.nil (QE.seq ?_)
          refine C.cond rfl (fun _ => ?_) (fun h => by cases h)
          refine C.exit ?_; refine QE.tX ?_; refine QE.blk ?_; refine QE.seq (C.region ?_); refine L.step (Ev.add rfl rfl (by omega) (by omega)) rfl ?_; refine Lpu rfl rfl ?_; refine L.nil ?_
          have he : (rwL (rdC inn out S (symL ops)) S (rdN inn out S) (symL ops) (k + 1)) = (rwL (rdC inn out S (symL ops)) S (rdN inn out S) (symL ops) k) := rwL_skip hsk
          refine QE.round (i := (k, hs)) ((k + 1, hs)) (by exact ⟨by dsimp only; omega, hhs⟩) (by dsimp only; omega) (by exact Le.mk' (rs := [0, 1, 2, 3]) (hs := [0, 1]) ⟨rfl, rfl, rfl, rfl, rfl, rfl, rfl, rfl, rfl, trivial⟩ ⟨rfl, rfl, rfl, rfl, trivial⟩ ⟨(congrArg some (by dsimp only; rw [he])), (congrArg some (by dsimp only; rw [he])), trivial⟩ (by decide))
         ·
          have hold : ((symL ops).getD k Sy.zero).old = true := by simpa using hg102
          have htl := rdT_lt (inn := inn) (out := out) (S := S) (by omega) hat.1 (hat.2.1 hold)
          refine L.yes rfl ?_; refine Lpu rfl rfl ?_; refine L.yes rfl ?_; refine Lpu rfl rfl ?_; refine L.yes rfl ?_; refine Lpu rfl rfl ?_; refine Lpu rfl rfl ?_; refine Lpu rfl rfl ?_
          refine L.bool 107 rfl (fun hg107 => ?_) (fun hg107 => ?_)
          ·
           replace hg107 := i_eq hg107
           have hsk : skipB (rdC inn out S (symL ops)) S k ((symL ops).getD k Sy.zero) = true := skip_2 (by omega)
           refine L.no rfl rfl rfl ?_; refine L.no rfl rfl rfl ?_; refine L.no rfl rfl rfl ?_; refine L.no rfl rfl rfl ?_; refine L.no rfl rfl rfl ?_; refine Lpu rfl rfl ?_; refine Lpu rfl rfl ?_; refine L.no rfl rfl rfl ?_; refine L.no rfl rfl rfl ?_; refine L.no rfl rfl rfl ?_; refine L.no rfl rfl rfl ?_; refine L.no rfl rfl rfl ?_; refine Lpu rfl rfl ?_; refine L.nil (QE.seq ?_)
           refine C.cond rfl (fun _ => ?_) (fun h => by cases h)
           refine C.exit ?_; refine QE.tX ?_; refine QE.blk ?_; refine QE.seq (C.region ?_); refine L.step (Ev.add rfl rfl (by omega) (by omega)) rfl ?_; refine Lpu rfl rfl ?_; refine L.nil ?_
           have he : (rwL (rdC inn out S (symL ops)) S (rdN inn out S) (symL ops) (k + 1)) = (rwL (rdC inn out S (symL ops)) S (rdN inn out S) (symL ops) k) := rwL_skip hsk
           refine QE.round (i := (k, hs)) ((k + 1, hs)) (by exact ⟨by dsimp only; omega, hhs⟩) (by dsimp only; omega) (by exact Le.mk' (rs := [0, 1, 2, 3]) (hs := [0, 1]) ⟨rfl, rfl, rfl, rfl, rfl, rfl, rfl, rfl, rfl, trivial⟩ ⟨rfl, rfl, rfl, rfl, trivial⟩ ⟨(congrArg some (by dsimp only; rw [he])), (congrArg some (by dsimp only; rw [he])), trivial⟩ (by decide))
          ·
           replace hg107 := i_ne hg107
           refine L.yes rfl ?_; refine Lpu rfl rfl ?_; refine L.yes rfl ?_; refine Lpu rfl rfl ?_; refine L.yes rfl ?_; refine L.step (Ev.idx1 (k := (k / S)) rfl rfl rfl rfl rfl rfl rfl (by omega) (Src.r 0 rfl) (by rw [Bs_len, rdC, chL_len]; omega)) rfl ?_; refine L.yes rfl ?_; refine L.step (Ev.load rfl rfl rfl (Src.r 0 rfl) (Bs_get (by rw [rdC, chL_len]; omega))) rfl ?_; refine L.yes rfl ?_; refine Lpu rfl rfl ?_; refine Lpu rfl rfl ?_; refine Lpu rfl rfl ?_
           refine L.bool 114 rfl (fun hg114 => ?_) (fun hg114 => ?_)
           ·
            have hsk : skipB (rdC inn out S (symL ops)) S k ((symL ops).getD k Sy.zero) = true := skip_3 (by simpa using hg114)
            refine L.no rfl rfl rfl ?_; refine L.no rfl rfl rfl ?_; refine L.no rfl rfl rfl ?_; refine L.no rfl rfl rfl ?_; refine L.no rfl rfl rfl ?_; refine Lpu rfl rfl ?_; refine L.nil (QE.seq ?_)
            refine C.cond rfl (fun _ => ?_) (fun h => by cases h)
            refine C.exit ?_; refine QE.tX ?_; refine QE.blk ?_; refine QE.seq (C.region ?_); refine L.step (Ev.add rfl rfl (by omega) (by omega)) rfl ?_; refine Lpu rfl rfl ?_; refine L.nil ?_
            have he : (rwL (rdC inn out S (symL ops)) S (rdN inn out S) (symL ops) (k + 1)) = (rwL (rdC inn out S (symL ops)) S (rdN inn out S) (symL ops) k) := rwL_skip hsk
            refine QE.round (i := (k, hs)) ((k + 1, hs)) (by exact ⟨by dsimp only; omega, hhs⟩) (by dsimp only; omega) (by exact Le.mk' (rs := [0, 1, 2, 3]) (hs := [0, 1]) ⟨rfl, rfl, rfl, rfl, rfl, rfl, rfl, rfl, rfl, trivial⟩ ⟨rfl, rfl, rfl, rfl, trivial⟩ ⟨(congrArg some (by dsimp only; rw [he])), (congrArg some (by dsimp only; rw [he])), trivial⟩ (by decide))
           ·
            refine L.yes rfl ?_; refine Lpu rfl rfl ?_; refine L.yes rfl ?_; refine Lpu rfl rfl ?_; refine L.yes rfl ?_; refine L.step (Ev.idx1 (k := (rdT ((symL ops).getD k Sy.zero) S)) rfl rfl rfl rfl rfl rfl rfl (by omega) (Src.r 0 rfl) (by rw [Bs_len, rdC, chL_len]; omega)) rfl ?_; refine L.yes rfl ?_; refine L.step (Ev.load rfl rfl rfl (Src.r 0 rfl) (Bs_get (by rw [rdC, chL_len]; omega))) rfl ?_; refine L.yes rfl ?_; refine Lpu rfl rfl ?_; refine Lpu rfl rfl ?_; refine L.nil (QE.seq ?_)
            refine C.condB 120 rfl (fun hc120 => ?_) (fun hc120 => ?_)
            ·
             have hsk : skipB (rdC inn out S (symL ops)) S k ((symL ops).getD k Sy.zero) = true := skip_4 (by simpa using hc120)
             refine C.exit ?_; refine QE.tX ?_; refine QE.blk ?_; refine QE.seq (C.region ?_); refine L.step (Ev.add rfl rfl (by omega) (by omega)) rfl ?_; refine Lpu rfl rfl ?_; refine L.nil ?_
             have he : (rwL (rdC inn out S (symL ops)) S (rdN inn out S) (symL ops) (k + 1)) = (rwL (rdC inn out S (symL ops)) S (rdN inn out S) (symL ops) k) := rwL_skip hsk
             refine QE.round (i := (k, hs)) ((k + 1, hs)) (by exact ⟨by dsimp only; omega, hhs⟩) (by dsimp only; omega) (by exact Le.mk' (rs := [0, 1, 2, 3]) (hs := [0, 1]) ⟨rfl, rfl, rfl, rfl, rfl, rfl, rfl, rfl, rfl, trivial⟩ ⟨rfl, rfl, rfl, rfl, trivial⟩ ⟨(congrArg some (by dsimp only; rw [he])), (congrArg some (by dsimp only; rw [he])), trivial⟩ (by decide))
            ·
             have hnk : skipB (rdC inn out S (symL ops)) S k ((symL ops).getD k Sy.zero) = false := skip_no hold (by omega) (by simpa using hg114) (by simpa using hc120)
             refine C.skip (QE.seq (C.seq ?_))
             have hrk := rwL_row (ch := (rdC inn out S (symL ops))) (size := S) (n := (rdN inn out S)) (l := (symL ops)) k (k / S)
             refine C.region ?_; refine Lpu rfl rfl ?_; refine Lpu rfl rfl ?_; refine L.step (Ev.idx1 (k := (k / S)) rfl rfl rfl rfl rfl rfl rfl (by omega) (Src.o 0 rfl) (by rw [rowsV_len (by rw [J8_len, rwL_len]; exact hhs), J8_len, rwL_len]; omega)) rfl ?_; refine L.step (Ev.load rfl rfl rfl (Src.o 0 rfl) (rowsJ_get (by rw [rwL_len]; exact hhs) (by rw [rwL_len]; omega))) rfl ?_; refine Lpu rfl rfl ?_; refine L.call (js := []) (js' := [0, 1, 2]) (bsearch_c (hs.getD (k / S) (none, 0)).1 ((rwL (rdC inn out S (symL ops)) S (rdN inn out S) (symL ops) k).getD (k / S) []) (hs.getD (k / S) (none, 0)).2 ((rdT ((symL ops).getD k Sy.zero) S) : Int) (by omega) (rwL_srt hrw k (by omega) _)) rfl rfl rfl (by decide) ⟨((Has.okid 1 rfl (by rw [J8_len, rwL_len]; exact hhs) (k / S) (by rw [J8_len, rwL_len]; omega)).cast (J8_get _)), trivial⟩ rfl ?_
             rintro _ _ _ ⟨kk, rfl, rfl, rfl, hk1, hk2, hk3⟩
             refine Lpu rfl rfl ?_; refine Lpu rfl rfl ?_; refine Lpu rfl rfl ?_; refine Lpu rfl rfl ?_; refine Lpu rfl rfl ?_; refine L.nil (QE.seq (C.seq (C.region ?_))); refine Lpu rfl rfl ?_; refine Lpu rfl rfl ?_; refine L.nil (QE.seq ?_)
             refine C.condB 131 rfl (fun hc131 => ?_) (fun hc131 => ?_)
             ·
              have hnf : ((rwL (rdC inn out S (symL ops)) S (rdN inn out S) (symL ops) k).getD (k / S) []).contains ((rdT ((symL ops).getD k Sy.zero) S) : Int) = false := by simpa using hc131
              obtain rfl : kk = ((rwL (rdC inn out S (symL ops)) S (rdN inn out S) (symL ops) k).getD (k / S) []).length := by
                rcases Nat.lt_or_ge kk ((rwL (rdC inn out S (symL ops)) S (rdN inn out S) (symL ops) k).getD (k / S) []).length with h | h
                · have a1 := hrw k (by omega) hnk hnf kk h
                  have a2 := hk3 kk (Nat.le_refl _) h
                  omega
                · omega
              refine C.takeKidJ 1 (k / S) rfl (by rw [rwL_len]; omega) [0, 2] (by decide) ?_; refine C.region ?_; refine Lpu rfl rfl ?_; refine Lpu rfl rfl ?_; refine Lpu rfl rfl ?_; refine Lpu rfl rfl ?_; refine L.step (Ev.idx1 (k := (k / S)) rfl rfl rfl rfl rfl rfl rfl (by omega) (Src.o 2 rfl) (by rw [rowsV_len (by rw [J8_len, rwL_len]; exact hhs), J8_len, rwL_len]; omega)) rfl ?_; refine L.step (Ev.load rfl rfl rfl (Src.o 2 rfl) (rowsJ_get (by rw [rwL_len]; exact hhs) (by rw [rwL_len]; omega))) rfl ?_; refine Lpu rfl rfl ?_; refine Lpu rfl rfl ?_
              refine L.lit rfl rfl rfl rfl rfl (by rfl) (by rfl) (by rfl) rfl rfl (fun A140 => ?_)
              refine L.call (js := [0]) (js' := [1, 2, 3, 4]) (insertE_c (hs.getD (k / S) (none, 0)).1 ((rwL (rdC inn out S (symL ops)) S (rdN inn out S) (symL ops) k).getD (k / S) []) (hs.getD (k / S) (none, 0)).2 ((rdT ((symL ops).getD k Sy.zero) S) : Int) A140 1 (by omega)) rfl rfl rfl (by decide) ⟨Has.o 3 rfl, trivial⟩ rfl ?_
              rintro _ _ _ ⟨A141, c141, rfl, rfl, rfl⟩
              refine L.step (Ev.idx1 (k := (k / S)) rfl rfl rfl rfl rfl rfl rfl (by omega) (Src.o 2 rfl) (by rw [rowsV_len (by rw [J8_len, rwL_len]; exact hhs), J8_len, rwL_len]; omega)) rfl ?_; refine L.store (j := 2) rfl rfl rfl rfl rfl rfl rfl (by exact rowsJ_get (by rw [rwL_len]; exact hhs) (by rw [rwL_len]; omega)) ?_; refine L.putKid 1 0 (k / S) rfl rfl (by rw [J8_len, List.length_set, rwL_len]; omega) [2, 3, 4] (by decide) ?_; refine L.nil ?_; refine QE.blkN ?_; refine QE.seq (C.region ?_); refine L.step (Ev.add rfl rfl (by omega) (by omega)) rfl ?_; refine Lpu rfl rfl ?_; refine L.nil ?_
              have he : (rwL (rdC inn out S (symL ops)) S (rdN inn out S) (symL ops) (k + 1)) = (rwL (rdC inn out S (symL ops)) S (rdN inn out S) (symL ops) k).set (k / S) (((rwL (rdC inn out S (symL ops)) S (rdN inn out S) (symL ops) k).getD (k / S) []) ++ [((rdT ((symL ops).getD k Sy.zero) S) : Int)]) := rwL_new hnk hnf
              refine QE.round (i := (k, hs)) ((k + 1, hs.set (k / S) (A141, c141))) (by exact ⟨by dsimp only; omega, by dsimp only; rw [List.length_set]; exact hhs⟩) (by dsimp only; omega) (by exact Le.mk' (rs := [0, 1, 2, 3]) (hs := [1, 0]) ⟨rfl, rfl, rfl, rfl, rfl, rfl, rfl, rfl, rfl, trivial⟩ ⟨rfl, rfl, rfl, rfl, trivial⟩ ⟨(congrArg some (own_eq rfl (by dsimp only; rw [he, ← rowsJ_put, List.length_append]; rfl))), (congrArg some (by dsimp only; rw [he]; exact kidsJ_put)), trivial⟩ (by decide))
             ·
              have hyf : ((rwL (rdC inn out S (symL ops)) S (rdN inn out S) (symL ops) k).getD (k / S) []).contains ((rdT ((symL ops).getD k Sy.zero) S) : Int) = true := by simpa using hc131
              refine C.skip ?_; refine QE.blkN ?_; refine QE.seq (C.region ?_); refine L.step (Ev.add rfl rfl (by omega) (by omega)) rfl ?_; refine Lpu rfl rfl ?_; refine L.nil ?_
              have he : (rwL (rdC inn out S (symL ops)) S (rdN inn out S) (symL ops) (k + 1)) = (rwL (rdC inn out S (symL ops)) S (rdN inn out S) (symL ops) k) := rwL_old hyf
              refine QE.round (i := (k, hs)) ((k + 1, hs)) (by exact ⟨by dsimp only; omega, hhs⟩) (by dsimp only; omega) (by exact Le.mk' (rs := [0, 1, 2, 3]) (hs := [0, 1]) ⟨rfl, rfl, rfl, rfl, rfl, rfl, rfl, rfl, rfl, trivial⟩ ⟨rfl, rfl, rfl, rfl, trivial⟩ ⟨(congrArg some (by dsimp only; rw [he])), (congrArg some (by dsimp only; rw [he])), trivial⟩ (by decide))
        ·
         replace hc88 := of_decide_eq_false hc88
         refine C.exit ?_; refine QE.tX ?_; refine QE.tX ?_; refine QE.blk ?_; refine QE.seq (C.seq (C.region ?_)); refine Lpu rfl rfl ?_; refine Lpu rfl rfl ?_; refine Lpu rfl rfl ?_; refine L.nil (QE.seq (C.ret ?_)); refine QE.freezeKids 1 rfl [0] (by decide) (by decide) ?_; refine QE.freeze 0 rfl [] (by decide) (by decide) ?_; refine QE.ret (js := [0, 1]) (hs := []) (vs := [_, _]) rfl ⟨rfl, rfl, trivial⟩ (by decide) ?_
         obtain rfl : k = (symL ops).length := by omega
         have hE : rdE lf inn out (S : Int) ops = 0 := rdE_0 hc25 (by simpa using hc29) (by omega) (by omega) (by rw [Int.toNat_natCast]; omega)
         have hR : rdR lf inn out (S : Int) ops = rwL (rdC inn out S (symL ops)) S (rdN inn out S) (symL ops) (symL ops).length := by rw [rdR_ok hE, Int.toNat_natCast]
         have hl := rwL_len (rdC inn out S (symL ops)) S (rdN inn out S) (symL ops) (symL ops).length
         rw [hR, hE, hl]
         exact ⟨A84, _, hs, rfl, rfl, rfl, hhs⟩

end Go.Proofs.Ytdkilfnbilohmaa
