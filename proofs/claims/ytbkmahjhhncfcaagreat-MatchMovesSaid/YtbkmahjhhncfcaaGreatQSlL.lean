/-
  The small separation logic: structs of numbers that are compared, equal or not.
-/
import Derived.Test.YtbkmahjhhncfcaaGreatQOg
import Derived.Test.YtbkmahjhhncfcaaGreatQSlR
import Derived.Test.YtbkmahjhhncfcaaGreatQWLaD
section
namespace Go.Sl

section
variable {X : Cx} {β : Base} {Γ : Env} {R H : List Pr}
theorem Ev.neSt {t ty : Nat} {x y : Operand} {xs ys : List Int} {i : Ti} {fs : List Field} (ht : tlook t X.tab = some i) (hd : i.desc = .struct (List.toArray fs)) (hp : X.P.stoodInHeld t = false) (hm : X.P.eqGuardType X.P.depth t = false) (hf : intFs X.tab 0 fs = true)
   (hx : ev Γ x = some (.agg (List.toArray (I64 xs)))) (hy : ev Γ y = some (.agg (List.toArray (I64 ys)))) (h1 : xs.length = fs.length) (h2 : ys.length = fs.length) : Ev X β Γ R H (.binOp .neq t x y ty) (.bool (xs != ys)) := by
 intro ρ w hρ hw o ho
 have hu := (X.ok _ _ ht).und
 rw [hd] at hu
 have hF : X.P.fieldsOf t = List.toArray fs := by unfold Program.fieldsOf; rw [hu]
 have hq : (Op.equalIn 10000 t (.agg (List.toArray (I64 xs))) (.agg (List.toArray (I64 ys)))).run X.P w = .ok (xs == ys) w := by
   rw [run_equalIn_struct w 9999 t _ _ (by rw [hF]; exact hu) hp, hF]
   simpa using run_eqInts (X := X) (w := w) (xs := xs) (ys := ys) 9998 fs 0 hf (by omega) (by omega)
 have hg := run_eqGuard_agg (P := X.P) w .neq t x y (List.toArray (I64 xs)) (List.toArray (I64 ys)) hm
 have hb := run_neq_struct (P := X.P) w t (List.toArray (I64 xs)) (List.toArray (I64 ys))
 rw [hq] at hb
 simp [execOp, ho, hρ _ _ hx, hρ _ _ hy, hg, hb, bne]
end

/-! ### Choices of a drawn region, told shortly -/
section
variable {X : Cx} {β : Base} {n : Nat} {ds : List Deferred} {Q : Exit → Act → World → Prop} {Γ : Env} {R H Rc : List Pr} {ops o : Array Oper} {fuel : Nat} {l0 listed : Array Bool}
theorem LM.a2 (i j : Nat) {a b : Oper} (hr : Region.ready .any ops listed = [i, j]) (hc : Hass R H Rc) (h1 : ops[i]? = some a) (h2 : ops[j]? = some b)
   (k1 : L X β n ds ops (QM X β ops l0 Rc Q fuel (listed.setIfInBounds i true)) [a] Γ R H) (k2 : L X β n ds ops (QM X β ops l0 Rc Q fuel (listed.setIfInBounds j true)) [b] Γ R H) : LM X β n ds ops l0 Rc Q (fuel + 1) listed Γ R H :=
 LM.alt [i, j] hr (by simp) hc ⟨⟨a, h1, k1⟩, ⟨b, h2, k2⟩, trivial⟩
theorem LM.a3 (i j k : Nat) {a b c : Oper} (hr : Region.ready .any ops listed = [i, j, k]) (hc : Hass R H Rc) (h1 : ops[i]? = some a) (h2 : ops[j]? = some b) (h3 : ops[k]? = some c)
   (k1 : L X β n ds ops (QM X β ops l0 Rc Q fuel (listed.setIfInBounds i true)) [a] Γ R H) (k2 : L X β n ds ops (QM X β ops l0 Rc Q fuel (listed.setIfInBounds j true)) [b] Γ R H) (k3 : L X β n ds ops (QM X β ops l0 Rc Q fuel (listed.setIfInBounds k true)) [c] Γ R H) : LM X β n ds ops l0 Rc Q (fuel + 1) listed Γ R H :=
 LM.alt [i, j, k] hr (by simp) hc ⟨⟨a, h1, k1⟩, ⟨b, h2, k2⟩, ⟨c, h3, k3⟩, trivial⟩
theorem LM.a4 (i j k l : Nat) {a b c d : Oper} (hr : Region.ready .any ops listed = [i, j, k, l]) (hc : Hass R H Rc) (h1 : ops[i]? = some a) (h2 : ops[j]? = some b) (h3 : ops[k]? = some c) (h4 : ops[l]? = some d)
   (k1 : L X β n ds ops (QM X β ops l0 Rc Q fuel (listed.setIfInBounds i true)) [a] Γ R H) (k2 : L X β n ds ops (QM X β ops l0 Rc Q fuel (listed.setIfInBounds j true)) [b] Γ R H) (k3 : L X β n ds ops (QM X β ops l0 Rc Q fuel (listed.setIfInBounds k true)) [c] Γ R H) (k4 : L X β n ds ops (QM X β ops l0 Rc Q fuel (listed.setIfInBounds l true)) [d] Γ R H) : LM X β n ds ops l0 Rc Q (fuel + 1) listed Γ R H :=
 LM.alt [i, j, k, l] hr (by simp) hc ⟨⟨a, h1, k1⟩, ⟨b, h2, k2⟩, ⟨c, h3, k3⟩, ⟨d, h4, k4⟩, trivial⟩
theorem L.nm (hz : (listed.size == ops.size && inB l0 listed) = true) (h : LM X β n ds ops l0 Rc Q fuel listed Γ R H) : L X β n ds o (QM X β ops l0 Rc Q fuel listed) [] Γ R H := L.nil (QE.m hz h)
end
end Go.Sl
end
/-
  How the program encodes an instruction that has a target.
-/
section
namespace Go.Proofs.YtbkmahjhhncfcaaGreat
open Go.Sl

set_option maxHeartbeats 1000000 in
theorem encode_c (o a : Nat) (n t : Int) (h5 : 5 ≤ o) (h8 : o ≤ 8) (ha : a < 256) (ht : -1099511627776 ≤ t ∧ t ≤ 1099511627776) :
   Ctr X 94 [.agg (List.toArray [.int .i64 (o : Int), .int .i64 (a : Int), .int .i64 0, .int .i64 0, .int .i64 n]), .int .i64 t] [] [] (fun v R' H' => v = .tuple #[.int .u32 ((encR (insT o a n) t).1 : Int), .int .i64 (encR (insT o a n) t).2] ∧ R' = [] ∧ H' = []) := by
 obtain ⟨g, hg⟩ : ∃ g, guN o n t = g := ⟨_, rfl⟩
 obtain ⟨W, hW⟩ : ∃ W, guW o a n t = W := ⟨_, rfl⟩
 have hgl : g < 16777216 := hg ▸ guN_lt24 h5 h8 n t
 have hgw : W < 4294967296 := hW ▸ guW_lt h5 h8 ha n t
 refine Ctr.of (X := X) (fn := Tryz.f94) Tryz.func94 rfl (by kernel_rfl) rfl ?_
 intro β
 refine C.seq (C.region ?_)
 refine L.boxA rfl rfl (fun A2 => ?_)
 refine Lpu rfl rfl ?_; refine Lpu rfl rfl ?_; refine L.nil (QE.seq (C.seq (C.seq ?_))); refine C.freeze 0 rfl [] (by decide) (by decide) ?_; refine C.region ?_; refine L.step (Ev.fieldAddr rfl rfl rfl rfl rfl rfl (Src.r 0 rfl) (Nat.zero_lt_succ _) rfl) rfl ?_; refine L.step (Ev.load rfl rfl rfl (Src.r 0 rfl) rfl) rfl ?_; refine Lpu rfl rfl ?_; refine Lpu rfl rfl ?_
 refine L.bool 14 rfl (fun hg14 => ?_) (fun hg14 => ?_)
 · skip
   replace hg14 := of_decide_eq_true hg14
   omega
 · skip
   replace hg14 := of_decide_eq_false hg14
   refine L.yes rfl ?_; refine L.step (Ev.fieldAddr rfl rfl rfl rfl rfl rfl (Src.r 0 rfl) (Nat.zero_lt_succ _) rfl) rfl ?_; refine L.yes rfl ?_; refine L.step (Ev.load rfl rfl rfl (Src.r 0 rfl) rfl) rfl ?_; refine L.yes rfl ?_; refine Lpu rfl rfl ?_; refine Lpu rfl rfl ?_; refine L.nil (QE.seq ?_)
   refine C.condB 18 rfl (fun hc18 => ?_) (fun hc18 => ?_)
   · skip
     replace hc18 := of_decide_eq_true hc18
     omega
   · skip
     replace hc18 := of_decide_eq_false hc18
     refine C.skip (QE.seq (C.seq ?_)); refine C.join (fun q : Option Addr × List ByteArray => [(0, .agg (List.toArray [.int .i64 (o : Int), .int .i64 (a : Int), .int .i64 0, .int .i64 0, .int .i64 n])), (1, .int .i64 t), (2, ptrOf A2 0), (6, ptrOf q.1 0)]) (fun q : Option Addr × List ByteArray => [Rd A2 [.int .i64 (o : Int), .int .i64 (a : Int), .int .i64 0, .int .i64 0, .int .i64 n]]) (fun q : Option Addr × List ByteArray => [Own 178 5 q.1 1 1 (kindV q.2 o)]) (fun q : Option Addr × List ByteArray => True) ?_ ?_
     · skip
       refine C.regionM [Rd A2 [.int .i64 (o : Int), .int .i64 (a : Int), .int .i64 0, .int .i64 0, .int .i64 n]] ⟨Has.r 0 rfl, trivial⟩ ?_; refine LM.q 1 rfl (by kernel_rfl) (Ev.fieldAddr rfl rfl rfl rfl rfl rfl (Src.r 0 rfl) (Nat.zero_lt_succ _) rfl) rfl ⟨Has.r 0 rfl, trivial⟩ ?_; refine LM.q 2 rfl (by kernel_rfl) (Ev.load rfl rfl rfl (Src.r 0 rfl) rfl) rfl ⟨Has.r 0 rfl, trivial⟩ ?_
       refine LM.alt [0, 4] (by kernel_rfl) (by decide) ⟨Has.r 0 rfl, trivial⟩ ⟨⟨_, rfl, ?_⟩, ⟨_, rfl, ?_⟩, trivial⟩
       · skip
         refine L.callR (js := []) (js' := []) (kinds_c) rfl rfl rfl (by decide) trivial rfl ?_
         rintro _ _ _ ⟨s, rfl, rfl, rfl⟩
         refine L.nil (QE.m (by kernel_rfl) ?_)
         refine LM.q 3 rfl (by kernel_rfl) (Ev.indexA (k := o) (vs := (kindV s o)) rfl rfl rfl rfl rfl rfl rfl (by omega) (kindsV_get s (by omega))) rfl ⟨Has.r 0 rfl, trivial⟩ ?_; refine LM.f 4 rfl (by kernel_rfl) ⟨Has.r 0 rfl, trivial⟩ ?_
         refine L.alloc rfl rfl rfl (fun A6 => ?_)
         refine L.nil (QE.m (by kernel_rfl) ?_)
         refine LM.cut [] (by kernel_rfl) ⟨Has.r 0 rfl, trivial⟩ ?_; refine LM.f 5 rfl (by kernel_rfl) trivial ?_; refine L.storeA (j := 0) rfl rfl rfl rfl rfl (Nat.zero_lt_succ _) rfl rfl ?_
         refine L.nil (QE.m (by kernel_rfl) ?_)
         refine LM.nil (by kernel_rfl) trivial ?_
         refine QE.joined ((A6, s)) (by exact trivial) (by exact Le.mk' (rs := [0]) (hs := [0]) ⟨rfl, rfl, rfl, rfl, trivial⟩ ⟨rfl, trivial⟩ ⟨rfl, trivial⟩ (by decide))
       · skip
         refine L.alloc rfl rfl rfl (fun A6 => ?_)
         refine L.nil (QE.m (by kernel_rfl) ?_)
         refine LM.f 0 rfl (by kernel_rfl) ⟨Has.r 0 rfl, trivial⟩ ?_; refine L.callR (js := []) (js' := [0]) (kinds_c) rfl rfl rfl (by decide) trivial rfl ?_
         rintro _ _ _ ⟨s, rfl, rfl, rfl⟩
         refine L.norm (H' := [_]) [0] ⟨rfl, trivial⟩ (by decide) ?_
         refine L.nil (QE.m (by kernel_rfl) ?_)
         refine LM.f 3 rfl (by kernel_rfl) ⟨Has.r 0 rfl, trivial⟩ ?_; refine L.step (Ev.indexA (k := o) (vs := (kindV s o)) rfl rfl rfl rfl rfl rfl rfl (by omega) (kindsV_get s (by omega))) rfl ?_
         refine L.nil (QE.m (by kernel_rfl) ?_)
         refine LM.cut [] (by kernel_rfl) ⟨Has.r 0 rfl, trivial⟩ ?_; refine LM.f 5 rfl (by kernel_rfl) trivial ?_; refine L.storeA (j := 0) rfl rfl rfl rfl rfl (Nat.zero_lt_succ _) rfl rfl ?_
         refine L.nil (QE.m (by kernel_rfl) ?_)
         refine LM.nil (by kernel_rfl) trivial ?_
         refine QE.joined ((A6, s)) (by exact trivial) (by exact Le.mk' (rs := [0]) (hs := [0]) ⟨rfl, rfl, rfl, rfl, trivial⟩ ⟨rfl, trivial⟩ ⟨rfl, trivial⟩ (by decide))
     · skip
       rintro ⟨A6, s⟩ _
       dsimp only
       refine QE.seq (C.seq ?_); refine C.freeze 0 rfl [] (by decide) (by decide) ?_; refine C.region ?_; refine L.step (Ev.fieldAddr rfl rfl rfl rfl rfl rfl (Src.r 1 rfl) (Nat.zero_lt_succ _) rfl) rfl ?_; refine L.step (Ev.load rfl rfl rfl (Src.r 1 rfl) rfl) rfl ?_; refine Lpu rfl rfl ?_; refine L.nil (QE.seq (C.seq (C.seq (C.region ?_)))); refine L.step (Ev.fieldAddr rfl rfl rfl rfl rfl rfl (Src.r 0 rfl) (Nat.zero_lt_succ _) rfl) rfl ?_; refine L.step (Ev.load rfl rfl rfl (Src.r 0 rfl) rfl) rfl ?_; refine L.nil (QE.seq ?_)
       refine C.condB 26 rfl (fun hc26 => ?_) (fun hc26 => ?_)
       · skip
         refine C.region ?_; refine Lpu rfl rfl ?_; refine Lpu rfl rfl ?_; refine L.step (Ev.subW rfl rfl) rfl ?_; refine L.step (Ev.shrA (k := 2) (q := IntKind.i64.wrap (n - t) / 4) rfl rfl rfl (by decide) rfl) rfl ?_; refine Lpu rfl rfl ?_; refine L.nil (QE.seq (C.seq ?_))
         obtain ⟨u32, hu32⟩ : ∃ q : Nat, IntKind.i64.wrap (n - t) / 4 % 4294967296 = (q : Int) := ⟨(IntKind.i64.wrap (n - t) / 4 % 4294967296).toNat, by omega⟩
         refine C.region ?_; refine Lpu rfl rfl ?_; refine L.step (Ev.toU32 (q := u32) rfl rfl rfl rfl hu32) rfl ?_; refine Lpu rfl rfl ?_; refine L.nil (QE.seq (C.seq (C.seq (C.region ?_)))); refine L.step (Ev.fieldAddr rfl rfl rfl rfl rfl rfl (Src.r 1 rfl) (Nat.zero_lt_succ _) rfl) rfl ?_; refine L.step (Ev.load rfl rfl rfl (Src.r 1 rfl) rfl) rfl ?_; refine Lpu rfl rfl ?_; refine L.nil (QE.seq ?_)
         refine C.condB 35 rfl (fun hc35 => ?_) (fun hc35 => ?_)
         · skip
           replace hc35 := b_ne hc35
           refine C.regionQ (by kernel_rfl) ?_; refine LQ.step (Ev.fieldAddr rfl rfl rfl rfl rfl rfl (Src.r 1 rfl) (Nat.zero_lt_succ _) rfl) rfl ?_; refine LQ.step (Ev.load rfl rfl rfl (Src.r 1 rfl) rfl) rfl ?_; refine LQ.step (Ev.toU32 (q := o) rfl rfl rfl rfl (by omega)) rfl ?_; refine LQ.step (Ev.shl32 (k := 24) (q := o * 16777216) rfl rfl rfl (by decide) rfl (by omega)) rfl ?_; refine LQ.step (Ev.pure rfl) rfl ?_; refine LQ.step (Ev.fieldAddr rfl rfl rfl rfl rfl rfl (Src.r 0 rfl) (Nat.zero_lt_succ _) rfl) rfl ?_; refine LQ.step (Ev.load rfl rfl rfl (Src.r 0 rfl) rfl) rfl ?_; refine LQ.step (Ev.cast (u := .int .i64 ((2 ^ bitsF o : Nat) : Int)) (Ev.shlI (m := 1) (k := bitsF o) rfl rfl (by have := bits_le o; omega) (by have := pow_bits o; have hpp : 0 < 2 ^ bitsF o := Nat.pow_pos (by decide); omega)) (congrArg (Value.int .i64) (by rw [Nat.one_mul]))) rfl ?_; refine LQ.step (Ev.cast (u := .int .i64 ((2 ^ bitsF o - 1 : Nat) : Int)) (Ev.sub rfl rfl (by have := pow_bits o; have hpp : 0 < 2 ^ bitsF o := Nat.pow_pos (by decide); omega) (by have := pow_bits o; have hpp : 0 < 2 ^ bitsF o := Nat.pow_pos (by decide); omega)) (congrArg (Value.int .i64) (by have : 0 < 2 ^ bitsF o := Nat.pow_pos (by decide); omega))) rfl ?_; refine LQ.step (Ev.maskI (q := (g : Int)) (bitsF o) rfl rfl rfl (by have := bits_le o; omega) (by rw [← hg]; exact guN_eq o n t)) rfl ?_; refine LQ.step (Ev.toU32 (q := g) rfl rfl rfl rfl (by omega)) rfl ?_; refine LQ.step (Ev.beside32 24 (p := 16777216) rfl (c := o) (q := o * 16777216 + g) rfl rfl rfl (by omega) (by omega) (by omega) rfl) rfl ?_; refine LQ.step (Ev.pure rfl) rfl ?_; refine LQ.nil ?_; refine QE.seq (C.seq (C.seq (C.region ?_))); refine L.step (Ev.fieldAddr rfl rfl rfl rfl rfl rfl (Src.r 1 rfl) (Nat.zero_lt_succ _) rfl) rfl ?_; refine L.step (Ev.load rfl rfl rfl (Src.r 1 rfl) rfl) rfl ?_; refine L.step (Ev.fieldAddr rfl rfl rfl rfl rfl rfl (Src.r 1 rfl) (Nat.zero_lt_succ _) rfl) rfl ?_; refine L.step (Ev.load rfl rfl rfl (Src.r 1 rfl) rfl) rfl ?_; refine L.step (Ev.fieldAddr rfl rfl rfl rfl rfl rfl (Src.r 1 rfl) (Nat.zero_lt_succ _) rfl) rfl ?_; refine L.step (Ev.load rfl rfl rfl (Src.r 1 rfl) rfl) rfl ?_; refine L.step (Ev.buildArr rfl rfl rfl rfl rfl rfl rfl) rfl ?_; refine Lpu rfl rfl ?_; refine L.nil (QE.seq (C.block ?_)); refine C.loop (fun i : Nat => [(0, .agg (List.toArray [.int .i64 (o : Int), .int .i64 (a : Int), .int .i64 0, .int .i64 0, .int .i64 n])), (1, .int .i64 t), (2, ptrOf A2 0), (6, ptrOf A6 0), (54, .agg #[.int .i64 (a : Int), .int .i64 0, .int .i64 0]), (55, .int .i64 (i : Int)), (8, .int .u32 (((if 0 < i then W else o * 16777216 + g) : Nat) : Int))]) (fun i : Nat => [Rd A2 [.int .i64 (o : Int), .int .i64 (a : Int), .int .i64 0, .int .i64 0, .int .i64 n], Rd A6 (kindV s o)]) (fun i : Nat => []) (fun i : Nat => i ≤ 3) (fun i : Nat => 3 - i) 0 (Nat.zero_le _) (by exact Le.mk' (rs := [1, 0]) (hs := []) ⟨rfl, rfl, rfl, rfl, rfl, rfl, (by rw [if_neg (Nat.lt_irrefl 0)]; rfl), trivial⟩ ⟨rfl, rfl, trivial⟩ trivial (by decide)) ?_
           intro i hi
           refine C.seq (C.region ?_); refine Lpu rfl rfl ?_; refine L.nil (QE.seq (C.seq ?_))
           refine C.condB 56 rfl (fun hc56 => ?_) (fun hc56 => ?_)
           · skip
             replace hc56 := of_decide_eq_true hc56
             refine C.skip (QE.seq (C.seq (C.block (C.seq (C.region ?_))))); refine Lpu rfl rfl ?_; refine L.step (Ev.index (k := i) rfl rfl rfl rfl rfl rfl rfl rfl (by omega) (insT_regs a (by omega))) rfl ?_; refine Lpu rfl rfl ?_; refine Lpu rfl rfl ?_; refine L.nil (QE.seq (C.seq (C.region ?_))); refine Lpu rfl rfl ?_; refine L.step (Ev.fieldAddr rfl rfl rfl rfl rfl rfl (Src.r 1 rfl) (Nat.zero_lt_succ _) rfl) rfl ?_; refine L.step (Ev.load rfl rfl rfl (Src.r 1 rfl) rfl) rfl ?_; refine Lpu rfl rfl ?_; refine L.nil (QE.seq ?_)
             refine C.condB 62 rfl (fun hc62 => ?_) (fun hc62 => ?_)
             · skip
               replace hc62 := of_decide_eq_true hc62
               have hr1 : regsF o = 1 ∧ i = 0 := by
                 rcases bits_cases h5 h8 with ⟨_, e, _⟩ | ⟨_, e, _⟩ <;> rw [e] at hc62 ⊢ <;> omega
               obtain ⟨hr1, rfl⟩ := hr1
               refine C.region ?_; refine Lpu rfl rfl ?_; refine Lpu rfl rfl ?_; refine L.step (Ev.maskI (q := (a : Int)) 8 rfl rfl rfl (by decide) (by rw [if_pos rfl, show ((2 ^ 8 : Nat) : Int) = 256 from rfl]; omega)) rfl ?_; refine L.step (Ev.toU32 (q := a) rfl rfl rfl rfl (by omega)) rfl ?_; refine Lpu rfl rfl ?_; refine L.step (Ev.mul rfl rfl (by omega) (by omega)) rfl ?_; refine L.step (Ev.sub rfl rfl (by omega) (by omega)) rfl ?_; refine L.step (Ev.shl32 (k := 16) (q := a * 65536) rfl rfl rfl (by decide) rfl (by omega)) rfl ?_; refine L.step (Ev.or32 (q := W) rfl rfl (by rw [if_neg (by decide)]; omega) (by omega) (by rw [if_neg (by decide), ← hg, ← hW]; unfold guW; rw [if_pos hr1])) rfl ?_; refine Lpu rfl rfl ?_; refine L.nil ?_; refine QE.blkN ?_; refine QE.seq (C.region ?_); refine L.step (Ev.add rfl rfl (by omega) (by omega)) rfl ?_; refine Lpu rfl rfl ?_; refine L.nil ?_
               refine QE.round (0 + 1) (by omega) (by omega) (by exact Le.mk' (rs := [0, 1]) (hs := []) ⟨rfl, rfl, rfl, rfl, rfl, rfl, (by rw [if_pos (by decide)]; rfl), trivial⟩ ⟨rfl, rfl, trivial⟩ trivial (by decide))
             · skip
               replace hc62 := of_decide_eq_false hc62
               have hsame : W = if 0 < i then W else o * 16777216 + g := by
                 split
                 · rfl
                 · rw [← hg, ← hW]
                   unfold guW
                   rw [if_neg (fun e => by rw [e] at hc62; omega)]
               refine C.skip ?_; refine QE.blkN ?_; refine QE.seq (C.region ?_); refine L.step (Ev.add rfl rfl (by omega) (by omega)) rfl ?_; refine Lpu rfl rfl ?_; refine L.nil ?_
               refine QE.round (i + 1) (by omega) (by omega) (by exact Le.mk' (rs := [0, 1]) (hs := []) ⟨rfl, rfl, rfl, rfl, rfl, rfl, (by rw [if_pos (Nat.succ_pos _), ← hsame]; rfl), trivial⟩ ⟨rfl, rfl, trivial⟩ trivial (by decide))
           · skip
             replace hc56 := of_decide_eq_false hc56
             refine C.exit ?_; refine QE.tX ?_; refine QE.tX ?_; refine QE.blk ?_; refine QE.seq (C.seq (C.seq ?_))
             obtain rfl : i = 3 := by omega
             refine C.regionQ (by kernel_rfl) ?_; refine LQ.step (Ev.pure rfl) rfl ?_; refine LQ.step (Ev.pure rfl) rfl ?_; refine LQ.call (.agg (List.toArray (in5 (decF W t)))) (decode_c W t hgw ht) (fun _ _ _ h => h.1) rfl trivial rfl ?_; refine LQ.step (Ev.loadA rfl rfl rfl (Src.r 0 rfl) rfl rfl (by decide)) rfl ?_; refine LQ.step (Ev.neSt (xs := (decF W t).l) (ys := (insT o a n).l) rfl rfl (by kernel_rfl) (by kernel_rfl) rfl rfl rfl rfl rfl) rfl ?_; refine LQ.nil ?_; refine QE.seq ?_
             refine C.condB 77 rfl (fun hc77 => ?_) (fun hc77 => ?_)
             · skip
               have hne : decF W t ≠ insT o a n := fun e => by rw [e] at hc77; exact absurd hc77 (by simp)
               refine C.seq (C.region ?_); refine Lpu rfl rfl ?_; refine Lpu rfl rfl ?_; refine L.nil (QE.seq (C.ret (QE.tR ?_))); refine QE.ret (js := []) (hs := []) (vs := [_, _]) rfl ⟨rfl, rfl, trivial⟩ (by decide) ?_
               rw [encR_ne (enc_guess hgw (fun v hv e => hW ▸ guW_right h5 h8 e)) hne]
               exact ⟨rfl, rfl, rfl⟩
             · skip
               have heq : decF W t = insT o a n := by
                 have := bne_eq_false_iff_eq.1 hc77
                 rw [← beq_iff_eq, Ins.l_inj, decide_eq_true_eq] at this
                 exact this
               refine C.skip (QE.seq (C.seq (C.region ?_))); refine Lpu rfl rfl ?_; refine Lpu rfl rfl ?_; refine Lpu rfl rfl ?_; refine L.nil (QE.seq (C.ret ?_)); refine QE.ret (js := []) (hs := []) (vs := [_, _]) rfl ⟨rfl, rfl, trivial⟩ (by decide) ?_
               rw [encR_eq (enc_guess hgw (fun v hv e => hW ▸ guW_right h5 h8 e)) heq]
               exact ⟨rfl, rfl, rfl⟩
         · skip
           replace hc35 := b_eq hc35
           omega
       · skip
         rw [targ_yes h5 h8] at hc26; cases hc26

end Go.Proofs.YtbkmahjhhncfcaaGreat
end
