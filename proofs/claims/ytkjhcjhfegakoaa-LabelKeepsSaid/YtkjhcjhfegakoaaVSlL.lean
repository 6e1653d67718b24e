/-
  The small separation logic: structs of numbers that are compared, equal or not.
-/
import Derived.Lib.SlicesCompact
import Derived.Test.YtkjhcjhfegakoaaVSlP
import Derived.Test.YtkjhcjhfegakoaaVSlI
import Derived.Test.YtkjhcjhfegakoaaVWLaD
import Derived.Test.YtkjhcjhfegakoaaVWLaC
section
namespace Go.Sl

section
variable {X : Cx} {β : Base} {Γ : Env} {R H : List Pr}
theorem Ev.neSt {t ty : Nat} {x y : Operand} {xs ys : List Int} {i : Ti} {fs : List Field} (ht : tlook t X.tab = some i) (hd : i.desc = .struct (List.toArray fs)) (hp : X.P.stoodInHeld t = false) (hm : X.P.eqGuardType X.P.depth t = false) (hf : intFs X.tab 0 fs = true)
   (hx : ev Γ x = some (.agg (List.toArray (I64 xs)))) (hy : ev Γ y = some (.agg (List.toArray (I64 ys)))) (h1 : xs.length = fs.length) (h2 : ys.length = fs.length) : Ev X β Γ R H (.binOp .neq t x y ty) (.bool (xs != ys)) := by
 intro ρ w hρ hw o ho
 have hu := (X.ok _ _ ht).und
 rw [hd] at hu
 have hF : X.P.fieldsOf t = List.toArray fs := by unfold Program.fieldsOf; rw [hu]
 have hq : (Op.equalIn 10000 t (.agg (List.toArray (I64 xs))) (.agg (List.toArray (I64 ys)))).run X.P w = .ok (xs == ys) w := by
   rw [run_equalIn_struct w 9999 t _ _ (by rw [hF]; exact hu) hp, hF]
   simpa using run_eqInts (X := X) (w := w) (xs := xs) (ys := ys) 9998 fs 0 hf (by omega) (by omega)
 have hg := run_eqGuard_agg (P := X.P) w .neq t x y (List.toArray (I64 xs)) (List.toArray (I64 ys)) hm
 have hb := run_neq_struct (P := X.P) w t (List.toArray (I64 xs)) (List.toArray (I64 ys))
 rw [hq] at hb
 simp [execOp, ho, hρ _ _ hx, hρ _ _ hy, hg, hb, bne]
end

/-! ### Choices of a drawn region, told shortly -/
section
variable {X : Cx} {β : Base} {n : Nat} {ds : List Deferred} {Q : Exit → Act → World → Prop} {Γ : Env} {R H Rc : List Pr} {ops o : Array Oper} {fuel : Nat} {listed : Array Bool}
theorem LM.a2 (i j : Nat) {a b : Oper} (hr : Region.ready .any ops listed = [i, j]) (hc : Hass R H Rc) (h1 : ops[i]? = some a) (h2 : ops[j]? = some b)
   (k1 : L X β n ds ops (QM X β ops Rc Q fuel (listed.setIfInBounds i true)) [a] Γ R H) (k2 : L X β n ds ops (QM X β ops Rc Q fuel (listed.setIfInBounds j true)) [b] Γ R H) : LM X β n ds ops Rc Q (fuel + 1) listed Γ R H :=
 LM.alt [i, j] hr (by simp) hc ⟨⟨a, h1, k1⟩, ⟨b, h2, k2⟩, trivial⟩
theorem LM.a3 (i j k : Nat) {a b c : Oper} (hr : Region.ready .any ops listed = [i, j, k]) (hc : Hass R H Rc) (h1 : ops[i]? = some a) (h2 : ops[j]? = some b) (h3 : ops[k]? = some c)
   (k1 : L X β n ds ops (QM X β ops Rc Q fuel (listed.setIfInBounds i true)) [a] Γ R H) (k2 : L X β n ds ops (QM X β ops Rc Q fuel (listed.setIfInBounds j true)) [b] Γ R H) (k3 : L X β n ds ops (QM X β ops Rc Q fuel (listed.setIfInBounds k true)) [c] Γ R H) : LM X β n ds ops Rc Q (fuel + 1) listed Γ R H :=
 LM.alt [i, j, k] hr (by simp) hc ⟨⟨a, h1, k1⟩, ⟨b, h2, k2⟩, ⟨c, h3, k3⟩, trivial⟩
theorem LM.a4 (i j k l : Nat) {a b c d : Oper} (hr : Region.ready .any ops listed = [i, j, k, l]) (hc : Hass R H Rc) (h1 : ops[i]? = some a) (h2 : ops[j]? = some b) (h3 : ops[k]? = some c) (h4 : ops[l]? = some d)
   (k1 : L X β n ds ops (QM X β ops Rc Q fuel (listed.setIfInBounds i true)) [a] Γ R H) (k2 : L X β n ds ops (QM X β ops Rc Q fuel (listed.setIfInBounds j true)) [b] Γ R H) (k3 : L X β n ds ops (QM X β ops Rc Q fuel (listed.setIfInBounds k true)) [c] Γ R H) (k4 : L X β n ds ops (QM X β ops Rc Q fuel (listed.setIfInBounds l true)) [d] Γ R H) : LM X β n ds ops Rc Q (fuel + 1) listed Γ R H :=
 LM.alt [i, j, k, l] hr (by simp) hc ⟨⟨a, h1, k1⟩, ⟨b, h2, k2⟩, ⟨c, h3, k3⟩, ⟨d, h4, k4⟩, trivial⟩
theorem L.nm (hz : (listed.size == ops.size) = true) (h : LM X β n ds ops Rc Q fuel listed Γ R H) : L X β n ds o (QM X β ops Rc Q fuel listed) [] Γ R H := L.nil (QE.m hz h)
end
end Go.Sl
end
/-
  How the program encodes an instruction that has a target.
-/
section
namespace Go.Proofs.Ytkjhcjhfegakoaa
open Go.Sl

set_option maxHeartbeats 1000000 in
theorem encode_c (o a : Nat) (n t : Int) (h5 : 5 ≤ o) (h8 : o ≤ 8) (ha : a < 256) (ht : -1099511627776 ≤ t ∧ t ≤ 1099511627776) :
   Ctr X 47 [.agg (List.toArray [.int .i64 (o : Int), .int .i64 (a : Int), .int .i64 0, .int .i64 0, .int .i64 n]), .int .i64 t] [] [] (fun v R' H' => v = .tuple #[.int .u32 ((encR (insT o a n) t).1 : Int), .int .i64 (encR (insT o a n) t).2] ∧ R' = [] ∧ H' = []) := by
 obtain ⟨g, hg⟩ : ∃ g, guN o n t = g := ⟨_, rfl⟩
 obtain ⟨W, hW⟩ : ∃ W, guW o a n t = W := ⟨_, rfl⟩
 have hgl : g < 16777216 := hg ▸ guN_lt24 h5 h8 n t
 have hgw : W < 4294967296 := hW ▸ guW_lt h5 h8 ha n t
 refine Ctr.of (X := X) (fn := Try.f47) Try.func47 rfl (by kernel_rfl) rfl ?_
 intro β
 refine C.seq (C.region ?_)
 refine L.boxA rfl rfl (fun A2 => ?_)
 refine Lpu rfl rfl ?_; refine Lpu rfl rfl ?_; refine L.nil (QE.seq (C.seq (C.seq ?_))); refine C.freeze 0 rfl [] (by decide) (by decide) ?_; refine C.region ?_; refine L.step (Ev.fieldAddr rfl rfl rfl rfl rfl rfl (Src.r 0 rfl) (Nat.zero_lt_succ _) rfl) rfl ?_; refine L.step (Ev.load rfl rfl rfl (Src.r 0 rfl) rfl) rfl ?_; refine Lpu rfl rfl ?_; refine Lpu rfl rfl ?_
 refine L.bool 14 rfl (fun hg14 => ?_) (fun hg14 => ?_)
 · skip
   replace hg14 := of_decide_eq_true hg14
   omega
 · skip
   replace hg14 := of_decide_eq_false hg14
   refine L.yes rfl ?_; refine L.step (Ev.fieldAddr rfl rfl rfl rfl rfl rfl (Src.r 0 rfl) (Nat.zero_lt_succ _) rfl) rfl ?_; refine L.yes rfl ?_; refine L.step (Ev.load rfl rfl rfl (Src.r 0 rfl) rfl) rfl ?_; refine L.yes rfl ?_; refine Lpu rfl rfl ?_; refine Lpu rfl rfl ?_; refine L.nil (QE.seq ?_)
   refine C.condB 18 rfl (fun hc18 => ?_) (fun hc18 => ?_)
   · skip
     replace hc18 := of_decide_eq_true hc18
     omega
   · skip
     replace hc18 := of_decide_eq_false hc18
     refine C.skip (QE.seq (C.seq ?_)); refine C.join (fun q : Option Addr × List ByteArray => [(0, .agg (List.toArray [.int .i64 (o : Int), .int .i64 (a : Int), .int .i64 0, .int .i64 0, .int .i64 n])), (1, .int .i64 t), (2, ptrOf A2 0), (6, ptrOf q.1 0)]) (fun q : Option Addr × List ByteArray => [Rd A2 [.int .i64 (o : Int), .int .i64 (a : Int), .int .i64 0, .int .i64 0, .int .i64 n]]) (fun q : Option Addr × List ByteArray => [Own 95 5 q.1 1 1 (kindV q.2 o)]) (fun q : Option Addr × List ByteArray => True) ?_ ?_
     · skip
       refine C.regionM [Rd A2 [.int .i64 (o : Int), .int .i64 (a : Int), .int .i64 0, .int .i64 0, .int .i64 n]] ⟨Has.r 0 rfl, trivial⟩ ?_; refine LM.q 1 rfl (by kernel_rfl) (Ev.fieldAddr rfl rfl rfl rfl rfl rfl (Src.r 0 rfl) (Nat.zero_lt_succ _) rfl) rfl ⟨Has.r 0 rfl, trivial⟩ ?_; refine LM.q 2 rfl (by kernel_rfl) (Ev.load rfl rfl rfl (Src.r 0 rfl) rfl) rfl ⟨Has.r 0 rfl, trivial⟩ ?_
       refine LM.alt [0, 4] (by kernel_rfl) (by decide) ⟨Has.r 0 rfl, trivial⟩ ⟨⟨_, rfl, ?_⟩, ⟨_, rfl, ?_⟩, trivial⟩
       · skip
         refine L.callR (js := []) (js' := []) (kinds_c) rfl rfl rfl (by decide) trivial rfl ?_
         rintro _ _ _ ⟨s, rfl, rfl, rfl⟩
         refine L.nil (QE.m (by kernel_rfl) ?_)
         refine LM.q 3 rfl (by kernel_rfl) (Ev.indexA (k := o) (vs := (kindV s o)) rfl rfl rfl rfl rfl rfl rfl (by omega) (kindsV_get s (by omega))) rfl ⟨Has.r 0 rfl, trivial⟩ ?_; refine LM.f 4 rfl (by kernel_rfl) ⟨Has.r 0 rfl, trivial⟩ ?_
         refine L.alloc rfl rfl rfl (fun A6 => ?_)
         refine L.nil (QE.m (by kernel_rfl) ?_)
         refine LM.cut [] (by kernel_rfl) ⟨Has.r 0 rfl, trivial⟩ ?_; refine LM.f 5 rfl (by kernel_rfl) trivial ?_; refine L.storeA (j := 0) rfl rfl rfl rfl rfl (Nat.zero_lt_succ _) rfl rfl ?_
         refine L.nil (QE.m (by kernel_rfl) ?_)
         refine LM.nil (by kernel_rfl) trivial ?_
         refine QE.joined ((A6, s)) (by exact trivial) (by exact Le.mk' (rs := [0]) (hs := [0]) ⟨rfl, rfl, rfl, rfl, trivial⟩ ⟨rfl, trivial⟩ ⟨rfl, trivial⟩ (by decide))
       · skip
         refine L.alloc rfl rfl rfl (fun A6 => ?_)
         refine L.nil (QE.m (by kernel_rfl) ?_)
         refine LM.f 0 rfl (by kernel_rfl) ⟨Has.r 0 rfl, trivial⟩ ?_; refine L.callR (js := []) (js' := [0]) (kinds_c) rfl rfl rfl (by decide) trivial rfl ?_
         rintro _ _ _ ⟨s, rfl, rfl, rfl⟩
         refine L.norm (H' := [_]) [0] ⟨rfl, trivial⟩ (by decide) ?_
         refine L.nil (QE.m (by kernel_rfl) ?_)
         refine LM.f 3 rfl (by kernel_rfl) ⟨Has.r 0 rfl, trivial⟩ ?_; refine L.step (Ev.indexA (k := o) (vs := (kindV s o)) rfl rfl rfl rfl rfl rfl rfl (by omega) (kindsV_get s (by omega))) rfl ?_
         refine L.nil (QE.m (by kernel_rfl) ?_)
         refine LM.cut [] (by kernel_rfl) ⟨Has.r 0 rfl, trivial⟩ ?_; refine LM.f 5 rfl (by kernel_rfl) trivial ?_; refine L.storeA (j := 0) rfl rfl rfl rfl rfl (Nat.zero_lt_succ _) rfl rfl ?_
         refine L.nil (QE.m (by kernel_rfl) ?_)
         refine LM.nil (by kernel_rfl) trivial ?_
         refine QE.joined ((A6, s)) (by exact trivial) (by exact Le.mk' (rs := [0]) (hs := [0]) ⟨rfl, rfl, rfl, rfl, trivial⟩ ⟨rfl, trivial⟩ ⟨rfl, trivial⟩ (by decide))
     · skip
       rintro ⟨A6, s⟩ _
       dsimp only
       refine QE.seq (C.seq ?_); refine C.freeze 0 rfl [] (by decide) (by decide) ?_; refine C.region ?_; refine L.step (Ev.fieldAddr rfl rfl rfl rfl rfl rfl (Src.r 1 rfl) (Nat.zero_lt_succ _) rfl) rfl ?_; refine L.step (Ev.load rfl rfl rfl (Src.r 1 rfl) rfl) rfl ?_; refine Lpu rfl rfl ?_; refine L.nil (QE.seq (C.seq (C.seq (C.region ?_)))); refine L.step (Ev.fieldAddr rfl rfl rfl rfl rfl rfl (Src.r 0 rfl) (Nat.zero_lt_succ _) rfl) rfl ?_; refine L.step (Ev.load rfl rfl rfl (Src.r 0 rfl) rfl) rfl ?_; refine L.nil (QE.seq ?_)
       refine C.condB 26 rfl (fun hc26 => ?_) (fun hc26 => ?_)
       · skip
         refine C.region ?_; refine Lpu rfl rfl ?_; refine Lpu rfl rfl ?_; refine L.step (Ev.subW rfl rfl) rfl ?_; refine L.step (Ev.shrA (k := 2) (q := IntKind.i64.wrap (n - t) / 4) rfl rfl rfl (by decide) rfl) rfl ?_; refine Lpu rfl rfl ?_; refine L.nil (QE.seq (C.seq ?_))
         obtain ⟨u32, hu32⟩ : ∃ q : Nat, IntKind.i64.wrap (n - t) / 4 % 4294967296 = (q : Int) := ⟨(IntKind.i64.wrap (n - t) / 4 % 4294967296).toNat, by omega⟩
         refine C.region ?_; refine Lpu rfl rfl ?_; refine L.step (Ev.toU32 (q := u32) rfl rfl rfl rfl hu32) rfl ?_; refine Lpu rfl rfl ?_; refine L.nil (QE.seq (C.seq (C.seq (C.region ?_)))); refine L.step (Ev.fieldAddr rfl rfl rfl rfl rfl rfl (Src.r 1 rfl) (Nat.zero_lt_succ _) rfl) rfl ?_; refine L.step (Ev.load rfl rfl rfl (Src.r 1 rfl) rfl) rfl ?_; refine Lpu rfl rfl ?_; refine L.nil (QE.seq ?_)
         refine C.condB 35 rfl (fun hc35 => ?_) (fun hc35 => ?_)
         · skip
           replace hc35 := b_ne hc35
           refine C.regionQ (by kernel_rfl) ?_; refine LQ.step (Ev.fieldAddr rfl rfl rfl rfl rfl rfl (Src.r 1 rfl) (Nat.zero_lt_succ _) rfl) rfl ?_; refine LQ.step (Ev.load rfl rfl rfl (Src.r 1 rfl) rfl) rfl ?_; refine LQ.step (Ev.toU32 (q := o) rfl rfl rfl rfl (by omega)) rfl ?_; refine LQ.step (Ev.shl32 (k := 24) (q := o * 16777216) rfl rfl rfl (by decide) rfl (by omega)) rfl ?_; refine LQ.step (Ev.pure rfl) rfl ?_; refine LQ.step (Ev.fieldAddr rfl rfl rfl rfl rfl rfl (Src.r 0 rfl) (Nat.zero_lt_succ _) rfl) rfl ?_; refine LQ.step (Ev.load rfl rfl rfl (Src.r 0 rfl) rfl) rfl ?_; refine LQ.step (Ev.cast (u := .int .i64 ((2 ^ bitsF o : Nat) : Int)) (Ev.shlI (m := 1) (k := bitsF o) rfl rfl (by have := bits_le o; omega) (by have := pow_bits o; have hpp : 0 < 2 ^ bitsF o := Nat.pow_pos (by decide); omega)) (congrArg (Value.int .i64) (by rw [Nat.one_mul]))) rfl ?_; refine LQ.step (Ev.cast (u := .int .i64 ((2 ^ bitsF o - 1 : Nat) : Int)) (Ev.sub rfl rfl (by have := pow_bits o; have hpp : 0 < 2 ^ bitsF o := Nat.pow_pos (by decide); omega) (by have := pow_bits o; have hpp : 0 < 2 ^ bitsF o := Nat.pow_pos (by decide); omega)) (congrArg (Value.int .i64) (by have : 0 < 2 ^ bitsF o := Nat.pow_pos (by decide); omega))) rfl ?_; refine LQ.step (Ev.maskI (q := (g : Int)) (bitsF o) rfl rfl rfl (by have := bits_le o; omega) (by rw [← hg]; exact guN_eq o n t)) rfl ?_; refine LQ.step (Ev.toU32 (q := g) rfl rfl rfl rfl (by omega)) rfl ?_; refine LQ.step (Ev.beside32 24 (p := 16777216) rfl (c := o) (q := o * 16777216 + g) rfl rfl rfl (by omega) (by omega) (by omega) rfl) rfl ?_; refine LQ.step (Ev.pure rfl) rfl ?_; refine LQ.nil ?_; refine QE.seq (C.seq (C.seq (C.region ?_))); refine L.step (Ev.fieldAddr rfl rfl rfl rfl rfl rfl (Src.r 1 rfl) (Nat.zero_lt_succ _) rfl) rfl ?_; refine L.step (Ev.load rfl rfl rfl (Src.r 1 rfl) rfl) rfl ?_; refine L.step (Ev.fieldAddr rfl rfl rfl rfl rfl rfl (Src.r 1 rfl) (Nat.zero_lt_succ _) rfl) rfl ?_; refine L.step (Ev.load rfl rfl rfl (Src.r 1 rfl) rfl) rfl ?_; refine L.step (Ev.fieldAddr rfl rfl rfl rfl rfl rfl (Src.r 1 rfl) (Nat.zero_lt_succ _) rfl) rfl ?_; refine L.step (Ev.load rfl rfl rfl (Src.r 1 rfl) rfl) rfl ?_; refine L.step (Ev.buildArr rfl rfl rfl rfl rfl rfl rfl) rfl ?_; refine Lpu rfl rfl ?_; refine L.nil (QE.seq (C.block ?_)); refine C.loop (fun i : Nat => [(0, .agg (List.toArray [.int .i64 (o : Int), .int .i64 (a : Int), .int .i64 0, .int .i64 0, .int .i64 n])), (1, .int .i64 t), (2, ptrOf A2 0), (6, ptrOf A6 0), (54, .agg #[.int .i64 (a : Int), .int .i64 0, .int .i64 0]), (55, .int .i64 (i : Int)), (8, .int .u32 (((if 0 < i then W else o * 16777216 + g) : Nat) : Int))]) (fun i : Nat => [Rd A2 [.int .i64 (o : Int), .int .i64 (a : Int), .int .i64 0, .int .i64 0, .int .i64 n], Rd A6 (kindV s o)]) (fun i : Nat => []) (fun i : Nat => i ≤ 3) (fun i : Nat => 3 - i) 0 (Nat.zero_le _) (by exact Le.mk' (rs := [1, 0]) (hs := []) ⟨rfl, rfl, rfl, rfl, rfl, rfl, (by rw [if_neg (Nat.lt_irrefl 0)]; rfl), trivial⟩ ⟨rfl, rfl, trivial⟩ trivial (by decide)) ?_
           intro i hi
           refine C.seq (C.region ?_); refine Lpu rfl rfl ?_; refine L.nil (QE.seq (C.seq ?_))
           refine C.condB 56 rfl (fun hc56 => ?_) (fun hc56 => ?_)
           · skip
             replace hc56 := of_decide_eq_true hc56
             refine C.skip (QE.seq (C.seq (C.block (C.seq (C.region ?_))))); refine Lpu rfl rfl ?_; refine L.step (Ev.index (k := i) rfl rfl rfl rfl rfl rfl rfl rfl (by omega) (insT_regs a (by omega))) rfl ?_; refine Lpu rfl rfl ?_; refine Lpu rfl rfl ?_; refine L.nil (QE.seq (C.seq (C.region ?_))); refine Lpu rfl rfl ?_; refine L.step (Ev.fieldAddr rfl rfl rfl rfl rfl rfl (Src.r 1 rfl) (Nat.zero_lt_succ _) rfl) rfl ?_; refine L.step (Ev.load rfl rfl rfl (Src.r 1 rfl) rfl) rfl ?_; refine Lpu rfl rfl ?_; refine L.nil (QE.seq ?_)
             refine C.condB 62 rfl (fun hc62 => ?_) (fun hc62 => ?_)
             · skip
               replace hc62 := of_decide_eq_true hc62
               have hr1 : regsF o = 1 ∧ i = 0 := by
                 rcases bits_cases h5 h8 with ⟨_, e, _⟩ | ⟨_, e, _⟩ <;> rw [e] at hc62 ⊢ <;> omega
               obtain ⟨hr1, rfl⟩ := hr1
               refine C.region ?_; refine Lpu rfl rfl ?_; refine Lpu rfl rfl ?_; refine L.step (Ev.maskI (q := (a : Int)) 8 rfl rfl rfl (by decide) (by rw [if_pos rfl, show ((2 ^ 8 : Nat) : Int) = 256 from rfl]; omega)) rfl ?_; refine L.step (Ev.toU32 (q := a) rfl rfl rfl rfl (by omega)) rfl ?_; refine Lpu rfl rfl ?_; refine L.step (Ev.mul rfl rfl (by omega) (by omega)) rfl ?_; refine L.step (Ev.sub rfl rfl (by omega) (by omega)) rfl ?_; refine L.step (Ev.shl32 (k := 16) (q := a * 65536) rfl rfl rfl (by decide) rfl (by omega)) rfl ?_; refine L.step (Ev.or32 (q := W) rfl rfl (by rw [if_neg (by decide)]; omega) (by omega) (by rw [if_neg (by decide), ← hg, ← hW]; unfold guW; rw [if_pos hr1])) rfl ?_; refine Lpu rfl rfl ?_; refine L.nil ?_; refine QE.blkN ?_; refine QE.seq (C.region ?_); refine L.step (Ev.add rfl rfl (by omega) (by omega)) rfl ?_; refine Lpu rfl rfl ?_; refine L.nil ?_
               refine QE.round (0 + 1) (by omega) (by omega) (by exact Le.mk' (rs := [0, 1]) (hs := []) ⟨rfl, rfl, rfl, rfl, rfl, rfl, (by rw [if_pos (by decide)]; rfl), trivial⟩ ⟨rfl, rfl, trivial⟩ trivial (by decide))
             · skip
               replace hc62 := of_decide_eq_false hc62
               have hsame : W = if 0 < i then W else o * 16777216 + g := by
                 split
                 · rfl
                 · rw [← hg, ← hW]
                   unfold guW
                   rw [if_neg (fun e => by rw [e] at hc62; omega)]
               refine C.skip ?_; refine QE.blkN ?_; refine QE.seq (C.region ?_); refine L.step (Ev.add rfl rfl (by omega) (by omega)) rfl ?_; refine Lpu rfl rfl ?_; refine L.nil ?_
               refine QE.round (i + 1) (by omega) (by omega) (by exact Le.mk' (rs := [0, 1]) (hs := []) ⟨rfl, rfl, rfl, rfl, rfl, rfl, (by rw [if_pos (Nat.succ_pos _), ← hsame]; rfl), trivial⟩ ⟨rfl, rfl, trivial⟩ trivial (by decide))
           · skip
             replace hc56 := of_decide_eq_false hc56
             refine C.exit ?_; refine QE.tX ?_; refine QE.tX ?_; refine QE.blk ?_; refine QE.seq (C.seq (C.seq ?_))
             obtain rfl : i = 3 := by omega
             refine C.regionQ (by kernel_rfl) ?_; refine LQ.step (Ev.pure rfl) rfl ?_; refine LQ.step (Ev.pure rfl) rfl ?_; refine LQ.call (.agg (List.toArray (in5 (decF W t)))) (decode_c W t hgw ht) (fun _ _ _ h => h.1) rfl trivial rfl ?_; refine LQ.step (Ev.loadA rfl rfl rfl (Src.r 0 rfl) rfl rfl (by decide)) rfl ?_; refine LQ.step (Ev.neSt (xs := (decF W t).l) (ys := (insT o a n).l) rfl rfl (by kernel_rfl) (by kernel_rfl) rfl rfl rfl rfl rfl) rfl ?_; refine LQ.nil ?_; refine QE.seq ?_
             refine C.condB 77 rfl (fun hc77 => ?_) (fun hc77 => ?_)
             · skip
               have hne : decF W t ≠ insT o a n := fun e => by rw [e] at hc77; exact absurd hc77 (by simp)
               refine C.seq (C.region ?_); refine Lpu rfl rfl ?_; refine Lpu rfl rfl ?_; refine L.nil (QE.seq (C.ret (QE.tR ?_))); refine QE.ret (js := []) (hs := []) (vs := [_, _]) rfl ⟨rfl, rfl, trivial⟩ (by decide) ?_
               rw [encR_ne (enc_guess hgw (fun v hv e => hW ▸ guW_right h5 h8 e)) hne]
               exact ⟨rfl, rfl, rfl⟩
             · skip
               have heq : decF W t = insT o a n := by
                 have := bne_eq_false_iff_eq.1 hc77
                 rw [← beq_iff_eq, Ins.l_inj, decide_eq_true_eq] at this
                 exact this
               refine C.skip (QE.seq (C.seq (C.region ?_))); refine Lpu rfl rfl ?_; refine Lpu rfl rfl ?_; refine Lpu rfl rfl ?_; refine L.nil (QE.seq (C.ret ?_)); refine QE.ret (js := []) (hs := []) (vs := [_, _]) rfl ⟨rfl, rfl, trivial⟩ (by decide) ?_
               rw [encR_eq (enc_guess hgw (fun v hv e => hW ▸ guW_right h5 h8 e)) heq]
               exact ⟨rfl, rfl, rfl⟩
         · skip
           replace hc35 := b_eq hc35
           omega
       · skip
         rw [targ_yes h5 h8] at hc26; cases hc26

end Go.Proofs.Ytkjhcjhfegakoaa
end
/-
  Labels: lists without repetitions in ascending order; what a program makes by sorting and leaving out repetitions, and a reference by putting in one by one.
-/
section
namespace Go.Sl

/-- A number is put into an ascending list, if it is not there. -/
def insS : List Int → Int → List Int
 | [], n => [n]
 | a :: l, n => if n < a then n :: a :: l else if n = a then a :: l else a :: insS l n
theorem insS_mem (l : List Int) (n x : Int) : x ∈ insS l n ↔ x ∈ l ∨ x = n := by
 induction l with
 | nil => simp [insS]
 | cons a l ih =>
   unfold insS
   split
   · simp only [List.mem_cons]
     constructor
     · rintro (h | h | h)
       · exact .inr h
       · exact .inl (.inl h)
       · exact .inl (.inr h)
     · rintro ((h | h) | h)
       · exact .inr (.inl h)
       · exact .inr (.inr h)
       · exact .inl h
   · split
     · rename_i h
       subst h
       simp only [List.mem_cons]
       constructor
       · exact .inl
       · rintro (h | h)
         · exact h
         · exact .inl h
     · simp only [List.mem_cons, ih]
       constructor
       · rintro (h | h | h)
         · exact .inl (.inl h)
         · exact .inl (.inr h)
         · exact .inr h
       · rintro ((h | h) | h)
         · exact .inl h
         · exact .inr (.inl h)
         · exact .inr (.inr h)
theorem insS_sorted {l : List Int} (n : Int) (h : l.Pairwise (· < ·)) : (insS l n).Pairwise (· < ·) := by
 induction l with
 | nil => exact List.pairwise_singleton _ _
 | cons a l ih =>
   have h' := List.pairwise_cons.1 h
   unfold insS
   split
   · rename_i hn
     refine List.pairwise_cons.2 ⟨fun x hx => ?_, h⟩
     rcases List.mem_cons.1 hx with e | e
     · exact e ▸ hn
     · exact Int.lt_trans hn (h'.1 x e)
   · split
     · exact h
     · rename_i h1 h2
       refine List.pairwise_cons.2 ⟨fun x hx => ?_, ih h'.2⟩
       rcases (insS_mem l n x).1 hx with e | e
       · exact h'.1 x e
       · omega
theorem insS_len (l : List Int) (n : Int) : (insS l n).length ≤ l.length + 1 := by
 induction l with
 | nil => exact Nat.le_refl _
 | cons a l ih =>
   unfold insS
   split
   · exact Nat.le_refl _
   · split
     · exact Nat.le_succ _
     · simp only [List.length_cons]; omega
def labsOf (t : List Int) : List Int := t.foldl insS []
theorem labsOf_snoc (t : List Int) (n : Int) : labsOf (t ++ [n]) = insS (labsOf t) n := by simp [labsOf, List.foldl_append]
theorem foldl_ins (t : List Int) (s : List Int) (hs : s.Pairwise (· < ·)) : (t.foldl insS s).Pairwise (· < ·) ∧ ∀ x, x ∈ t.foldl insS s ↔ x ∈ s ∨ x ∈ t := by
 induction t generalizing s with
 | nil => exact ⟨hs, fun x => by simp⟩
 | cons a t ih =>
   have h := ih (insS s a) (insS_sorted a hs)
   refine ⟨h.1, fun x => ?_⟩
   rw [List.foldl_cons, h.2, insS_mem, List.mem_cons, or_assoc]
theorem labsOf_sorted (t : List Int) : (labsOf t).Pairwise (· < ·) := (foldl_ins t [] List.Pairwise.nil).1
theorem labsOf_mem (t : List Int) (x : Int) : x ∈ labsOf t ↔ x ∈ t := by
 have := (foldl_ins t [] List.Pairwise.nil).2 x
 unfold labsOf
 simpa using this
theorem foldl_len (t s : List Int) : (t.foldl insS s).length ≤ s.length + t.length := by
 induction t generalizing s with
 | nil => exact Nat.le_refl _
 | cons a t ih =>
   have h1 := ih (insS s a)
   have h2 := insS_len s a
   simp only [List.foldl_cons, List.length_cons]
   omega
theorem labsOf_len (t : List Int) : (labsOf t).length ≤ t.length := by
 have := foldl_len t []
 unfold labsOf
 simpa using this
theorem sorted_eq : ∀ {a b : List Int}, a.Pairwise (· < ·) → b.Pairwise (· < ·) → (∀ x, x ∈ a ↔ x ∈ b) → a = b
 | [], [], _, _, _ => rfl
 | [], y :: b, _, _, h => absurd ((h y).2 List.mem_cons_self) List.not_mem_nil
 | x :: a, [], _, _, h => absurd ((h x).1 List.mem_cons_self) List.not_mem_nil
 | x :: a, y :: b, ha, hb, h => by
   have h1 := List.pairwise_cons.1 ha
   have h2 := List.pairwise_cons.1 hb
   have e : x = y := by
     rcases List.mem_cons.1 ((h x).1 List.mem_cons_self) with e | e
     · exact e
     · rcases List.mem_cons.1 ((h y).2 List.mem_cons_self) with e' | e'
       · exact e'.symm
       · have := h1.1 y e'
         have := h2.1 x e
         omega
   subst e
   congr 1
   refine sorted_eq h1.2 h2.2 fun z => ⟨fun hz => ?_, fun hz => ?_⟩
   · rcases List.mem_cons.1 ((h z).1 (List.mem_cons_of_mem _ hz)) with e | e
     · have := h1.1 z hz; omega
     · exact e
   · rcases List.mem_cons.1 ((h z).2 (List.mem_cons_of_mem _ hz)) with e | e
     · have := h2.1 z hz; omega
     · exact e

/-! ### Sorted, and without repetitions -/
theorem compact_spec {xs : List Int} (h : xs.Pairwise (· ≤ ·)) : (Lib.compact xs).Pairwise (· < ·) ∧ ∀ x, x ∈ Lib.compact xs ↔ x ∈ xs := by
 have get : ∀ j, j < xs.length → xs.toArray[j]! = xs.getD j 0 := by
   intro j hj
   simp [hj]
 have mono : ∀ i j, i ≤ j → j < xs.length → xs.getD i 0 ≤ xs.getD j 0 := by
   intro i j hij hj
   rcases Nat.lt_or_eq_of_le hij with hlt | rfl
   · have := List.pairwise_iff_getElem.1 h i j (by omega) hj hlt
     simpa [hj, show i < xs.length by omega] using this
   · exact Int.le_refl _
 have keep : ∀ j, Lib.keeps xs.toArray j = true ↔ (j = 0 ∨ xs.toArray[j]! ≠ xs.toArray[j - 1]!) := by
   intro j
   unfold Lib.keeps
   by_cases hj : j = 0 <;> simp [hj]
 unfold Lib.compact Lib.compactUpTo
 refine ⟨?_, fun x => ?_⟩
 · refine List.pairwise_map.2 ?_
   have hp : ((List.range xs.length).filter (Lib.keeps xs.toArray)).Pairwise (· < ·) := List.Pairwise.filter _ List.pairwise_lt_range
   refine List.Pairwise.imp_of_mem (fun {i j} hi hj hij => ?_) hp
   obtain ⟨hi1, _⟩ := List.mem_filter.1 hi
   obtain ⟨hj1, hj2⟩ := List.mem_filter.1 hj
   have hil := List.mem_range.1 hi1
   have hjl := List.mem_range.1 hj1
   rcases (keep j).1 hj2 with e | e
   · omega
   · rw [get _ hjl, get _ (by omega)] at e
     rw [get _ hil, get _ hjl]
     have h1 := mono i (j - 1) (by omega) (by omega)
     have h2 := mono (j - 1) j (by omega) hjl
     omega
 · simp only [List.mem_map, List.mem_filter, List.mem_range]
   constructor
   · rintro ⟨j, ⟨hj, _⟩, rfl⟩
     rw [get _ hj]
     simp [hj]
   · intro hx
     obtain ⟨k, hk, rfl⟩ := List.getElem_of_mem hx
     have hex : ∃ j, j < xs.length ∧ xs.getD j 0 = xs[k] := ⟨k, hk, by simp [hk]⟩
     have least : ∀ m, (∃ j, j ≤ m ∧ j < xs.length ∧ xs.getD j 0 = xs[k]) → ∃ j, j < xs.length ∧ xs.getD j 0 = xs[k] ∧ ∀ i, i < j → xs.getD i 0 ≠ xs[k] := by
       intro m
       induction m with
       | zero =>
         rintro ⟨j, hj, hl, he⟩
         obtain rfl : j = 0 := by omega
         exact ⟨0, hl, he, fun i hi => absurd hi (Nat.not_lt_zero _)⟩
       | succ m ih =>
         rintro ⟨j, hj, hl, he⟩
         by_cases hb : ∃ i, i < j ∧ xs.getD i 0 = xs[k]
         · obtain ⟨i, hi, hie⟩ := hb
           exact ih ⟨i, by omega, by omega, hie⟩
         · exact ⟨j, hl, he, fun i hi h => hb ⟨i, hi, h⟩⟩
     obtain ⟨j, hj, he⟩ := hex
     obtain ⟨j, hj, he, hmin⟩ := least j ⟨j, Nat.le_refl _, hj, he⟩
     refine ⟨j, ⟨hj, (keep j).2 ?_⟩, by rw [get _ hj, he]⟩
     by_cases h0 : j = 0
     · exact .inl h0
     · refine .inr ?_
       rw [get _ hj, get _ (by omega), he]
       exact fun e => hmin (j - 1) (by omega) e.symm
theorem merge_sorted (t : List Int) : (t.mergeSort fun x y => decide (x ≤ y)).Pairwise (· ≤ ·) := by
 have h := List.pairwise_mergeSort (le := fun x y : Int => decide (x ≤ y)) (fun a b c h1 h2 => by simp only [decide_eq_true_eq] at *; omega) (fun a b => by simp only [Bool.or_eq_true, decide_eq_true_eq]; omega) t
 exact h.imp (fun h => of_decide_eq_true h)
theorem compact_sort (t : List Int) : Lib.compact (t.mergeSort fun x y => decide (x ≤ y)) = labsOf t := by
 have h := compact_spec (merge_sorted t)
 refine sorted_eq h.1 (labsOf_sorted t) fun x => ?_
 rw [h.2, labsOf_mem, List.mem_mergeSort]
/-! ### The number of a label -/
def idxL (l : List Int) (n : Int) : Nat := l.countP (· < n)
theorem idxL_le (l : List Int) (n : Int) : idxL l n ≤ l.length := List.countP_le_length
theorem idxL_get {l : List Int} (h : l.Pairwise (· < ·)) {n : Int} (hn : n ∈ l) : l[idxL l n]? = some n := by
 induction l with
 | nil => cases hn
 | cons a l ih =>
   have h' := List.pairwise_cons.1 h
   rcases List.mem_cons.1 hn with e | e
   · subst e
     have h0 : idxL (n :: l) n = 0 := by
       unfold idxL
       rw [List.countP_eq_zero]
       intro x hx
       rcases List.mem_cons.1 hx with e | e
       · subst e; simp
       · have := h'.1 x e
         simp only [decide_eq_true_eq]
         omega
     rw [h0]
     rfl
   · have hlt := h'.1 n e
     have h1 : idxL (a :: l) n = idxL l n + 1 := by
       unfold idxL
       rw [List.countP_cons, if_pos (by simpa using hlt)]
     rw [h1, List.getElem?_cons_succ]
     exact ih h'.2 e
theorem idxL_lt {l : List Int} (h : l.Pairwise (· < ·)) {n : Int} (hn : n ∈ l) : idxL l n < l.length := (List.getElem?_eq_some_iff.1 (idxL_get h hn)).1
theorem sorted_le {l : List Int} (h : l.Pairwise (· < ·)) : l.Pairwise (· ≤ ·) := h.imp fun h => Int.le_of_lt h
end Go.Sl
end
/-
  Lifted code, as plain lists.
-/
section
namespace Go.Sl

def insAt (l : List Nat) (i : Nat) : Ins := decF (l.getD i 0) (4 * (i : Int))
def lnk (l : List Nat) (i : Nat) : Bool := linkB (insAt l i) (4 * (l.length : Int))
def targN (l : List Nat) (k : Nat) : List Int := ((List.range k).filter (lnk l)).map fun i => (insAt l i).n
theorem targN_yes {l : List Nat} {k : Nat} (h : lnk l k = true) : targN l (k + 1) = targN l k ++ [(insAt l k).n] := by simp [targN, List.range_succ, h]
theorem targN_no {l : List Nat} {k : Nat} (h : lnk l k = false) : targN l (k + 1) = targN l k := by simp [targN, List.range_succ, h]
theorem targN_len (l : List Nat) (k : Nat) : (targN l k).length ≤ k := by
 unfold targN
 rw [List.length_map]
 exact Nat.le_trans (List.length_filter_le _ _) (by rw [List.length_range]; exact Nat.le_refl _)
theorem targN_mem {l : List Nat} {k i : Nat} (hi : i < k) (h : lnk l i = true) : (insAt l i).n ∈ targN l k :=
 List.mem_map.2 ⟨i, List.mem_filter.2 ⟨List.mem_range.2 hi, h⟩, rfl⟩
def labs (l : List Nat) : List Int := labsOf (targN l l.length)
theorem labs_len (l : List Nat) : (labs l).length ≤ l.length := Nat.le_trans (labsOf_len _) (targN_len l _)
theorem labs_sorted (l : List Nat) : (labs l).Pairwise (· < ·) := labsOf_sorted _
theorem labs_mem {l : List Nat} {i : Nat} (hi : i < l.length) (h : lnk l i = true) : (insAt l i).n ∈ labs l := (labsOf_mem _ _).2 (targN_mem hi h)
theorem lnk_spec {l : List Nat} {i : Nat} (h : lnk l i = true) : 5 ≤ (insAt l i).op ∧ (insAt l i).op ≤ 8 ∧ 0 ≤ (insAt l i).n ∧ (insAt l i).n < 4 * (l.length : Int) := of_decide_eq_true h
theorem labs_range {l : List Nat} {x : Int} (h : x ∈ labs l) : 0 ≤ x ∧ x < 4 * (l.length : Int) := by
 have h1 := (labsOf_mem _ _).1 h
 obtain ⟨i, hi, rfl⟩ := List.mem_map.1 h1
 have h2 := lnk_spec (List.mem_filter.1 hi).2
 exact ⟨h2.2.2.1, h2.2.2.2⟩
/-- A word with a number in place of the bits of its distance. -/
def numW (w : Nat) (o : Int) (n : Nat) : Nat := w / 2 ^ fldF o.toNat * 2 ^ fldF o.toNat + n
def liftW (l : List Nat) (i : Nat) : Nat := if lnk l i = true then numW (l.getD i 0) (insAt l i).op (idxL (labs l) (insAt l i).n) else l.getD i 0
structure Lf where
 ws : List Nat
 ms : List Bool
 ls : List Int
def Lf.zero : Lf := ⟨[], [], []⟩
def liftF (l : List Nat) : Lf := ⟨(List.range l.length).map (liftW l), (List.range l.length).map (lnk l), labs l⟩
def codeB (b : List UInt8) : Prop := b.length % 4 = 0 ∧ b.length ≤ 65536
instance (b : List UInt8) : Decidable (codeB b) := by unfold codeB; infer_instance
def liftR (b : List UInt8) : Lf := if codeB b then liftF (wordsF b) else Lf.zero
def liftE (b : List UInt8) : Int := if codeB b then 0 else 30
theorem fld_cases (o : Nat) : 2 ^ fldF o = 16777216 ∨ 2 ^ fldF o = 65536 := by
 unfold fldF
 split
 · exact .inl (by decide)
 · exact .inr (by decide)
theorem numW_lt {w n : Nat} (o : Int) (hw : w < 4294967296) (hn : n < 65536) : numW w o n < 4294967296 := by
 unfold numW
 rcases fld_cases o.toNat with e | e <;> rw [e] <;> omega
theorem liftW_lt {l : List Nat} (hl : l.length ≤ 16384) (hw : W32 l) (i : Nat) : liftW l i < 4294967296 := by
 unfold liftW
 split
 · exact numW_lt _ (hw i) (by have := idxL_le (labs l) (insAt l i).n; have := labs_len l; omega)
 · exact hw i
theorem liftF_w32 {l : List Nat} (hl : l.length ≤ 16384) (hw : W32 l) : W32 (liftF l).ws := W32.of fun x hx => by
 obtain ⟨i, _, rfl⟩ := List.mem_map.1 hx
 exact liftW_lt hl hw i
/-- What a program has made of the words so far. -/
def liftN (l : List Nat) (k : Nat) : List Nat := (List.range k).map (liftW l) ++ l.drop k
def markN (l : List Nat) (k : Nat) : List Bool := (List.range k).map (lnk l) ++ List.replicate (l.length - k) false
theorem liftN_len {l : List Nat} {k : Nat} (h : k ≤ l.length) : (liftN l k).length = l.length := by
 unfold liftN
 rw [List.length_append, List.length_map, List.length_range, List.length_drop]
 omega
theorem markN_len {l : List Nat} {k : Nat} (h : k ≤ l.length) : (markN l k).length = l.length := by
 unfold markN
 rw [List.length_append, List.length_map, List.length_range, List.length_replicate]
 omega
theorem set_at {α : Type} (a b : List α) (y : α) (c : α) : (a ++ c :: b).set a.length y = a ++ y :: b := by simp
theorem liftN_succ {l : List Nat} {k : Nat} (h : k < l.length) : (liftN l k).set k (liftW l k) = liftN l (k + 1) := by
 unfold liftN
 have hk : k = ((List.range k).map (liftW l)).length := by simp
 rw [List.drop_eq_getElem_cons h, List.range_succ, List.map_append, List.append_assoc]
 conv => lhs; arg 2; rw [hk]
 rw [set_at]
 rfl
theorem liftN_skip {l : List Nat} {k : Nat} (h : k < l.length) (hn : lnk l k = false) : liftN l (k + 1) = liftN l k := by
 unfold liftN
 rw [List.drop_eq_getElem_cons h, List.range_succ, List.map_append, List.append_assoc]
 have : liftW l k = l[k] := by
   unfold liftW
   rw [if_neg (by rw [hn]; decide)]
   simp [h]
 simp [this]
theorem markN_succ {l : List Nat} {k : Nat} (h : k < l.length) (hn : lnk l k = true) : (markN l k).set k true = markN l (k + 1) := by
 unfold markN
 have hk : k = ((List.range k).map (lnk l)).length := by simp
 rw [show l.length - k = (l.length - (k + 1)) + 1 by omega, List.replicate_succ, List.range_succ, List.map_append, List.append_assoc]
 conv => lhs; arg 2; rw [hk]
 rw [set_at]
 simp [hn]
theorem markN_skip {l : List Nat} {k : Nat} (h : k < l.length) (hn : lnk l k = false) : markN l (k + 1) = markN l k := by
 unfold markN
 rw [show l.length - k = (l.length - (k + 1)) + 1 by omega, List.replicate_succ, List.range_succ, List.map_append, List.append_assoc]
 simp [hn]
theorem liftN_zero (l : List Nat) : liftN l 0 = l := by simp [liftN]
theorem markN_zero (l : List Nat) : markN l 0 = List.replicate l.length false := by simp [markN]
theorem liftN_all (l : List Nat) : liftN l l.length = (liftF l).ws := by simp [liftN, liftF]
theorem markN_all (l : List Nat) : markN l l.length = (liftF l).ms := by simp [markN, liftF]
theorem fld_le (o : Nat) : fldF o ≤ 32 := by
 unfold fldF
 split <;> omega
theorem liftF_lens (l : List Nat) : (liftF l).ws.length = l.length ∧ (liftF l).ms.length = l.length := by simp [liftF]
theorem liftR_lens (b : List UInt8) : (liftR b).ws.length ≤ b.length / 4 ∧ (liftR b).ms.length ≤ b.length / 4 ∧ (liftR b).ls.length ≤ b.length / 4 := by
 unfold liftR
 split
 · have h := liftF_lens (wordsF b)
   have h2 := labs_len (wordsF b)
   rw [wordsF_len] at h h2
   exact ⟨by omega, by omega, h2⟩
 · exact ⟨Nat.zero_le _, Nat.zero_le _, Nat.zero_le _⟩
end Go.Sl
end
