/-
  The order of a patch's readings lets its image be written.
-/
import Derived.Test.YtdkilfnbilohmaaVRc
namespace Go.Sl

theorem rdN_cover {inn out : Int} {S : Nat} (hS : 1 ≤ S) : inn ≤ ((rdN inn out S * S : Nat) : Int) ∧ out ≤ ((rdN inn out S * S : Nat) : Int) := by
 have h : (max inn out).toNat ≤ rdN inn out S * S := by
   unfold rdN
   have h1 := Nat.div_add_mod ((max inn out).toNat + S - 1) S
   have h2 := Nat.mod_lt ((max inn out).toNat + S - 1) (show 0 < S by omega)
   rw [Nat.mul_comm] at h1
   omega
 omega
theorem chY_no {l : List Sy} {inn : Int} {S t i : Nat} (hS : 1 ≤ S) (h : chgB l inn S t = false) (hi : i / S = t) : chY l inn i = false := by
 have h1 := (in_sector hS).1 hi
 cases hc : chY l inn i with
 | false => rfl
 | true =>
   have : chgB l inn S t = true := any_yes (p := fun j => chY l inn (t * S + j)) (k := i - t * S) (by omega) (by rw [show t * S + (i - t * S) = i by omega]; exact hc)
   rw [h] at this
   cases this
theorem plays_of {old : List UInt8} {inn out : Int} {ops : List Po} {S : Nat} (hE : chkE inn out ops = 0) (hin : inn = (old.length : Int)) (hS : 1 ≤ S) (hn : rdN inn out S ≤ 16) :
   Plays (symL ops) old (inpF old (rdN inn out S * S)) (ordH (rdsL (symL ops) inn S (rdN inn out S) (rdN inn out S))) (ordQ (rdsL (symL ops) inn S (rdN inn out S) (rdN inn out S))) S (rdN inn out S) ∧ (ordQ (rdsL (symL ops) inn S (rdN inn out S) (rdN inn out S))).length = rdN inn out S := by
 obtain ⟨k1, k2, k3, k4, k5, k6⟩ := chkE_ok hE
 have hs : syS inn out ops = symL ops := by unfold syS; rw [if_pos hE]
 have htot := chkG_tot ops out k3 k6
 have hcov := rdN_cover (inn := inn) (out := out) hS
 have hok : runOk old (symL ops) := by
   intro i hi ho
   have hat := symL_atI k6 (k := i) hi
   have := hat.2.1 ho
   omega
 generalize hl : symL ops = l at *
 generalize hN : rdN inn out S = n at *
 have hlen := rdsL_len l inn S n n
 obtain ⟨s, hs2, e1, e2, hf, _⟩ := ord16 (rds_ok (l := l) (inn := inn) (S := S) (n := n)) (by rw [hlen]; exact hn)
 rw [hlen] at hs2 e2 hf
 rw [e1, e2]
 have hfl := full_iff.1 hf
 have hb : 2 ^ n ≤ 2 ^ 16 := Nat.pow_le_pow_right (by decide) hn
 have h16 : (2 : Nat) ^ 16 = 65536 := by decide
 refine ⟨⟨hS, by omega, inpF_len _ _, by omega, fun i hi => ?_, frs_nodup _, frs_mem _, hok, fun k hk i hi hit ho => ?_⟩, hfl⟩
 · rw [inpF_get old (by omega)]
   unfold inpB
   rw [if_pos hi]
 · have hat := hok i hi ho
   have hu : rdT (l.getD i Sy.zero) S < n := by
     unfold rdT
     rw [Nat.div_lt_iff_lt_mul (by omega)]
     omega
   generalize hue : rdT (l.getD i Sy.zero) S = u at hu ⊢
   cases hst : s.testBit u with
   | true =>
     refine .inl (List.contains_iff_mem.1 ?_)
     rw [mem_has (by omega)]
     exact hst
   | false =>
     refine .inr (Classical.byContradiction fun hno => ?_)
     have hq : u ∈ (frs n (rdP (rdsL l inn S n n)) s.testBit n).take k := Classical.byContradiction fun h => hno (.inl h)
     have h3 : ¬ ∀ i', i' / S = u → i' < old.length → i' < l.length ∧ l.getD i' Sy.zero = ⟨true, (i' : Int), 0⟩ := fun h => hno (.inr h)
     obtain ⟨j, hj, hje⟩ := List.getElem_of_mem hq
     rw [List.length_take] at hj
     rw [List.getElem_take] at hje
     have hpair := List.pairwise_iff_getElem.1 (frs_pair (n := n) (p := rdP (rdsL l inn S n n)) (st := s.testBit) n).1 j k (by omega) hk (by omega)
     have hke : (frs n (rdP (rdsL l inn S n n)) s.testBit n)[k] = i / S := by
       rw [hit, List.getD_eq_getElem?_getD, List.getElem?_eq_getElem hk]
       rfl
     rw [hje, hke, hst] at hpair
     have htn : i / S < n := by
       rw [Nat.div_lt_iff_lt_mul (by omega)]
       omega
     have hp : rdsB l inn S (i / S) u = false := by
       rcases hpair with h | h
       · cases h
       · rwa [rds_p htn hu] at h
     have hne : ¬ i / S = u := by
       intro h
       have : (frs n (rdP (rdsL l inn S n n)) s.testBit n)[j] = (frs n (rdP (rdsL l inn S n n)) s.testBit n)[k] := by rw [hje, hke, h]
       have := (List.getElem_inj (frs_nodup _)).1 this
       omega
     have hh : hitB l S (i / S) u = true := by
       have h1 := (in_sector hS).1 (rfl : i / S = i / S)
       refine any_yes (p := fun j => decide (i / S * S + j < l.length) && (l.getD (i / S * S + j) Sy.zero).old && decide (rdT (l.getD (i / S * S + j) Sy.zero) S = u)) (k := i - i / S * S) (by omega) ?_
       rw [show i / S * S + (i - i / S * S) = i by omega, decide_eq_true hi, ho, decide_eq_true hue]
       rfl
     unfold rdsB at hp
     rw [decide_eq_false hne, hh, Bool.and_true] at hp
     cases hct : chgB l inn S (i / S) with
     | false =>
       have h1 := chY_no hS hct rfl
       unfold chY at h1
       rw [if_pos hi, decide_eq_false_iff_not, Classical.not_not] at h1
       rw [h1] at hue
       exact hne (by rw [← hue]; rfl)
     | true =>
       cases hcu : chgB l inn S u with
       | true => rw [hct, hcu] at hp; cases hp
       | false =>
         refine h3 fun i' hi' hlt => ?_
         have h1 := chY_no hS hcu hi'
         unfold chY at h1
         by_cases hil : i' < l.length
         · rw [if_pos hil, decide_eq_false_iff_not, Classical.not_not] at h1
           exact ⟨hil, h1⟩
         · rw [if_neg hil, decide_eq_false_iff_not] at h1
           omega
end Go.Sl
