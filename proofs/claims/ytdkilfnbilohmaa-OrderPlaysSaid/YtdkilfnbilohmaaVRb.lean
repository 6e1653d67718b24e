/-
  An image that is written in the order, sector by sector.
-/
import Derived.Test.YtdkilfnbilohmaaVRa
import Derived.Test.YtdkilfnbilohmaaVOk
import Derived.Test.YtdkilfnbilohmaaVOm
import Derived.Test.YtdkilfnbilohmaaVSlY
namespace Go.Sl

/-! ### The stash and the order that are found, at most sixteen sectors -/
theorem ord16 {ls : List (List Int)} (hr : readB ls = true) (hn : ls.length ≤ 16) : ∃ s, s < 2 ^ ls.length ∧ ordH ls = mem s 64 ∧ ordQ ls = frs ls.length (rdP ls) s.testBit ls.length ∧ fullB ls.length (rdP ls) s.testBit = true ∧ ordE ls = 0 := by
 have hle : ∀ s, s < 2 ^ ls.length → (mem s 64).length ≤ ls.length := fun s hs => by rw [mem64 (by omega) hs]; exact mem_len _ _
 have hb : 2 ^ ls.length ≤ 2 ^ 16 := Nat.pow_le_pow_right (by decide) hn
 have h16 : (2 : Nat) ^ 16 = 65536 := by decide
 cases h : ordR ls with
 | none =>
   have h0 := srch_none_iff.1 h
   have hs : 2 ^ ls.length - 1 < 2 ^ ls.length := by have := Nat.two_pow_pos ls.length; omega
   have := bst_none.1 (h0 (mem (2 ^ ls.length - 1) 64).length (by have := hle _ hs; omega)) _ hs rfl
   rw [full_prg.2 (Prg.all fun t ht => by rw [Nat.testBit_two_pow_sub_one]; exact decide_eq_true ht)] at this
   cases this
 | some b =>
   obtain ⟨k, h1, h2, h3⟩ := srch_some h
   obtain ⟨⟨s, a1, rfl, a3, a4⟩, _⟩ := bst_some h2
   refine ⟨s, a1, ?_, ?_, a4, ordE_0 hr hn⟩
   · rw [ordH_ok hr hn, h]; rfl
   · rw [ordQ_ok hr hn, h, sqO_mem (by omega)]
/-! ### Readings -/
section
variable {l : List Sy} {inn : Int} {S n : Nat}
theorem rds_get {u : Nat} (hu : u < n) : (rdsL l inn S n n).getD u [] = NI (rdsR l inn S u n) := map_range_getD hu _
theorem rds_self (u : Nat) : rdsB l inn S u u = false := by unfold rdsB; simp
theorem rds_ok : readB (rdsL l inn S n n) = true := readB_yes fun u hu => by
 rw [rdsL_len] at hu ⊢
 rw [rds_get hu]
 exact rd_filter (rds_self u)
theorem rds_p {u t : Nat} (hu : u < n) (ht : t < n) : rdP (rdsL l inn S n n) u t = rdsB l inn S u t := by
 unfold rdP
 rw [rds_get hu, NI_has, Bool.eq_iff_iff, List.contains_iff_mem]
 unfold rdsR
 rw [List.mem_filter, List.mem_range]
 exact ⟨fun h => h.2, fun h => ⟨ht, h⟩⟩
end
/-! ### Blocks are right -/
theorem bkO_right {n : Nat} (hn : 1 ≤ n) (out : Nat) (x : T3) : 1 ≤ (bkO n out x).ln ∧ rightB (bkO n out x) (n : Int) = true := by
 have hm : x.2.2.toNat % n < n := Nat.mod_lt _ hn
 have hL : 1 ≤ bkL x := by unfold bkL; omega
 unfold bkO
 generalize x.2.2.toNat % n = m at hm
 generalize bkL x = L0 at hL
 split
 · split
   · refine ⟨by dsimp only; omega, ?_⟩
     unfold rightB insB
     dsimp only
     rw [if_pos rfl, decide_eq_true (by omega)]
     rfl
   · refine ⟨by dsimp only; omega, ?_⟩
     unfold rightB insB
     dsimp only
     rw [if_pos rfl, decide_eq_true (by omega)]
     rfl
 · exact ⟨by dsimp only; omega, rfl⟩
def lnS (l : List Po) : Int := (l.map Po.ln).sum
theorem chkG_all {size : Int} : ∀ (l : List Po), (∀ x ∈ l, 1 ≤ x.ln ∧ rightB x size = true) → chkG size (lnS l) l = true ∧ 0 ≤ lnS l
 | [], _ => ⟨decide_eq_true (Int.le_refl _), Int.le_refl _⟩
 | x :: l, h => by
   have hx := h x List.mem_cons_self
   have ih := chkG_all l fun y hy => h y (List.mem_cons_of_mem _ hy)
   have e : lnS (x :: l) = x.ln + lnS l := by simp [lnS]
   refine ⟨?_, by omega⟩
   rw [chkG, if_neg, e, show x.ln + lnS l - x.ln = lnS l by omega]
   · exact ih.1
   · rintro (g | g | g)
     · omega
     · omega
     · rw [hx.2] at g; cases g
theorem bkS_ops {n : Nat} (hn : 1 ≤ n) (l : List T3) : ∀ k, (∀ x ∈ (bkS n l k).1, 1 ≤ x.ln ∧ rightB x (n : Int) = true) ∧ lnS (bkS n l k).1 = ((bkS n l k).2 : Int)
 | 0 => ⟨fun x hx => absurd hx List.not_mem_nil, rfl⟩
 | k + 1 => by
   obtain ⟨h1, h2⟩ := bkS_ops hn l k
   have hr := bkO_right hn (bkS n l k).2 (l.getD k (0, 0, 0))
   rw [bkS]
   refine ⟨fun x hx => ?_, ?_⟩
   · rcases List.mem_append.1 hx with hx | hx
     · exact h1 x hx
     · rw [List.mem_singleton.1 hx]; exact hr
   · have e : ∀ (a : List Po) (x : Po), lnS (a ++ [x]) = lnS a + x.ln := fun a x => by simp [lnS]
     dsimp only
     rw [e, h2]
     omega
theorem bk_right {n : Nat} (hn : 1 ≤ n) (h24 : n ≤ 24) (l : List T3) {k : Nat} (hk : k ≤ 8) : chkE (n : Int) ((bkS n l k).2 : Int) (bkS n l k).1 = 0 := by
 obtain ⟨h1, h2⟩ := bkS_ops hn l k
 have h3 := bkS_out n l k
 have h4 := bkS_len n l k
 have h5 := chkG_all _ h1
 rw [h2] at h5
 unfold chkE
 rw [if_neg (by omega), if_pos h5.1]
end Go.Sl
