/-
  What the laws of saved records say, as plain data.
-/
import Derived.Test.YthfjkdgopkmgoaaTPw
import Derived.Test.YthfjkdgopkmgoaaTWSvI
section
namespace Go.Sl

theorem recB_head (x : UInt8) (old : List UInt8) (s : List (Nat × Nat)) : (recB x old s).getD 0 0 = x := rfl
theorem ofInt_lt {sec : Nat} (h : sec < 64) : (UInt8.ofInt (sec : Int)).toNat = sec := by
  simp [UInt8.ofInt, UInt8.toNat_ofNat']
  omega
structure RecIs (sec : Nat) (a b r : List UInt8) : Prop where
  eq : recS (sec : Int) a b = r
  e : recE (sec : Int) a b = 0
  head : (r.getD 0 0).toNat = sec
  len : r.length = 5 + 4 * (chgN a b a.length).length + diffN a b a.length
  le : r.length ≤ 20485
  res : resS b r = a
  resE : resE b r = 0
theorem RecIs.of {sec : Nat} {a b r : List UInt8} (hr : r = recS (sec : Int) a b) (h : sec < 64) (hl : a.length = b.length) (h1 : 1 ≤ a.length) (h2 : a.length ≤ 4096) : RecIs sec a b r := by
  subst hr
  have hB : ¬RecBad (sec : Int) a b := by unfold RecBad; omega
  obtain ⟨h3, h4⟩ := res_rec hB
  refine ⟨rfl, recE_ok hB, ?_, ?_, recS_len _ _ _, h3, h4⟩
  · rw [recS_ok hB, recB_head, ofInt_lt h]
  · rw [recS_ok hB, recB_len]
theorem diffN_same (a : List UInt8) : ∀ k, diffN a a k = 0
  | 0 => rfl
  | k + 1 => by rw [diffN, if_pos rfl, diffN_same a k]
theorem chgN_same (a : List UInt8) : ∀ k, chgN a a k = []
  | 0 => rfl
  | k + 1 => by rw [chgN, if_pos rfl, chgN_same a k]
theorem RecIs.same {sec : Nat} {a r : List UInt8} (h : RecIs sec a a r) : r.length = 5 := by rw [h.len, chgN_same, diffN_same]; rfl
end Go.Sl
end
/-
  The contracts of SavedRestores and SavedSizes.
-/
section
namespace Go.Proofs.Ythfjkdgopkmgoaa
open Go.Sl

theorem rec_g (sec : Int) (SA SB : Option Addr) (a b : List UInt8) (n m ca cb : Nat) (r : List UInt8) (e : Int) (hn : a.length = n) (hm : b.length = m) (hr : recS sec a b = r) (he : recE sec a b = e) (hca : n ≤ ca) (hal : n ≤ 9223372036854775807) (hbl : m ≤ 9223372036854775807) :
    Ctr X 21 [.int .i64 sec, .slice SA n ca, .slice SB m cb] [Rd SA (U8 a), Rd SB (U8 b)] [] (fun v R' H' => ∃ (A : Option Addr) (c : Nat), v = .tuple #[.slice A r.length c, .int .i64 e] ∧ R' = [] ∧ H' = [Own 5 1 A r.length c (U8 r)]) := by
  subst hn hm hr he
  exact record_c sec SA SB a b ca cb hca hal hbl
theorem same_g (A B : Option Addr) (c d : Nat) (xs ys : List UInt8) (n m : Nat) (hn : xs.length = n) (hm : ys.length = m) (hx : n ≤ 9223372036854775807) (hy : m ≤ 9223372036854775807) :
    Ctr X 25 [.slice A n c, .slice B m d] [Rd A (U8 xs), Rd B (U8 ys)] [] (fun v R' H' => v = .bool (xs == ys) ∧ R' = [] ∧ H' = []) := by
  subst hn hm
  exact same_c A B c d xs ys hx hy
theorem sect_g (A : Option Addr) (l : List UInt8) (c s : Nat) (h : (l.getD 0 0).toNat = s) (hl : 0 < l.length) :
    Ctr X 32 [.slice A l.length c] [Rd A (U8 l)] [] (fun v R' H' => v = .int .i64 (s : Int) ∧ R' = [] ∧ H' = []) := by
  subst h
  exact sector_c A l c hl

end Go.Proofs.Ythfjkdgopkmgoaa
end
/-
  A flash whose first bytes of a sector are others; two elements of some cells.
-/
section
namespace Go.Sl

section
variable {X : Cx} {β : Base} {n : Nat} {ds : List Deferred} {ops : Array Oper} {Q : Exit → Act → World → Prop} {Γ : Env} {R H : List Pr} {rest : List Oper}
end

theorem UOk.of {f g : Fl} {us : List Int} (h : UOk f us) (hl : g.data.length = f.data.length) : UOk g us := ⟨h.l, fun s hs => by rw [hl]; exact h.r s hs⟩
theorem Caps.of {f g : Fl} {a : Fa} (h : Caps f a) (hl : g.data.length = f.data.length) (hz : g.size = f.size) : Caps g a := fun i hi => by rw [hz]; exact h i (by rwa [hl] at hi)
end Go.Sl
end
/-
  The contract of SavedChains.
-/
section
namespace Go.Proofs.Ythfjkdgopkmgoaa
open Go.Sl

theorem chg_g (BA LA : Option Addr) (b : List UInt8) (l : List (UInt8 × UInt8)) (bc lc m n : Nat) (hm : b.length = m) (hn0 : 1 ≤ n) (hn : n ≤ 100000) :
    Ctr X 20 [.slice BA m bc, .slice LA l.length lc, .int .i64 (n : Int)] [Rd BA (U8 b), Rd LA (pairsV l)] []
      (fun v R' H' => ∃ (O N : Option Addr) (oc nc : Nat), v = .agg (List.toArray [.int .i64 0, .slice O n oc, .slice N n nc]) ∧ R' = [] ∧ H' = [Own 5 1 O n oc (U8 (oldN b n)), Own 5 1 N n nc (U8 (newL b l n))]) := by
  subst hm
  exact chg21_c BA LA b l bc lc n hn0 hn
end Go.Proofs.Ythfjkdgopkmgoaa
end
