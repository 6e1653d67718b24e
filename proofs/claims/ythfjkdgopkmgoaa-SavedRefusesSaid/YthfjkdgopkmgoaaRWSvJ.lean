/-
  The contracts of SavedRestores and SavedSizes.
-/
import Derived.Test.YthfjkdgopkmgoaaRWSvI
import Derived.Test.YthfjkdgopkmgoaaRPx
namespace Go.Proofs.Ythfjkdgopkmgoaa
open Go.Sl

theorem rec_g (sec : Int) (SA SB : Option Addr) (a b : List UInt8) (n m ca cb : Nat) (r : List UInt8) (e : Int) (hn : a.length = n) (hm : b.length = m) (hr : recS sec a b = r) (he : recE sec a b = e) (hca : n ≤ ca) (hal : n ≤ 9223372036854775807) (hbl : m ≤ 9223372036854775807) :
    Ctr X 21 [.int .i64 sec, .slice SA n ca, .slice SB m cb] [Rd SA (U8 a), Rd SB (U8 b)] [] (fun v R' H' => ∃ (A : Option Addr) (c : Nat), v = .tuple #[.slice A r.length c, .int .i64 e] ∧ R' = [] ∧ H' = [Own 5 1 A r.length c (U8 r)]) := by
  subst hn hm hr he
  exact record_c sec SA SB a b ca cb hca hal hbl
theorem rec21_g (sec : Int) (SA SB : Option Addr) (a b : List UInt8) (n m ca cb : Nat) (r : List UInt8) (e : Int) (hn : a.length = n) (hm : b.length = m) (hr : recS sec a b = r) (he : recE sec a b = e) (hca : n ≤ ca) (hal : n ≤ 9223372036854775807) (hbl : m ≤ 9223372036854775807) :
    Ctr X 22 [.agg (List.toArray [.int .i64 sec, .slice SA n ca, .slice SB m cb])] [Rd SA (U8 a), Rd SB (U8 b)] [] (fun v R' H' => ∃ (A : Option Addr) (c : Nat), v = .tuple #[.slice A r.length c, .int .i64 e] ∧ R' = [] ∧ H' = [Own 5 1 A r.length c (U8 r)]) := by
  subst hn hm hr he
  exact record21_c sec SA SB a b ca cb hca hal hbl
theorem res_g (SA RB : Option Addr) (b rec : List UInt8) (n ca rc : Nat) (r : List UInt8) (e : Int) (hn : b.length = n) (hr : resS b rec = r) (he : resE b rec = e) (hbl : n ≤ 900000) (hrl : rec.length ≤ 900000) (hrc : rec.length ≤ rc) :
    Ctr X 23 [.slice SA n ca, .slice RB rec.length rc] [Rd SA (U8 b), Rd RB (U8 rec)] [] (fun v R' H' => ∃ (A : Option Addr) (c : Nat), v = .tuple #[.slice A r.length c, .int .i64 e] ∧ R' = [] ∧ H' = [Own 5 1 A r.length c (U8 r)]) := by
  subst hn hr he
  exact restore_c SA RB b rec ca rc hbl hrl hrc
theorem res21_g (SA RB : Option Addr) (b rec : List UInt8) (n ca rc : Nat) (r : List UInt8) (e : Int) (hn : b.length = n) (hr : resS b rec = r) (he : resE b rec = e) (hbl : n ≤ 900000) (hrl : rec.length ≤ 900000) :
    Ctr X 24 [.slice SA n ca, .slice RB rec.length rc] [Rd SA (U8 b), Rd RB (U8 rec)] [] (fun v R' H' => ∃ (A : Option Addr) (c : Nat), v = .tuple #[.slice A r.length c, .int .i64 e] ∧ R' = [] ∧ H' = [Own 5 1 A r.length c (U8 r)]) := by
  subst hn hr he
  exact restore21_c SA RB b rec ca rc hbl hrl
theorem same_g (A B : Option Addr) (c d : Nat) (xs ys : List UInt8) (n m : Nat) (hn : xs.length = n) (hm : ys.length = m) (hx : n ≤ 9223372036854775807) (hy : m ≤ 9223372036854775807) :
    Ctr X 25 [.slice A n c, .slice B m d] [Rd A (U8 xs), Rd B (U8 ys)] [] (fun v R' H' => v = .bool (xs == ys) ∧ R' = [] ∧ H' = []) := by
  subst hn hm
  exact same_c A B c d xs ys hx hy
end Go.Proofs.Ythfjkdgopkmgoaa
