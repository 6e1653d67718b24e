/-
  Made readings, as plain data.
-/
import Derived.Test.YtdkilfnbilohmaaVOd
namespace Go.Sl

def mdN (l : List UInt8) : Nat := max 1 (min l.length 6)
def mdB (l : List UInt8) (u t : Nat) : Bool := decide (t ≠ u) && (l.getD u 0).toNat.testBit t
section
variable {l : List UInt8} {u t k : Nat}
theorem NI_get {l : List Nat} {i : Nat} (h : i < l.length) : (NI l).getD i 0 = ((l[i] : Nat) : Int) := by simp [NI, h]
/-- Numbers of a range that rise are readings. -/
theorem rd_filter {n u : Nat} {p : Nat → Bool} (hp : p u = false) : rdRow n u (NI ((List.range n).filter p)) = true := by
 have hs : List.Pairwise (· < ·) ((List.range n).filter p) := List.Pairwise.filter p List.pairwise_lt_range
 rw [List.pairwise_iff_getElem] at hs
 refine rdRow_yes (fun i hi => ?_)
 rw [NI_len] at hi
 have hm := List.getElem_mem hi
 rw [List.mem_filter, List.mem_range] at hm
 unfold NotRd
 rw [NI_get hi]
 rintro (h | h | h | ⟨h, h2⟩)
 · omega
 · omega
 · have e : ((List.range n).filter p)[i] = u := by omega
   rw [e, hp] at hm
   cases hm.2
 · rw [NI_get (by omega)] at h2
   have := hs (i - 1) i (by omega) hi (by omega)
   omega
end
end Go.Sl
