/-
  Moved code, as plain lists.
-/
import Derived.Test.YtbkmahjhhncfcaaGreatQLag
import Derived.Test.YtbkmahjhhncfcaaGreatQWLaL
import Derived.Test.YtbkmahjhhncfcaaGreatQOg
section
namespace Go.Sl

def mvN (at_ by_ : Nat) (n : Int) : Int := if 4 * (at_ : Int) ≤ n then n + 4 * (by_ : Int) else n
def moveF (x : Lf) (at_ by_ : Nat) : Lf := ⟨x.ws.take at_ ++ List.replicate by_ 0 ++ x.ws.drop at_, x.ms.take at_ ++ List.replicate by_ false ++ x.ms.drop at_, x.ls.map (mvN at_ by_)⟩
def movOk (b : List UInt8) (p q : Int) : Prop := codeB b ∧ 0 ≤ p ∧ p ≤ ((liftR b).ws.length : Int) ∧ 0 ≤ q ∧ q ≤ 16384 - ((liftR b).ws.length : Int)
instance (b : List UInt8) (p q : Int) : Decidable (movOk b p q) := by unfold movOk; infer_instance
def movB (b : List UInt8) (p q : Int) : List UInt8 := if movOk b p q then lowB (moveF (liftR b) p.toNat q.toNat) else []
def movC (b : List UInt8) (p q : Int) : Int := if movOk b p q then lowC (moveF (liftR b) p.toNat q.toNat) else 30
theorem moveF_lens (x : Lf) {at_ by_ : Nat} (h : at_ ≤ x.ws.length) (hm : x.ms.length = x.ws.length) : (moveF x at_ by_).ws.length = x.ws.length + by_ ∧ (moveF x at_ by_).ms.length = x.ms.length + by_ ∧ (moveF x at_ by_).ls.length = x.ls.length := by
 unfold moveF
 refine ⟨?_, ?_, List.length_map _⟩
 · rw [List.length_append, List.length_append, List.length_take, List.length_replicate, List.length_drop]; omega
 · rw [List.length_append, List.length_append, List.length_take, List.length_replicate, List.length_drop]; omega
theorem moveF_w32 {x : Lf} (h : W32 x.ws) (at_ by_ : Nat) : W32 (moveF x at_ by_).ws := ((h.take at_).app (W32.rep by_)).app (h.drop at_)
/-- What a program has made of the labels so far. -/
def mvL (ls : List Int) (at_ by_ k : Nat) : List Int := (ls.take k).map (mvN at_ by_) ++ ls.drop k
theorem mvL_zero (ls : List Int) (at_ by_ : Nat) : mvL ls at_ by_ 0 = ls := by simp [mvL]
theorem mvL_all (ls : List Int) (at_ by_ : Nat) : mvL ls at_ by_ ls.length = ls.map (mvN at_ by_) := by simp [mvL]
theorem mvL_len (ls : List Int) (at_ by_ : Nat) {k : Nat} (h : k ≤ ls.length) : (mvL ls at_ by_ k).length = ls.length := by
 unfold mvL
 rw [List.length_append, List.length_map, List.length_take, List.length_drop]
 omega
theorem mvL_at (ls : List Int) (at_ by_ : Nat) {k : Nat} (h : k < ls.length) : (mvL ls at_ by_ k).getD k 0 = ls.getD k 0 := by
 unfold mvL
 rw [getD_app_right _ _ _ (show k = ((ls.take k).map (mvN at_ by_)).length + 0 by rw [List.length_map, List.length_take]; omega), getD_drop, Nat.add_zero]
theorem mvL_form (ls : List Int) (at_ by_ : Nat) {k : Nat} (h : k < ls.length) : mvL ls at_ by_ (k + 1) = (ls.take k).map (mvN at_ by_) ++ mvN at_ by_ (ls.getD k 0) :: ls.drop (k + 1) := by
 unfold mvL
 rw [take_snoc' ls 0 k h, List.map_append, List.append_assoc]
 rfl
theorem mvL_old (ls : List Int) (at_ by_ : Nat) {k : Nat} (h : k < ls.length) : mvL ls at_ by_ k = (ls.take k).map (mvN at_ by_) ++ ls.getD k 0 :: ls.drop (k + 1) := by
 unfold mvL
 rw [List.drop_eq_getElem_cons h]
 simp [h]
theorem mvL_set (ls : List Int) (at_ by_ : Nat) {k : Nat} (h : k < ls.length) : (mvL ls at_ by_ k).set k (mvN at_ by_ (ls.getD k 0)) = mvL ls at_ by_ (k + 1) := by
 rw [mvL_form ls at_ by_ h, mvL_old ls at_ by_ h]
 have hk : k = ((ls.take k).map (mvN at_ by_)).length := by rw [List.length_map, List.length_take]; omega
 conv => lhs; arg 2; rw [hk]
 rw [set_at]
theorem mvL_skip (ls : List Int) (at_ by_ : Nat) {k : Nat} (h : k < ls.length) (hn : mvN at_ by_ (ls.getD k 0) = ls.getD k 0) : mvL ls at_ by_ (k + 1) = mvL ls at_ by_ k := by
 rw [mvL_form ls at_ by_ h, mvL_old ls at_ by_ h, hn]
theorem liftR_range {b : List UInt8} {x : Int} (h : x ∈ (liftR b).ls) : 0 ≤ x ∧ x < 65536 := by
 unfold liftR at h
 split at h
 · rename_i hc
   have := labs_range h
   rw [wordsF_len] at this
   have := hc.2
   omega
 · cases h
theorem liftR_label {b : List UInt8} {k : Nat} (h : k < (liftR b).ls.length) : 0 ≤ (liftR b).ls.getD k 0 ∧ (liftR b).ls.getD k 0 < 65536 := by
 refine liftR_range (b := b) ?_
 rw [List.getD_eq_getElem?_getD, List.getElem?_eq_getElem h]
 exact List.getElem_mem h
theorem liftR_marks (b : List UInt8) : (liftR b).ms.length = (liftR b).ws.length := by
 unfold liftR
 split
 · have := liftF_lens (wordsF b); omega
 · rfl
theorem liftR_w32 (b : List UInt8) : W32 (liftR b).ws := by
 unfold liftR
 split
 · rename_i h
   exact liftF_w32 (by rw [wordsF_len]; have := h.2; omega) (wordsF_w32 b)
 · intro i; simp [Lf.zero]
theorem cut_at {α : Type} (x : List α) (k : Nat) (h : k ≤ x.length) : ∃ a b, x = a ++ b ∧ a.length = k :=
 ⟨x.take k, x.drop k, (List.take_append_drop k x).symm, by rw [List.length_take]; omega⟩
theorem ins_many {α : Type} (x y : List α) (k n m : Nat) (z : α) (hn : x.length = n) (hm : y.length = m) (h : k ≤ n) :
   ((x.take k ++ List.replicate (n + m - k) z).take k ++ y ++ (x.take k ++ List.replicate (n + m - k) z).drop (k + y.length)).take (k + m) ++ x.drop k ++ ((x.take k ++ List.replicate (n + m - k) z).take k ++ y ++ (x.take k ++ List.replicate (n + m - k) z).drop (k + y.length)).drop (k + m + (x.drop k).length) = x.take k ++ y ++ x.drop k := by
 subst hn hm
 obtain ⟨a, b, rfl, rfl⟩ := cut_at x k h
 have e2 : (a ++ b).drop a.length = b := List.drop_left
 have e3 : (a ++ b).take a.length = a := List.take_left
 have e0 : (a ++ b).length + y.length - a.length = y.length + b.length := by rw [List.length_append]; omega
 rw [e0, e2, e3]
 have e4 : (a ++ List.replicate (y.length + b.length) z).take a.length = a := List.take_left
 have e5 : (a ++ List.replicate (y.length + b.length) z).drop (a.length + y.length) = List.replicate b.length z := by
   rw [← List.replicate_append_replicate, ← List.append_assoc, show a.length + y.length = (a ++ List.replicate y.length z).length by simp, List.drop_left]
 rw [e4, e5]
 have e6 : (a ++ y ++ List.replicate b.length z).take (a.length + y.length) = a ++ y := by rw [show a.length + y.length = (a ++ y).length by simp, List.take_left]
 have e7 : (a ++ y ++ List.replicate b.length z).drop (a.length + y.length + b.length) = [] := List.drop_eq_nil_of_le (by simp; omega)
 rw [e6, e7, List.append_nil]
end Go.Sl
end
/-
  Insert of several values.
-/
section
namespace Go.Proofs.YtbkmahjhhncfcaaGreat
open Go.Sl

set_option maxHeartbeats 1000000 in
theorem insertW_c (A V : Option Addr) (n m k : Nat) (xs ys : List Value) (h1 : ∀ v ∈ xs, v.oneCell' = true) (h2 : ∀ v ∈ ys, v.oneCell' = true) (hx : xs.length = n) (hy : ys.length = m) (hn : n + m ≤ 1000000) (hk : k ≤ n) :
   Ctr X 59 [.slice A n n, .int .i64 (k : Int), .slice V m m] [] [Own 73 1 A n n xs, Own 73 1 V m m ys] (fun v R' H' => ∃ (A' : Option Addr) (c' : Nat), v = .slice A' (n + m) c' ∧ R' = [] ∧ H' = [Own 73 1 A' (n + m) c' (xs.take k ++ ys ++ xs.drop k)]) := by
 refine Ctr.of (X := X) (fn := Tryz.f59) Tryz.func59 rfl (by kernel_rfl) rfl ?_
 intro β
 refine C.seq (C.region ?_); refine Lpu rfl rfl ?_; refine L.nil (QE.seq (C.seq (C.region ?_))); refine Lpu rfl rfl ?_; refine Lpu rfl rfl ?_; refine L.step (Ev.sliceL (l := k) rfl rfl rfl rfl rfl (by omega) (by omega)) rfl ?_; refine L.nil (QE.seq (C.seq (C.region ?_))); refine Lpu rfl rfl ?_; refine Lpu rfl rfl ?_; refine Lpu rfl rfl ?_; refine L.nil (QE.seq (C.seq (C.seq (C.region ?_)))); refine Lpu rfl rfl ?_; refine Lpu rfl rfl ?_; refine L.nil (QE.seq ?_)
 refine C.condB 16 rfl (fun hc16 => ?_) (fun hc16 => ?_)
 ·
  replace hc16 := i_eq hc16
  refine C.seq (C.region ?_); refine Lpu rfl rfl ?_; refine Lpu rfl rfl ?_; refine L.nil (QE.seq (C.ret (QE.tR ?_))); refine QE.ret (js := []) (hs := [0]) (vs := [_]) rfl ⟨rfl, trivial⟩ (by decide) ?_
  obtain rfl : m = 0 := by omega
  obtain rfl : ys = [] := List.length_eq_zero_iff.1 hy
  rw [List.append_nil, List.take_append_drop]
  exact ⟨A, n, rfl, rfl, rfl⟩
 ·
  replace hc16 := i_ne hc16
  refine C.skip (QE.seq (C.seq (C.region ?_))); refine Lpu rfl rfl ?_; refine Lpu rfl rfl ?_; refine Lpu rfl rfl ?_; refine L.nil (QE.seq (C.seq (C.seq (C.region ?_)))); refine Lpu rfl rfl ?_; refine Lpu rfl rfl ?_; refine Lpu rfl rfl ?_; refine L.nil (QE.seq ?_)
  refine C.condB 22 rfl (fun hc22 => ?_) (fun hc22 => ?_)
  ·
   replace hc22 := i_eq hc22
   refine C.seq (C.region ?_); refine Lpu rfl rfl ?_; refine Lpu rfl rfl ?_
   refine L.append (j := 0) rfl rfl rfl rfl (by decide) rfl rfl rfl rfl (Src.o 1 rfl) (by rw [hy]; exact (Nat.mul_one _).symm) h2 (by omega) (by show _ * 4 ≤ _; omega) rfl (fun A25 cc25 => ?_)
   refine Lpu rfl rfl ?_; refine L.nil (QE.seq (C.ret (QE.tR ?_))); refine QE.ret (js := []) (hs := [0]) (vs := [_]) rfl ⟨rfl, trivial⟩ (by decide) ?_
   have hkx : k = n := by omega
   rw [hkx, ← hx, List.take_length, List.drop_length, List.append_nil]
   rw [hx]
   exact ⟨A25, cc25, rfl, rfl, rfl⟩
  ·
   replace hc22 := i_ne hc22
   refine C.skip (QE.seq (C.seq (C.seq (C.region ?_)))); refine Lpu rfl rfl ?_; refine Lpu rfl rfl ?_; refine L.step (Ev.add rfl rfl (by omega) (by omega)) rfl ?_; refine Lpu rfl rfl ?_; refine L.step (Ev.capS rfl rfl rfl) rfl ?_; refine Lpu rfl rfl ?_; refine L.nil (QE.seq ?_)
   refine C.condB 31 rfl (fun hc31 => ?_) (fun hc31 => ?_)
   ·
    replace hc31 := of_decide_eq_true hc31
    refine C.seq (C.region ?_); refine Lpu rfl rfl ?_; refine Lpu rfl rfl ?_; refine L.step (Ev.sliceH (h := k) rfl rfl rfl rfl rfl rfl (by omega)) rfl ?_; refine Lpu rfl rfl ?_; refine Lpu rfl rfl ?_; refine L.step (Ev.add rfl rfl (by omega) (by omega)) rfl ?_; refine Lpu rfl rfl ?_; refine L.step (Ev.cast (u := .int .i64 (((n + m - k) : Nat) : Int)) (Ev.sub rfl rfl (by omega) (by omega)) (congrArg (Value.int .i64) (by omega))) rfl ?_
    refine L.appendZ (j := 0) (z := .int .u32 0) rfl rfl rfl rfl rfl rfl rfl rfl rfl rfl rfl (by omega) (by omega) (by omega) (by omega) (by omega) (by show _ * 4 ≤ _; omega) rfl (fun A40 cc40 => ?_)
    refine Lpu rfl rfl ?_; refine L.nil (QE.seq (C.seq ?_))
    refine C.cap 2 rfl (fun h40 => ?_)
    refine C.region ?_; refine Lpu rfl rfl ?_; refine Lpu rfl rfl ?_; refine L.step (Ev.sliceL (l := k) rfl rfl rfl rfl rfl (by omega) (by omega)) rfl ?_; refine Lpu rfl rfl ?_; refine L.copy (j := 2) (o := k) rfl rfl rfl rfl rfl (fun g h _ => by rw [h]; exact subA_atX (by omega)) rfl rfl (Src.o 1 rfl) (by omega) h2 (by rw [List.length_append, List.length_take, List.length_replicate]; omega) rfl ?_; refine L.nil (QE.seq (C.seq ?_)); refine C.regionM [] trivial ?_; refine LM.q 0 rfl (by kernel_rfl) (Ev.pure rfl) rfl trivial ?_; refine LM.q 1 rfl (by kernel_rfl) (Ev.pure rfl) rfl trivial ?_; refine LM.q 2 rfl (by kernel_rfl) (Ev.pure rfl) rfl trivial ?_; refine LM.q 3 rfl (by kernel_rfl) (Ev.add rfl rfl (by omega) (by omega)) rfl trivial ?_; refine LM.q 4 rfl (by kernel_rfl) (Ev.sliceL (l := k + m) rfl rfl rfl rfl rfl (by omega) (by omega)) rfl trivial ?_; refine LM.q 5 rfl (by kernel_rfl) (Ev.pure rfl) rfl trivial ?_; refine LM.f 6 rfl (by kernel_rfl) trivial ?_; refine Lpu rfl rfl ?_
    refine L.nil (QE.m (by kernel_rfl) ?_)
    refine LM.f 7 rfl (by kernel_rfl) trivial ?_; refine L.step (Ev.sliceL (l := k) rfl rfl rfl rfl rfl (by omega) (by omega)) rfl ?_
    refine L.nil (QE.m (by kernel_rfl) ?_)
    refine LM.f 8 rfl (by kernel_rfl) trivial ?_; refine L.copy (j := 2) (o := k + m) rfl rfl rfl rfl rfl (fun g h _ => by rw [h]; exact subA_atX (by omega)) rfl rfl ((Src.sub (Src.o 0 rfl) n k 1 (by omega)).cast (by rw [Nat.mul_one])) (by rw [List.length_drop]; omega) (fun v hv => h1 v (List.mem_of_mem_drop hv)) (by simp only [List.length_append, List.length_take, List.length_drop, List.length_replicate]; omega) rfl ?_
    refine L.nil (QE.m (by kernel_rfl) ?_)
    refine LM.nil (by kernel_rfl) trivial ?_; refine QE.seq (C.seq (C.region ?_)); refine Lpu rfl rfl ?_; refine Lpu rfl rfl ?_; refine L.nil (QE.seq (C.ret (QE.tR ?_))); refine QE.ret (js := []) (hs := [2]) (vs := [_]) rfl ⟨rfl, trivial⟩ (by decide) ?_
    have e := ins_many xs ys k n m (.int .u32 0) hx hy hk
    refine ⟨A40, cc40, congrArg (fun n => Value.slice A40 n cc40) (by omega), rfl, ?_⟩
    exact congrArg (fun z => [z]) (own_eq2 (by omega) e)
   ·
    replace hc31 := of_decide_eq_false hc31
    omega

set_option maxHeartbeats 1000000 in
theorem insertB_c (A V : Option Addr) (n m k : Nat) (xs ys : List Value) (h1 : ∀ v ∈ xs, v.oneCell' = true) (h2 : ∀ v ∈ ys, v.oneCell' = true) (hx : xs.length = n) (hy : ys.length = m) (hn : n + m ≤ 1000000) (hk : k ≤ n) :
   Ctr X 60 [.slice A n n, .int .i64 (k : Int), .slice V m m] [] [Own 4 1 A n n xs, Own 4 1 V m m ys] (fun v R' H' => ∃ (A' : Option Addr) (c' : Nat), v = .slice A' (n + m) c' ∧ R' = [] ∧ H' = [Own 4 1 A' (n + m) c' (xs.take k ++ ys ++ xs.drop k)]) := by
 refine Ctr.of (X := X) (fn := Tryz.f60) Tryz.func60 rfl (by kernel_rfl) rfl ?_
 intro β
 refine C.seq (C.region ?_); refine Lpu rfl rfl ?_; refine L.nil (QE.seq (C.seq (C.region ?_))); refine Lpu rfl rfl ?_; refine Lpu rfl rfl ?_; refine L.step (Ev.sliceL (l := k) rfl rfl rfl rfl rfl (by omega) (by omega)) rfl ?_; refine L.nil (QE.seq (C.seq (C.region ?_))); refine Lpu rfl rfl ?_; refine Lpu rfl rfl ?_; refine Lpu rfl rfl ?_; refine L.nil (QE.seq (C.seq (C.seq (C.region ?_)))); refine Lpu rfl rfl ?_; refine Lpu rfl rfl ?_; refine L.nil (QE.seq ?_)
 refine C.condB 16 rfl (fun hc16 => ?_) (fun hc16 => ?_)
 ·
  replace hc16 := i_eq hc16
  refine C.seq (C.region ?_); refine Lpu rfl rfl ?_; refine Lpu rfl rfl ?_; refine L.nil (QE.seq (C.ret (QE.tR ?_))); refine QE.ret (js := []) (hs := [0]) (vs := [_]) rfl ⟨rfl, trivial⟩ (by decide) ?_
  obtain rfl : m = 0 := by omega
  obtain rfl : ys = [] := List.length_eq_zero_iff.1 hy
  rw [List.append_nil, List.take_append_drop]
  exact ⟨A, n, rfl, rfl, rfl⟩
 ·
  replace hc16 := i_ne hc16
  refine C.skip (QE.seq (C.seq (C.region ?_))); refine Lpu rfl rfl ?_; refine Lpu rfl rfl ?_; refine Lpu rfl rfl ?_; refine L.nil (QE.seq (C.seq (C.seq (C.region ?_)))); refine Lpu rfl rfl ?_; refine Lpu rfl rfl ?_; refine Lpu rfl rfl ?_; refine L.nil (QE.seq ?_)
  refine C.condB 22 rfl (fun hc22 => ?_) (fun hc22 => ?_)
  ·
   replace hc22 := i_eq hc22
   refine C.seq (C.region ?_); refine Lpu rfl rfl ?_; refine Lpu rfl rfl ?_
   refine L.append (j := 0) rfl rfl rfl rfl (by decide) rfl rfl rfl rfl (Src.o 1 rfl) (by rw [hy]; exact (Nat.mul_one _).symm) h2 (by omega) (by show _ * 1 ≤ _; omega) rfl (fun A25 cc25 => ?_)
   refine Lpu rfl rfl ?_; refine L.nil (QE.seq (C.ret (QE.tR ?_))); refine QE.ret (js := []) (hs := [0]) (vs := [_]) rfl ⟨rfl, trivial⟩ (by decide) ?_
   have hkx : k = n := by omega
   rw [hkx, ← hx, List.take_length, List.drop_length, List.append_nil]
   rw [hx]
   exact ⟨A25, cc25, rfl, rfl, rfl⟩
  ·
   replace hc22 := i_ne hc22
   refine C.skip (QE.seq (C.seq (C.seq (C.region ?_)))); refine Lpu rfl rfl ?_; refine Lpu rfl rfl ?_; refine L.step (Ev.add rfl rfl (by omega) (by omega)) rfl ?_; refine Lpu rfl rfl ?_; refine L.step (Ev.capS rfl rfl rfl) rfl ?_; refine Lpu rfl rfl ?_; refine L.nil (QE.seq ?_)
   refine C.condB 31 rfl (fun hc31 => ?_) (fun hc31 => ?_)
   ·
    replace hc31 := of_decide_eq_true hc31
    refine C.seq (C.region ?_); refine Lpu rfl rfl ?_; refine Lpu rfl rfl ?_; refine L.step (Ev.sliceH (h := k) rfl rfl rfl rfl rfl rfl (by omega)) rfl ?_; refine Lpu rfl rfl ?_; refine Lpu rfl rfl ?_; refine L.step (Ev.add rfl rfl (by omega) (by omega)) rfl ?_; refine Lpu rfl rfl ?_; refine L.step (Ev.cast (u := .int .i64 (((n + m - k) : Nat) : Int)) (Ev.sub rfl rfl (by omega) (by omega)) (congrArg (Value.int .i64) (by omega))) rfl ?_
    refine L.appendZ (j := 0) (z := .bool false) rfl rfl rfl rfl rfl rfl rfl rfl rfl rfl rfl (by omega) (by omega) (by omega) (by omega) (by omega) (by show _ * 1 ≤ _; omega) rfl (fun A40 cc40 => ?_)
    refine Lpu rfl rfl ?_; refine L.nil (QE.seq (C.seq ?_))
    refine C.cap 2 rfl (fun h40 => ?_)
    refine C.region ?_; refine Lpu rfl rfl ?_; refine Lpu rfl rfl ?_; refine L.step (Ev.sliceL (l := k) rfl rfl rfl rfl rfl (by omega) (by omega)) rfl ?_; refine Lpu rfl rfl ?_; refine L.copy (j := 2) (o := k) rfl rfl rfl rfl rfl (fun g h _ => by rw [h]; exact subA_atX (by omega)) rfl rfl (Src.o 1 rfl) (by omega) h2 (by rw [List.length_append, List.length_take, List.length_replicate]; omega) rfl ?_; refine L.nil (QE.seq (C.seq ?_)); refine C.regionM [] trivial ?_; refine LM.q 0 rfl (by kernel_rfl) (Ev.pure rfl) rfl trivial ?_; refine LM.q 1 rfl (by kernel_rfl) (Ev.pure rfl) rfl trivial ?_; refine LM.q 2 rfl (by kernel_rfl) (Ev.pure rfl) rfl trivial ?_; refine LM.q 3 rfl (by kernel_rfl) (Ev.add rfl rfl (by omega) (by omega)) rfl trivial ?_; refine LM.q 4 rfl (by kernel_rfl) (Ev.sliceL (l := k + m) rfl rfl rfl rfl rfl (by omega) (by omega)) rfl trivial ?_; refine LM.q 5 rfl (by kernel_rfl) (Ev.pure rfl) rfl trivial ?_; refine LM.f 6 rfl (by kernel_rfl) trivial ?_; refine Lpu rfl rfl ?_
    refine L.nil (QE.m (by kernel_rfl) ?_)
    refine LM.f 7 rfl (by kernel_rfl) trivial ?_; refine L.step (Ev.sliceL (l := k) rfl rfl rfl rfl rfl (by omega) (by omega)) rfl ?_
    refine L.nil (QE.m (by kernel_rfl) ?_)
    refine LM.f 8 rfl (by kernel_rfl) trivial ?_; refine L.copy (j := 2) (o := k + m) rfl rfl rfl rfl rfl (fun g h _ => by rw [h]; exact subA_atX (by omega)) rfl rfl ((Src.sub (Src.o 0 rfl) n k 1 (by omega)).cast (by rw [Nat.mul_one])) (by rw [List.length_drop]; omega) (fun v hv => h1 v (List.mem_of_mem_drop hv)) (by simp only [List.length_append, List.length_take, List.length_drop, List.length_replicate]; omega) rfl ?_
    refine L.nil (QE.m (by kernel_rfl) ?_)
    refine LM.nil (by kernel_rfl) trivial ?_; refine QE.seq (C.seq (C.region ?_)); refine Lpu rfl rfl ?_; refine Lpu rfl rfl ?_; refine L.nil (QE.seq (C.ret (QE.tR ?_))); refine QE.ret (js := []) (hs := [2]) (vs := [_]) rfl ⟨rfl, trivial⟩ (by decide) ?_
    have e := ins_many xs ys k n m (.bool false) hx hy hk
    refine ⟨A40, cc40, congrArg (fun n => Value.slice A40 n cc40) (by omega), rfl, ?_⟩
    exact congrArg (fun z => [z]) (own_eq2 (by omega) e)
   ·
    replace hc31 := of_decide_eq_false hc31
    omega

end Go.Proofs.YtbkmahjhhncfcaaGreat
end
