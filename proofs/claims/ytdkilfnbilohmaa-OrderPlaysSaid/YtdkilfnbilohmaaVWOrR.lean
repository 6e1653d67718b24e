/-
  Insert, anywhere.
-/
import Derived.Test.YtdkilfnbilohmaaVWOrL
import Derived.Test.YtdkilfnbilohmaaVOj
import Derived.Test.YtdkilfnbilohmaaVOk
import Derived.Test.YtdkilfnbilohmaaVSlV
import Derived.Test.YtdkilfnbilohmaaVSlX
namespace Go.Proofs.Ytdkilfnbilohmaa
open Go.Sl

theorem I64_take (l : List Int) (m : Nat) : (I64 l).take m = I64 (l.take m) := by simp [I64, List.map_take]
set_option maxHeartbeats 1000000 in
theorem insert_c (A : Option Addr) (x : List Int) (c : Nat) (k : Nat) (t : Int) (V : Option Addr) (vc : Nat) (hl : x.length ≤ 1000000) (hk : k ≤ x.length) :
   Ctr X 18 [.slice A x.length c, .int .i64 (k : Int), .slice V 1 vc] [] [Own 3 1 A x.length c (I64 x), Own 3 1 V 1 vc [.int .i64 t]] (fun v R' H' => ∃ (A' : Option Addr) (c' : Nat), v = .slice A' (x.length + 1) c' ∧ R' = [] ∧ H' = [Own 3 1 A' (x.length + 1) c' (I64 (x.take k ++ [t] ++ x.drop k))]) := by
 refine Ctr.of (X := X) (fn := Try.f18) Try.func18 rfl (by kernel_rfl) rfl ?_
 intro β
 refine C.seq (C.region ?_); refine Lpu rfl rfl ?_; refine L.nil (QE.seq (C.seq (C.region ?_))); refine Lpu rfl rfl ?_; refine Lpu rfl rfl ?_; refine L.step (Ev.sliceL (l := k) rfl rfl rfl rfl rfl rfl (by omega)) rfl ?_; refine L.nil (QE.seq (C.seq (C.region ?_))); refine Lpu rfl rfl ?_; refine Lpu rfl rfl ?_; refine Lpu rfl rfl ?_; refine L.nil (QE.seq (C.seq (C.seq (C.region ?_)))); refine Lpu rfl rfl ?_; refine Lpu rfl rfl ?_; refine L.nil (QE.seq ?_)
 refine C.condB 16 rfl (fun hc16 => ?_) (fun hc16 => ?_)
 ·
  replace hc16 := i_eq hc16
  omega
 ·
  replace hc16 := i_ne hc16
  refine C.skip (QE.seq (C.seq (C.region ?_))); refine Lpu rfl rfl ?_; refine Lpu rfl rfl ?_; refine Lpu rfl rfl ?_; refine L.nil (QE.seq (C.seq (C.seq (C.region ?_)))); refine Lpu rfl rfl ?_; refine Lpu rfl rfl ?_; refine Lpu rfl rfl ?_; refine L.nil (QE.seq ?_)
  refine C.condB 22 rfl (fun hc22 => ?_) (fun hc22 => ?_)
  ·
   replace hc22 := i_eq hc22
   refine C.seq (C.region ?_); refine Lpu rfl rfl ?_; refine Lpu rfl rfl ?_
   refine L.append (j := 0) rfl rfl rfl rfl (by decide) rfl rfl rfl rfl (Src.o 1 rfl) rfl (allOne rfl) (by omega) (by show _ * 8 ≤ _; omega) rfl (fun A25 cc25 => ?_)
   refine Lpu rfl rfl ?_; refine L.nil (QE.seq (C.ret (QE.tR ?_))); refine QE.ret (js := []) (hs := [0]) (vs := [_]) rfl ⟨rfl, trivial⟩ (by decide) ?_
   refine ⟨A25, cc25, rfl, rfl, ?_⟩
   have hkx : k = x.length := by omega
   rw [hkx, List.take_length, List.drop_length, List.append_nil, ← I64_app]
   rfl
  ·
   replace hc22 := i_ne hc22
   refine C.skip (QE.seq (C.seq (C.seq ?_)))
   refine C.cap 0 rfl (fun hcap => ?_)
   refine C.region ?_; refine Lpu rfl rfl ?_; refine Lpu rfl rfl ?_; refine L.step (Ev.add rfl rfl (by omega) (by omega)) rfl ?_; refine Lpu rfl rfl ?_; refine L.step (Ev.capS rfl rfl rfl) rfl ?_; refine Lpu rfl rfl ?_; refine L.nil (QE.seq ?_)
   refine C.condB 31 rfl (fun hc31 => ?_) (fun hc31 => ?_)
   ·
    replace hc31 := of_decide_eq_true hc31
    refine C.seq (C.region ?_); refine Lpu rfl rfl ?_; refine Lpu rfl rfl ?_; refine L.step (Ev.sliceH (h := k) rfl rfl rfl rfl rfl rfl (by omega)) rfl ?_; refine Lpu rfl rfl ?_; refine Lpu rfl rfl ?_; refine L.step (Ev.add rfl rfl (by omega) (by omega)) rfl ?_; refine Lpu rfl rfl ?_; refine L.step (Ev.cast (u := .int .i64 (((x.length + 1 - k) : Nat) : Int)) (Ev.sub rfl rfl (by omega) (by omega)) (congrArg (Value.int .i64) (by omega))) rfl ?_
    refine L.appendZ (j := 0) rfl rfl rfl rfl rfl rfl rfl rfl rfl rfl rfl (by omega) (by rw [I64_len]; omega) (by omega) (by omega) (by omega) (by show _ * 8 ≤ _; omega) rfl (fun A40 cc40 => ?_)
    refine Lpu rfl rfl ?_; refine L.nil (QE.seq (C.seq ?_))
    refine C.cap 2 rfl (fun h40 => ?_)
    refine C.region ?_; refine Lpu rfl rfl ?_; refine Lpu rfl rfl ?_; refine L.step (Ev.sliceL (l := k) rfl rfl rfl rfl rfl rfl (by omega)) rfl ?_; refine Lpu rfl rfl ?_; refine L.copy (j := 2) (o := k) rfl rfl rfl rfl rfl (fun g h _ => by rw [h]; exact subA_at (by omega)) rfl rfl (Src.o 1 rfl) (by simp; omega) (allOne rfl) (by rw [List.length_append, List.length_take, List.length_replicate, I64_len]; simp; omega) rfl ?_; refine L.nil (QE.seq (C.seq ?_)); refine C.regionM [] trivial ?_; refine LM.q 0 rfl (by kernel_rfl) (Ev.pure rfl) rfl trivial ?_; refine LM.q 1 rfl (by kernel_rfl) (Ev.pure rfl) rfl trivial ?_; refine LM.q 2 rfl (by kernel_rfl) (Ev.pure rfl) rfl trivial ?_; refine LM.q 3 rfl (by kernel_rfl) (Ev.add rfl rfl (by omega) (by omega)) rfl trivial ?_; refine LM.q 4 rfl (by kernel_rfl) (Ev.sliceL (l := k + 1) rfl rfl rfl rfl rfl (by omega) (by omega)) rfl trivial ?_; refine LM.q 5 rfl (by kernel_rfl) (Ev.pure rfl) rfl trivial ?_; refine LM.f 6 rfl (by kernel_rfl) trivial ?_; refine Lpu rfl rfl ?_
    refine L.nil (QE.m (by kernel_rfl) ?_)
    refine LM.f 7 rfl (by kernel_rfl) trivial ?_; refine L.step (Ev.sliceL (l := k) rfl rfl rfl rfl rfl rfl (by omega)) rfl ?_
    refine L.nil (QE.m (by kernel_rfl) ?_)
    refine LM.f 8 rfl (by kernel_rfl) trivial ?_; refine L.copy (j := 2) (o := k + 1) rfl rfl rfl rfl rfl (fun g h _ => by rw [h]; exact subA_at (by omega)) rfl rfl ((Src.sub (Src.o 0 rfl) c k 1 (by rw [I64_len]; omega)).cast (by rw [Nat.mul_one])) (by rw [List.length_drop, I64_len]; omega) (fun v hv => I64_one _ v (List.mem_of_mem_drop hv)) (by simp [I64_len]; omega) rfl ?_
    refine L.nil (QE.m (by kernel_rfl) ?_)
    refine LM.nil (by kernel_rfl) trivial ?_; refine QE.seq (C.seq (C.region ?_)); refine Lpu rfl rfl ?_; refine Lpu rfl rfl ?_; refine L.nil (QE.seq (C.ret (QE.tR ?_))); refine QE.ret (js := []) (hs := [2]) (vs := [_]) rfl ⟨rfl, trivial⟩ (by decide) ?_
    have e := ins_grow (I64 x) k (.int .i64 t) (.int .i64 0) (by rw [I64_len]; exact hk)
    rw [I64_len] at e
    refine ⟨A40, cc40, congrArg (fun n => Value.slice A40 n cc40) (by omega), rfl, ?_⟩
    rw [← I64_app, ← I64_app, ← I64_drop, ← I64_take]
    exact congrArg (fun z => [z]) (own_eq (by omega) e)
   ·
    replace hc31 := of_decide_eq_false hc31
    refine C.skip (QE.seq (C.seq (C.region ?_))); refine Lpu rfl rfl ?_; refine Lpu rfl rfl ?_; refine Lpu rfl rfl ?_; refine L.step (Ev.add rfl rfl (by omega) (by omega)) rfl ?_; refine L.step (Ev.sliceH (h := x.length + 1) rfl rfl rfl rfl rfl (by omega) (by omega)) rfl ?_; refine Lpu rfl rfl ?_; refine L.nil (QE.seq (C.seq (C.seq ?_)))
    refine C.spare (by omega) (fun u => ?_)
    refine C.region ?_; refine Lpu rfl rfl ?_; refine Lpu rfl rfl ?_; refine Lpu rfl rfl ?_; refine Lpu rfl rfl ?_; refine L.step (Ev.add rfl rfl (by omega) (by omega)) rfl ?_; refine L.step (Ev.sliceL (l := k + 1) rfl rfl rfl rfl rfl (by omega) (by omega)) rfl ?_; refine L.overlaps (i := 1) (j := 0) (o := k + 1) (t := 40) (e := 3) (tR := 4) (fn := Try.f31) Try.func31 (by kernel_rfl) (by kernel_rfl) (by kernel_rfl) (by kernel_rfl) rfl rfl rfl rfl rfl rfl rfl rfl (by decide) (fun g h => by rw [h]; exact subA_at (by omega)) (Nat.zero_lt_succ _) (by simp) rfl ?_; refine Lpu rfl rfl ?_; refine L.nil (QE.seq ?_)
    refine C.cond rfl (fun _ => ?_) (fun h => by cases h)
    refine C.seq ?_; refine C.regionM [] trivial ?_; refine LM.q 0 rfl (by kernel_rfl) (Ev.pure rfl) rfl trivial ?_; refine LM.q 1 rfl (by kernel_rfl) (Ev.pure rfl) rfl trivial ?_; refine LM.q 2 rfl (by kernel_rfl) (Ev.pure rfl) rfl trivial ?_; refine LM.q 3 rfl (by kernel_rfl) (Ev.add rfl rfl (by omega) (by omega)) rfl trivial ?_; refine LM.q 4 rfl (by kernel_rfl) (Ev.sliceL (l := k + 1) rfl rfl rfl rfl rfl (by omega) (by omega)) rfl trivial ?_; refine LM.q 5 rfl (by kernel_rfl) (Ev.pure rfl) rfl trivial ?_; refine LM.f 6 rfl (by kernel_rfl) trivial ?_; refine Lpu rfl rfl ?_
    refine L.nil (QE.m (by kernel_rfl) ?_)
    refine LM.f 7 rfl (by kernel_rfl) trivial ?_; refine L.step (Ev.sliceL (l := k) rfl rfl rfl rfl rfl rfl (by omega)) rfl ?_
    refine L.nil (QE.m (by kernel_rfl) ?_)
    refine LM.f 8 rfl (by kernel_rfl) trivial ?_; refine L.copy (j := 0) (o := k + 1) (ys := (I64 x).drop k) rfl rfl rfl rfl rfl (fun g h _ => by rw [h]; exact subA_at (by omega)) rfl rfl (((Src.sub (Src.o 0 rfl) c k 1 (by rw [List.length_append, I64_len]; simp; omega)).take (x.length - k)).cast (by rw [Nat.mul_one, List.drop_append_of_le_length (by rw [I64_len]; omega), List.take_append_of_le_length (by rw [List.length_drop, I64_len]; omega), List.take_of_length_le (by rw [List.length_drop, I64_len]; omega)])) (by rw [List.length_drop, I64_len]; omega) (fun v hv => I64_one _ v (List.mem_of_mem_drop hv)) (by simp [I64_len]; omega) rfl ?_
    refine L.nil (QE.m (by kernel_rfl) ?_)
    refine LM.nil (by kernel_rfl) trivial ?_; refine QE.seq (C.seq (C.region ?_)); refine Lpu rfl rfl ?_; refine Lpu rfl rfl ?_; refine L.step (Ev.sliceL (l := k) rfl rfl rfl rfl rfl rfl (by omega)) rfl ?_; refine Lpu rfl rfl ?_; refine L.copy (j := 0) (o := k) rfl rfl rfl rfl rfl (fun g h _ => by rw [h]; exact subA_at (by omega)) rfl rfl (Src.o 1 rfl) (by simp; omega) (allOne rfl) (by simp [I64_len]; omega) rfl ?_; refine L.nil (QE.seq (C.seq (C.region ?_))); refine Lpu rfl rfl ?_; refine Lpu rfl rfl ?_; refine L.nil (QE.seq (C.ret (QE.tR ?_))); refine QE.ret (js := []) (hs := [0]) (vs := [_]) rfl ⟨rfl, trivial⟩ (by decide) ?_
    have e := ins_shift (I64 x) k (.int .i64 t) u (by rw [I64_len]; omega)
    refine ⟨A, c, rfl, rfl, ?_⟩
    rw [← I64_app, ← I64_app, ← I64_drop, ← I64_take]
    exact congrArg (fun z => [z]) (own_eq rfl e)

end Go.Proofs.Ytdkilfnbilohmaa
