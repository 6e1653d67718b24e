/-
  The contract of SavedRefuses.
-/
import Derived.Test.YthfjkdgopkmgoaaRWSvL
namespace Go.Proofs.Ythfjkdgopkmgoaa
open Go.Sl

theorem Ev.fieldAddrS {β : Base} {Γ : Env} {R H : List Pr} {t f k m c l : Nat} {x : Operand} {i fi : Ti} {fs : Array Field} {fd : Field} {A : Option Addr} {xs : List Value} (hcl : c ≠ l) (ht : tlook t X.tab = some i) (hd : i.desc = .struct fs) (hf : fs[f]? = some fd)
    (hft : tlook fd.type X.tab = some fi) (hfs : Nat.blt 0 fi.size = true) (hx : ev Γ x = some (ptrOf A k)) (hs : Src R H (subA A c l 1) xs) (h0 : 0 < xs.length) (hm : k + fd.offset = m) : Ev X β Γ R H (.fieldAddr t x f) (ptrOf A m) := by
  intro ρ w hρ hw o ho
  obtain ⟨u0, hu0⟩ : ∃ u, xs[0]? = some u := ⟨_, List.getElem?_eq_getElem h0⟩
  obtain ⟨a', ha', _⟩ := hs β w hw _ _ hu0
  unfold subA at ha'
  rw [if_neg hcl] at ha'
  obtain ⟨a, rfl⟩ : ∃ a, A = some a := by
    cases A with
    | none => cases ha'
    | some a => exact ⟨a, rfl⟩
  have hx' : ρ x = .pointer (some (a.add k)) := hρ _ _ hx
  have e1 := (X.ok _ _ ht).und
  rw [hd] at e1
  have hS := run_sizeOf' (P := X.P) w (X.ok _ _ hft)
  have hz : ¬ fi.size = 0 := by rw [Nat.blt_eq] at hfs; omega
  subst hm
  simp [execOp, ho, hx', Instr.fieldAt, Instr.sureAddr, run_underlying e1, hf, fieldPlace, hS, hz, addadd, ptrOf]
theorem sh_ptr (A : Option Addr) : ptrOf (subA A 9 2 1) 0 = ptrOf A 2 := by
  unfold ptrOf subA
  rw [if_neg (by decide)]
  cases A with
  | none => rfl
  | some a => simp [Addr.add]
theorem lst3_len {r : List UInt8} {i k : Nat} {x y : UInt8} (hi : i < r.length) (hr : r.length ≤ 20485) (hk : k < 3) : ([r.set i x, r.take i, r.set i x ++ [y]].getD k []).length ≤ 900000 := by
  rcases k with _ | _ | _ | k
  · show (r.set i x).length ≤ _
    rw [List.length_set]; omega
  · show (r.take i).length ≤ _
    rw [List.length_take]; omega
  · show (r.set i x ++ [y]).length ≤ _
    rw [List.length_append, List.length_set]; simp; omega
  · omega
theorem lst3_cap {r : List UInt8} {i k ca cb cc : Nat} {x y : UInt8} {A B C : Option Addr} (hi : i < r.length) (ha : r.length ≤ ca) (hb : r.length ≤ cb) (hc : r.length + 1 ≤ cc) (hk : k < 3) :
    ([r.set i x, r.take i, r.set i x ++ [y]].getD k []).length ≤ ([(A, ca), (B, cb), (C, cc)].getD k (none, 0)).2 := by
  rcases k with _ | _ | _ | k
  · show (r.set i x).length ≤ ca
    rw [List.length_set]; exact ha
  · show (r.take i).length ≤ cb
    rw [List.length_take]; omega
  · show (r.set i x ++ [y]).length ≤ cc
    rw [List.length_append, List.length_set]; exact hc
  · omega
theorem tow_fin {f : Fl} {us : List Int} (h : Blank f us) (x y : UInt8) (hf : (((towS (byteF f (us.getD 0 0).toNat x) us 0 [255, y]).e == (210 : Int)) == (((x &&& y).toNat : Int) != (y.toNat : Int))) = false) : False := by
  rw [tow_byte h] at hf
  by_cases hc : x &&& y = y
  · rw [if_pos hc, hc] at hf
    simp at hf
  · have : (((x &&& y).toNat : Int) != (y.toNat : Int)) = true := by
      simp only [bne_iff_ne, ne_eq]
      exact fun e => hc (u8_eq.1 e)
    rw [if_neg hc, this] at hf
    simp at hf

set_option maxHeartbeats 1000000 in
theorem sRefuses_c (n0 : Int) (gl hl b : List UInt8) (GA HA BA : Option Addr) (gc hc bc : Nat) (hgc : gl.length ≤ gc) (hgl : gl.length ≤ 9223372036854775807) (hhc : hl.length ≤ hc) (hhl : hl.length ≤ 9223372036854775807) (_hbl : b.length ≤ 9223372036854775807) (w0 w1 w2 w3 : UInt8) :
    Ctr X 8 [.agg (List.toArray [.int .i64 n0, .slice GA gl.length gc, .slice HA hl.length hc]), .slice BA b.length bc, .agg (List.toArray [.int .u8 (w0.toNat : Int), .int .u8 (w1.toNat : Int), .int .u8 (w2.toNat : Int), .int .u8 (w3.toNat : Int)])] [Rd GA (U8 gl), Rd HA (U8 hl), Rd BA (U8 b)] [] (fun v R' H' => v = .bool true ∧ R' = [] ∧ H' = []) := by
  have hw0 := u8_lt w0
  have hw1 := u8_lt w1
  have hw2 := u8_lt w2
  have hw3 := u8_lt w3
  refine Ctr.of (X := X) (fn := Try.f8) Try.func8 rfl (by kernel_rfl) rfl ?_
  intro β
  obtain ⟨m1, hm1⟩ : ∃ m, m = min gl.length 20 := ⟨_, rfl⟩
  obtain ⟨m2, hm2⟩ : ∃ m, m = min hl.length 20 := ⟨_, rfl⟩
  have hla : (gl.take m1).length = m1 := by rw [List.length_take]; omega
  have hlb : (hl.take m2).length = m2 := by rw [List.length_take]; omega
  refine C.seq ?_
  refine C.region ?_
  refine L.boxA rfl rfl (fun A3 => ?_)
  refine L.boxA rfl rfl (fun A5 => ?_)
  refine L.step (Ev.pure rfl) rfl ?_
  refine L.nil ?_
  refine QE.seq ?_
  refine C.seq ?_
  refine C.freeze 1 rfl [0] (by decide) (by decide) ?_
  refine C.norm (H' := [_]) [0] ⟨rfl, trivial⟩ (by decide) ?_
  refine C.region ?_
  refine L.call (js := []) (js' := [0]) (sanity21_c) rfl rfl rfl (by decide) trivial rfl ?_
  rintro _ _ _ ⟨rfl, rfl, rfl⟩
  refine L.norm (H' := [_]) [0] ⟨rfl, trivial⟩ (by decide) ?_
  refine L.step (Ev.pure rfl) rfl ?_
  refine L.nil ?_
  refine QE.seq ?_
  refine C.seq ?_
  refine C.join (fun q : Unit => [(1, .slice BA b.length bc), (3, ptrOf A3 0), (5, ptrOf A5 0), (7, .bool true)]) (fun q : Unit => [Rd A5 [.int .u8 (w0.toNat : Int), .int .u8 (w1.toNat : Int), .int .u8 (w2.toNat : Int), .int .u8 (w3.toNat : Int)], Rd GA (U8 gl), Rd HA (U8 hl), Rd BA (U8 b)]) (fun q : Unit => [Own 39 3 A3 1 1 [.int .i64 n0, .slice GA m1 gc, .slice HA m2 hc]]) (fun q : Unit => True) ?_ ?_
  · skip
    refine C.regionM [Rd (subA A3 9 2 1) [.slice HA hl.length hc]] ⟨((Has.o 0 rfl).sub 9 2 1 1 (by simp)).cast rfl, trivial⟩ ?_
    refine LM.q 7 rfl (by kernel_rfl) ((Ev.fieldAddrS (c := 9) (l := 2) (by decide) rfl rfl rfl rfl rfl rfl (Src.r 0 rfl) (Nat.zero_lt_succ _) rfl)) rfl ⟨((Has.o 0 rfl).sub 9 2 1 1 (by simp)).cast rfl, trivial⟩ ?_
    refine LM.q 8 rfl (by kernel_rfl) ((Ev.load (A := subA A3 9 2 1) (k := 0) rfl rfl (congrArg some (sh_ptr A3).symm) (Src.r 0 rfl) rfl)) rfl ⟨((Has.o 0 rfl).sub 9 2 1 1 (by simp)).cast rfl, trivial⟩ ?_
    refine LM.q 9 rfl (by kernel_rfl) ((Ev.fieldAddrS (c := 9) (l := 2) (by decide) rfl rfl rfl rfl rfl rfl (Src.r 0 rfl) (Nat.zero_lt_succ _) rfl)) rfl ⟨((Has.o 0 rfl).sub 9 2 1 1 (by simp)).cast rfl, trivial⟩ ?_
    refine LM.q 10 rfl (by kernel_rfl) ((Ev.load (A := subA A3 9 2 1) (k := 0) rfl rfl (congrArg some (sh_ptr A3).symm) (Src.r 0 rfl) rfl)) rfl ⟨((Has.o 0 rfl).sub 9 2 1 1 (by simp)).cast rfl, trivial⟩ ?_
    refine LM.q 11 rfl (by kernel_rfl) (Ev.pure rfl) rfl ⟨((Has.o 0 rfl).sub 9 2 1 1 (by simp)).cast rfl, trivial⟩ ?_
    refine LM.q 12 rfl (by kernel_rfl) (Ev.cast (u := .int .i64 ((m2 : Nat) : Int)) (Ev.pure rfl) (congrArg (Value.int .i64) (by simp only [Bool.false_eq_true, if_false]; split <;> omega))) rfl ⟨((Has.o 0 rfl).sub 9 2 1 1 (by simp)).cast rfl, trivial⟩ ?_
    refine LM.q 13 rfl (by kernel_rfl) (Ev.sliceH (h := m2) rfl rfl rfl rfl rfl rfl (by omega)) rfl ⟨((Has.o 0 rfl).sub 9 2 1 1 (by simp)).cast rfl, trivial⟩ ?_
    refine LM.q 0 rfl (by kernel_rfl) ((Ev.fieldAddrS (c := 9) (l := 2) (by decide) rfl rfl rfl rfl rfl rfl (Src.r 0 rfl) (Nat.zero_lt_succ _) rfl)) rfl ⟨((Has.o 0 rfl).sub 9 2 1 1 (by simp)).cast rfl, trivial⟩ ?_
    refine LM.q 2 rfl (by kernel_rfl) ((Ev.fieldAddrS (c := 9) (l := 2) (by decide) rfl rfl rfl rfl rfl rfl (Src.r 0 rfl) (Nat.zero_lt_succ _) rfl)) rfl ⟨((Has.o 0 rfl).sub 9 2 1 1 (by simp)).cast rfl, trivial⟩ ?_
    refine LM.alt [1, 3] (by kernel_rfl) (by decide) ⟨((Has.o 0 rfl).sub 9 2 1 1 (by simp)).cast rfl, trivial⟩ ⟨⟨_, rfl, ?_⟩, ⟨_, rfl, ?_⟩, trivial⟩
    · skip
      refine L.step (Ev.load rfl rfl rfl (Src.o 0 rfl) rfl) rfl ?_
      refine L.nil (QE.m (by kernel_rfl) ?_)
      refine LM.f 3 rfl (by kernel_rfl) ⟨((Has.o 0 rfl).sub 9 2 1 1 (by simp)).cast rfl, trivial⟩ ?_
      refine L.step (Ev.load rfl rfl rfl (Src.o 0 rfl) rfl) rfl ?_
      refine L.nil (QE.m (by kernel_rfl) ?_)
      refine LM.f 4 rfl (by kernel_rfl) ⟨((Has.o 0 rfl).sub 9 2 1 1 (by simp)).cast rfl, trivial⟩ ?_
      refine L.step (Ev.pure rfl) rfl ?_
      refine L.nil (QE.m (by kernel_rfl) ?_)
      refine LM.f 5 rfl (by kernel_rfl) ⟨((Has.o 0 rfl).sub 9 2 1 1 (by simp)).cast rfl, trivial⟩ ?_
      refine L.step (Ev.cast (u := .int .i64 ((m1 : Nat) : Int)) (Ev.pure rfl) (congrArg (Value.int .i64) (by simp only [Bool.false_eq_true, if_false]; split <;> omega))) rfl ?_
      refine L.nil (QE.m (by kernel_rfl) ?_)
      refine LM.f 6 rfl (by kernel_rfl) ⟨((Has.o 0 rfl).sub 9 2 1 1 (by simp)).cast rfl, trivial⟩ ?_
      refine L.step (Ev.sliceH (h := m1) rfl rfl rfl rfl rfl rfl (by omega)) rfl ?_
      refine L.nil (QE.m (by kernel_rfl) ?_)
      refine LM.f 14 rfl (by kernel_rfl) ⟨((Has.o 0 rfl).sub 9 2 1 1 (by simp)).cast rfl, trivial⟩ ?_
      refine L.step (Ev.fieldAddr rfl rfl rfl rfl rfl rfl (Src.o 0 rfl) (Nat.zero_lt_succ _) rfl) rfl ?_
      refine L.nil (QE.m (by kernel_rfl) ?_)
      refine LM.f 15 rfl (by kernel_rfl) ⟨((Has.o 0 rfl).sub 9 2 1 1 (by simp)).cast rfl, trivial⟩ ?_
      refine L.store (j := 0) rfl rfl rfl rfl rfl rfl rfl rfl ?_
      refine L.nil (QE.m (by kernel_rfl) ?_)
      refine LM.f 16 rfl (by kernel_rfl) ⟨((Has.o 0 rfl).sub 9 2 1 1 (by simp)).cast rfl, trivial⟩ ?_
      refine L.step (Ev.fieldAddr rfl rfl rfl rfl rfl rfl (Src.o 0 rfl) (Nat.zero_lt_succ _) rfl) rfl ?_
      refine L.nil (QE.m (by kernel_rfl) ?_)
      refine LM.cut [] (by kernel_rfl) ⟨((Has.o 0 rfl).sub 9 2 1 1 (by simp)).cast rfl, trivial⟩ ?_
      refine LM.f 17 rfl (by kernel_rfl) trivial ?_
      refine L.store (j := 0) rfl rfl rfl rfl rfl rfl rfl rfl ?_
      refine L.nil (QE.m (by kernel_rfl) ?_)
      refine LM.nil (by kernel_rfl) trivial ?_
      refine QE.joined (()) trivial (by exact Le.mk' (rs := [0, 1, 2, 3]) (hs := [0]) ⟨rfl, rfl, rfl, rfl, trivial⟩ ⟨rfl, rfl, rfl, rfl, trivial⟩ ⟨rfl, trivial⟩ (by decide))
    · skip
      refine L.step (Ev.load rfl rfl rfl (Src.o 0 rfl) rfl) rfl ?_
      refine L.nil (QE.m (by kernel_rfl) ?_)
      refine LM.q 4 rfl (by kernel_rfl) (Ev.pure rfl) rfl ⟨((Has.o 0 rfl).sub 9 2 1 1 (by simp)).cast rfl, trivial⟩ ?_
      refine LM.q 5 rfl (by kernel_rfl) (Ev.cast (u := .int .i64 ((m1 : Nat) : Int)) (Ev.pure rfl) (congrArg (Value.int .i64) (by simp only [Bool.false_eq_true, if_false]; split <;> omega))) rfl ⟨((Has.o 0 rfl).sub 9 2 1 1 (by simp)).cast rfl, trivial⟩ ?_
      refine LM.f 1 rfl (by kernel_rfl) ⟨((Has.o 0 rfl).sub 9 2 1 1 (by simp)).cast rfl, trivial⟩ ?_
      refine L.step (Ev.load rfl rfl rfl (Src.o 0 rfl) rfl) rfl ?_
      refine L.nil (QE.m (by kernel_rfl) ?_)
      refine LM.f 6 rfl (by kernel_rfl) ⟨((Has.o 0 rfl).sub 9 2 1 1 (by simp)).cast rfl, trivial⟩ ?_
      refine L.step (Ev.sliceH (h := m1) rfl rfl rfl rfl rfl rfl (by omega)) rfl ?_
      refine L.nil (QE.m (by kernel_rfl) ?_)
      refine LM.f 14 rfl (by kernel_rfl) ⟨((Has.o 0 rfl).sub 9 2 1 1 (by simp)).cast rfl, trivial⟩ ?_
      refine L.step (Ev.fieldAddr rfl rfl rfl rfl rfl rfl (Src.o 0 rfl) (Nat.zero_lt_succ _) rfl) rfl ?_
      refine L.nil (QE.m (by kernel_rfl) ?_)
      refine LM.f 15 rfl (by kernel_rfl) ⟨((Has.o 0 rfl).sub 9 2 1 1 (by simp)).cast rfl, trivial⟩ ?_
      refine L.store (j := 0) rfl rfl rfl rfl rfl rfl rfl rfl ?_
      refine L.nil (QE.m (by kernel_rfl) ?_)
      refine LM.f 16 rfl (by kernel_rfl) ⟨((Has.o 0 rfl).sub 9 2 1 1 (by simp)).cast rfl, trivial⟩ ?_
      refine L.step (Ev.fieldAddr rfl rfl rfl rfl rfl rfl (Src.o 0 rfl) (Nat.zero_lt_succ _) rfl) rfl ?_
      refine L.nil (QE.m (by kernel_rfl) ?_)
      refine LM.cut [] (by kernel_rfl) ⟨((Has.o 0 rfl).sub 9 2 1 1 (by simp)).cast rfl, trivial⟩ ?_
      refine LM.f 17 rfl (by kernel_rfl) trivial ?_
      refine L.store (j := 0) rfl rfl rfl rfl rfl rfl rfl rfl ?_
      refine L.nil (QE.m (by kernel_rfl) ?_)
      refine LM.nil (by kernel_rfl) trivial ?_
      refine QE.joined (()) trivial (by exact Le.mk' (rs := [0, 1, 2, 3]) (hs := [0]) ⟨rfl, rfl, rfl, rfl, trivial⟩ ⟨rfl, rfl, rfl, rfl, trivial⟩ ⟨rfl, trivial⟩ (by decide))
  · skip
    rintro _ _
    refine QE.seq ?_
    refine C.seq ?_
    refine C.freeze 0 rfl [] (by decide) (by decide) ?_
    refine C.region ?_
    refine L.step (Ev.fieldAddr rfl rfl rfl rfl rfl rfl (Src.r 0 rfl) (Nat.zero_lt_succ _) rfl) rfl ?_
    refine L.step (Ev.load rfl rfl rfl (Src.r 0 rfl) rfl) rfl ?_
    refine L.step (Ev.fieldAddr rfl rfl rfl rfl rfl rfl (Src.r 0 rfl) (Nat.zero_lt_succ _) rfl) rfl ?_
    refine L.step (Ev.load rfl rfl rfl (Src.r 0 rfl) rfl) rfl ?_
    refine L.step (Ev.fieldAddr rfl rfl rfl rfl rfl rfl (Src.r 0 rfl) (Nat.zero_lt_succ _) rfl) rfl ?_
    refine L.step (Ev.load rfl rfl rfl (Src.r 0 rfl) rfl) rfl ?_
    refine L.more (r := Rd GA (U8 (gl.take m1))) ((Has.take (Has.r 2 rfl) m1).cast (U8_take _ _)) ?_
    refine L.more (r := Rd HA (U8 (hl.take m2))) ((Has.take (Has.r 4 rfl) m2).cast (U8_take _ _)) ?_
    refine L.call (js := []) (js' := []) (rec_g n0 GA HA (gl.take m1) (hl.take m2) m1 m2 gc hc (recS n0 (gl.take m1) (hl.take m2)) (recE n0 (gl.take m1) (hl.take m2)) hla hlb rfl rfl (by omega) (by omega) (by omega)) rfl rfl rfl (by decide) ⟨(Has.r 1 rfl), (Has.r 0 rfl), trivial⟩ rfl ?_
    rintro _ _ _ ⟨R51, rc51, rfl, rfl, rfl⟩
    refine L.norm (H' := [_]) [0] ⟨rfl, trivial⟩ (by decide) ?_
    refine L.step (Ev.pure rfl) rfl ?_
    refine L.step (Ev.pure rfl) rfl ?_
    refine L.step (Ev.pure rfl) rfl ?_
    refine L.step (Ev.pure rfl) rfl ?_
    refine L.step (Ev.pure rfl) rfl ?_
    refine L.nil ?_
    refine QE.seq ?_
    refine C.seq ?_
    refine C.region ?_
    refine L.step (Ev.loadA rfl rfl rfl (Src.r 2 rfl) rfl rfl (by decide)) rfl ?_
    refine L.call (js := []) (js' := [0]) (rec21_g n0 GA HA (gl.take m1) (hl.take m2) m1 m2 gc hc (recS n0 (gl.take m1) (hl.take m2)) (recE n0 (gl.take m1) (hl.take m2)) hla hlb rfl rfl (by omega) (by omega) (by omega)) rfl rfl rfl (by decide) ⟨(Has.r 1 rfl), (Has.r 0 rfl), trivial⟩ rfl ?_
    rintro _ _ _ ⟨R56, rc56, rfl, rfl, rfl⟩
    have hsl := recS_len n0 (gl.take m1) (hl.take m2)
    refine L.norm (H' := [_, _]) [0, 1] ⟨rfl, rfl, trivial⟩ (by decide) ?_
    refine L.step (Ev.pure rfl) rfl ?_
    refine L.step (Ev.pure rfl) rfl ?_
    refine L.step (Ev.pure rfl) rfl ?_
    refine L.step (Ev.pure rfl) rfl ?_
    refine L.step (Ev.pure rfl) rfl ?_
    refine L.nil ?_
    refine QE.seq ?_
    refine C.seq ?_
    refine C.seq ?_
    refine C.region ?_
    refine L.step (Ev.pure rfl) rfl ?_
    refine L.step (Ev.pure rfl) rfl ?_
    refine L.call (js := []) (js' := [0, 1]) (Ctr.tb true (same_g R51 R56 rc51 rc56 (recS n0 (gl.take m1) (hl.take m2)) (recS n0 (gl.take m1) (hl.take m2)) (recS n0 (gl.take m1) (hl.take m2)).length (recS n0 (gl.take m1) (hl.take m2)).length rfl rfl (by omega) (by omega)) (by simp)) rfl rfl rfl (by decide) ⟨(Has.o 1 rfl), (Has.o 0 rfl), trivial⟩ rfl ?_
    rintro _ _ _ ⟨rfl, rfl, rfl⟩
    refine L.norm (H' := [_, _]) [0, 1] ⟨rfl, rfl, trivial⟩ (by decide) ?_
    refine L.step (Ev.pure rfl) rfl ?_
    refine L.step (Ev.pure rfl) rfl ?_
    refine L.yes rfl ?_
    refine L.step (Ev.pure rfl) rfl ?_
    refine L.yes rfl ?_
    refine L.step (Ev.pure rfl) rfl ?_
    refine L.yes rfl ?_
    refine L.step (Ev.pure rfl) rfl ?_
    refine L.step (Ev.pure rfl) rfl ?_
    refine L.nil ?_
    refine QE.seq ?_
    refine C.condB 67 rfl (fun hc67 => ?_) (fun hc67 => ?_)
    · skip
      replace hc67 := b_ne hc67
      exact (hc67 rfl).elim
    · skip
      replace hc67 := b_eq hc67
      refine C.skip ?_
      refine QE.seq ?_
      refine C.seq ?_
      refine C.region ?_
      refine L.step (Ev.pure rfl) rfl ?_
      refine L.step (Ev.idxArr (k := 0) (m := 0) rfl rfl rfl rfl rfl rfl (by decide) (Src.r 3 rfl) (Nat.zero_lt_succ _) rfl) rfl ?_
      refine L.step (Ev.load rfl rfl rfl (Src.r 3 rfl) rfl) rfl ?_
      refine L.step (Ev.idxArr (k := 1) (m := 1) rfl rfl rfl rfl rfl rfl (by decide) (Src.r 3 rfl) (Nat.zero_lt_succ _) rfl) rfl ?_
      refine L.step (Ev.load rfl rfl rfl (Src.r 3 rfl) rfl) rfl ?_
      refine L.step (Ev.buildArr rfl rfl rfl rfl rfl rfl rfl) rfl ?_
      refine L.step (Ev.idxArr (k := 2) (m := 2) rfl rfl rfl rfl rfl rfl (by decide) (Src.r 3 rfl) (Nat.zero_lt_succ _) rfl) rfl ?_
      refine L.step (Ev.load rfl rfl rfl (Src.r 3 rfl) rfl) rfl ?_
      refine L.step (Ev.idxArr (k := 3) (m := 3) rfl rfl rfl rfl rfl rfl (by decide) (Src.r 3 rfl) (Nat.zero_lt_succ _) rfl) rfl ?_
      refine L.step (Ev.load rfl rfl rfl (Src.r 3 rfl) rfl) rfl ?_
      refine L.step (Ev.buildArr rfl rfl rfl rfl rfl rfl rfl) rfl ?_
      refine L.lit2A (cs := [.int .u8 (w0.toNat : Int), .int .u8 (w1.toNat : Int)]) (cs' := [.int .u8 (w2.toNat : Int), .int .u8 (w3.toNat : Int)]) rfl rfl rfl rfl rfl rfl (by decide) rfl rfl rfl rfl (fun A79 => ?_)
      refine L.call (js := []) (js' := [0, 1, 2]) (chg21_c BA A79 b [(w0, w1), (w2, w3)] bc 2 8 (by omega) (by omega)) rfl rfl rfl (by decide) ⟨(Has.r 6 rfl), (Has.o 2 rfl), trivial⟩ rfl ?_
      rintro _ _ _ ⟨O, N, oc, nc, rfl, rfl, rfl⟩
      obtain ⟨o, ho⟩ : ∃ o, o = oldN b 8 := ⟨_, rfl⟩
      obtain ⟨w, hw⟩ : ∃ w, w = newL b [(w0, w1), (w2, w3)] 8 := ⟨_, rfl⟩
      rw [← ho, ← hw]
      have hlo : o.length = 8 := by rw [ho, oldN_len]
      have hlw : w.length = 8 := by rw [hw, newL_len]
      obtain ⟨r, hr⟩ : ∃ r, r = recS ((0 : Nat) : Int) o w := ⟨_, rfl⟩
      have rI := RecIs.of hr (by omega) (by omega) (by omega) (by omega)
      have rle := rI.le
      have rlen := rI.len
      obtain ⟨i, hi⟩ : ∃ i, i = w0.toNat % r.length := ⟨_, rfl⟩
      have hir : i < r.length := by rw [hi]; exact Nat.mod_lt _ (by omega)
      refine L.norm (H' := [_, _, _, _, _]) [0, 1, 2, 3, 4] ⟨rfl, rfl, rfl, rfl, rfl, trivial⟩ (by decide) ?_
      refine L.alloc rfl rfl rfl (fun A12 => ?_)
      refine L.storeA (j := 5) rfl rfl rfl rfl rfl (Nat.zero_lt_succ _) rfl rfl ?_
      refine L.nil ?_
      refine QE.seq ?_
      refine C.seq ?_
      refine C.cap 0 rfl (fun hoc => ?_)
      refine C.freeze 0 rfl [1, 2, 3, 4, 5] (by decide) (by decide) ?_
      refine C.norm (H' := [_, _, _, _, _]) [0, 1, 2, 3, 4] ⟨rfl, rfl, rfl, rfl, rfl, trivial⟩ (by decide) ?_
      refine C.freeze 0 rfl [1, 2, 3, 4] (by decide) (by decide) ?_
      refine C.norm (H' := [_, _, _, _]) [0, 1, 2, 3] ⟨rfl, rfl, rfl, rfl, trivial⟩ (by decide) ?_
      refine C.freeze 3 rfl [0, 1, 2] (by decide) (by decide) ?_
      refine C.norm (H' := [_, _, _]) [0, 1, 2] ⟨rfl, rfl, rfl, trivial⟩ (by decide) ?_
      refine C.region ?_
      refine L.step (Ev.loadA rfl rfl rfl (Src.r 0 rfl) rfl rfl (by decide)) rfl ?_
      refine L.call (js := []) (js' := [0, 1, 2]) (rec21_g ((0 : Nat) : Int) O N o w 8 8 oc nc r 0 hlo hlw rI.eq rI.e hoc (by omega) (by omega)) rfl rfl rfl (by decide) ⟨(Has.r 2 rfl), (Has.r 1 rfl), trivial⟩ rfl ?_
      rintro _ _ _ ⟨T83, rc83, rfl, rfl, rfl⟩
      refine L.norm (H' := [_, _, _, _]) [0, 1, 2, 3] ⟨rfl, rfl, rfl, rfl, trivial⟩ (by decide) ?_
      refine L.step (Ev.pure rfl) rfl ?_
      refine L.step (Ev.pure rfl) rfl ?_
      refine L.step (Ev.pure rfl) rfl ?_
      refine L.step (Ev.pure rfl) rfl ?_
      refine L.step (Ev.pure rfl) rfl ?_
      refine L.nil ?_
      refine QE.seq ?_
      refine C.seq ?_
      refine C.cap 0 rfl (fun hrc => ?_)
      refine C.freeze 0 rfl [1, 2, 3] (by decide) (by decide) ?_
      refine C.norm (H' := [_, _, _]) [0, 1, 2] ⟨rfl, rfl, rfl, trivial⟩ (by decide) ?_
      refine C.region ?_
      refine L.step (Ev.idxArr (k := 0) (m := 0) rfl rfl rfl rfl rfl rfl (by decide) (Src.r 7 rfl) (Nat.zero_lt_succ _) rfl) rfl ?_
      refine L.step (Ev.load rfl rfl rfl (Src.r 7 rfl) rfl) rfl ?_
      first | refine L.step (Ev.byteInt rfl rfl rfl rfl) rfl ?_ | refine L.step (Ev.toInt rfl rfl rfl rfl (by omega) (by omega)) rfl ?_
      refine L.step (Ev.pure rfl) rfl ?_
      refine L.step (Ev.pure rfl) rfl ?_
      refine L.step (Ev.cast (u := .int .i64 ((i : Nat) : Int)) (Ev.rem rfl rfl (by omega) (by omega)) (congrArg (Value.int .i64) (by rw [hi, Int.natCast_emod]))) rfl ?_
      refine L.step (Ev.pure rfl) rfl ?_
      refine L.nil ?_
      refine QE.seq ?_
      refine C.seq ?_
      refine C.region ?_
      refine L.lit rfl rfl rfl rfl rfl (by rfl) (by rfl) (by rfl) rfl rfl (fun A92 => ?_)
      refine L.step (Ev.pure rfl) rfl ?_
      refine L.append (j := 3) rfl rfl rfl rfl (by decide) rfl rfl rfl rfl (Src.r 0 rfl) (by rw [U8_len]; exact (Nat.mul_one _).symm) (U8_one _) (by omega) (by show _ * 1 ≤ _; omega) rfl (fun A94 cc94 => ?_)
      refine L.step (Ev.pure rfl) rfl ?_
      refine L.nil ?_
      refine QE.seq ?_
      refine C.seq ?_
      refine C.le (Γ' := [(5, ptrOf A5 0), (7, .bool true), (12, ptrOf A12 0), (13, .slice T83 r.length rc83), (15, .int .i64 (i : Int)), (16, .slice A94 r.length cc94)]) (R' := [Rd N (U8 w), Rd A12 [.int .i64 0, .slice O 8 oc, .slice N 8 nc], Rd A5 [.int .u8 (w0.toNat : Int), .int .u8 (w1.toNat : Int), .int .u8 (w2.toNat : Int), .int .u8 (w3.toNat : Int)], Rd T83 (U8 r)]) (H' := [Own 5 1 A94 r.length cc94 (U8 r)]) (by exact Le.mk' (rs := [2, 1, 7, 0]) (hs := [3]) ⟨rfl, rfl, rfl, rfl, rfl, (by simp only [Nat.zero_add]; rfl), trivial⟩ ⟨rfl, rfl, rfl, rfl, trivial⟩ ⟨(by simp only [Nat.zero_add]; rfl), trivial⟩ (by decide)) ?_
      refine C.cap 0 rfl (fun hc94 => ?_)
      refine C.region ?_
      refine L.step (Ev.pure rfl) rfl ?_
      refine L.step (Ev.pure rfl) rfl ?_
      refine L.step (Ev.idxArr (k := 3) (m := 3) rfl rfl rfl rfl rfl rfl (by decide) (Src.r 2 rfl) (Nat.zero_lt_succ _) rfl) rfl ?_
      refine L.step (Ev.load rfl rfl rfl (Src.r 2 rfl) rfl) rfl ?_
      refine L.step (Ev.idx1 (k := i) rfl rfl rfl rfl rfl rfl rfl (by omega) (Src.o 0 rfl) (by rw [U8_len]; omega)) rfl ?_
      refine L.store (j := 0) rfl rfl rfl rfl rfl rfl rfl (by exact U8_get (by omega)) ?_
      refine L.nil ?_
      refine QE.seq ?_
      refine C.seq ?_
      refine C.region ?_
      refine L.lit rfl rfl rfl rfl rfl (by rfl) (by rfl) (by rfl) rfl rfl (fun A100 => ?_)
      refine L.step (Ev.pure rfl) rfl ?_
      refine L.append (j := 1) rfl rfl rfl rfl (by decide) rfl rfl rfl rfl (Src.o 0 rfl) (by rw [List.length_set, U8_len]; exact (Nat.mul_one _).symm) (by rw [U8_set]; exact U8_one _) (by omega) (by show _ * 1 ≤ _; omega) rfl (fun A102 cc102 => ?_)
      refine L.step (Ev.pure rfl) rfl ?_
      refine L.nil ?_
      refine QE.seq ?_
      refine C.seq ?_
      refine C.region ?_
      refine L.step (Ev.pure rfl) rfl ?_
      refine L.step (Ev.idxArr (k := 1) (m := 1) rfl rfl rfl rfl rfl rfl (by decide) (Src.r 2 rfl) (Nat.zero_lt_succ _) rfl) rfl ?_
      refine L.step (Ev.load rfl rfl rfl (Src.r 2 rfl) rfl) rfl ?_
      refine L.lit rfl rfl rfl rfl rfl (by rfl) (by rfl) (by rfl) rfl rfl (fun A106 => ?_)
      refine L.append (j := 1) rfl rfl rfl rfl (by decide) rfl rfl rfl rfl (Src.o 2 rfl) rfl (allOne rfl) (by omega) (by show _ * 1 ≤ _; omega) rfl (fun A107 cc107 => ?_)
      refine L.step (Ev.pure rfl) rfl ?_
      refine L.nil ?_
      refine QE.seq ?_
      refine C.seq ?_
      refine C.le (Γ' := [(5, ptrOf A5 0), (7, .bool true), (12, ptrOf A12 0), (13, .slice T83 r.length rc83), (15, .int .i64 (i : Int)), (16, .slice A94 r.length cc94), (17, .slice A107 (r.length + 1) cc107)]) (R' := [Rd N (U8 w), Rd A12 [.int .i64 0, .slice O 8 oc, .slice N 8 nc], Rd A5 [.int .u8 (w0.toNat : Int), .int .u8 (w1.toNat : Int), .int .u8 (w2.toNat : Int), .int .u8 (w3.toNat : Int)], Rd T83 (U8 r)]) (H' := [Own 5 1 A94 r.length cc94 (U8 (r.set i w3)), Own 5 1 A107 (r.length + 1) cc107 (U8 (r.set i w3 ++ [w1]))]) (by exact Le.mk' (rs := [0, 1, 2, 3]) (hs := [0, 1]) ⟨rfl, rfl, rfl, rfl, rfl, rfl, (by simp only [Nat.zero_add]; rfl), trivial⟩ ⟨rfl, rfl, rfl, rfl, trivial⟩ ⟨(congrArg some (own_eq rfl (U8_set _ _ _))), (congrArg some (own_eq (by rw [Nat.zero_add]) (by rw [← U8_app, ← U8_set]; rfl))), trivial⟩ (by decide)) ?_
      refine C.cap 1 rfl (fun hc107 => ?_)
      refine C.region ?_
      refine L.step (Ev.pure rfl) rfl ?_
      refine L.step (Ev.pure rfl) rfl ?_
      refine L.step (Ev.pure rfl) rfl ?_
      refine L.step (Ev.sliceH (h := i) rfl rfl rfl rfl rfl rfl (by omega)) rfl ?_
      refine L.step (Ev.pure rfl) rfl ?_
      refine L.step (Ev.buildArr rfl rfl rfl rfl rfl rfl rfl) rfl ?_
      refine L.alloc rfl rfl rfl (fun A18 => ?_)
      refine L.storeA (j := 2) rfl rfl rfl rfl rfl (Nat.zero_lt_succ _) rfl rfl ?_
      refine L.nil ?_
      refine QE.seq ?_
      refine C.seq ?_
      refine C.seq ?_
      refine C.le (Γ' := [(5, ptrOf A5 0), (7, .bool true), (12, ptrOf A12 0), (18, ptrOf A18 0)]) (R' := [Rd N (U8 w), Rd A12 [.int .i64 0, .slice O 8 oc, .slice N 8 nc], Rd A5 [.int .u8 (w0.toNat : Int), .int .u8 (w1.toNat : Int), .int .u8 (w2.toNat : Int), .int .u8 (w3.toNat : Int)], Rd T83 (U8 r)]) (H' := [Own 5 1 A94 r.length cc94 (U8 (r.set i w3)), Own 5 1 A107 (r.length + 1) cc107 (U8 (r.set i w3 ++ [w1])), Own 71 3 A18 1 1 (rowsV [(A94, cc94), (T83, rc83), (A107, cc107)] (B8 [(r.set i w3), r.take i, (r.set i w3 ++ [w1])]))]) (by exact Le.mk' (rs := [0, 1, 2, 3]) (hs := [0, 1, 2]) ⟨rfl, rfl, rfl, rfl, trivial⟩ ⟨rfl, rfl, rfl, rfl, trivial⟩ ⟨rfl, rfl, (congrArg some (own_eq rfl (Eq.trans (b := [.slice A94 r.length cc94, .slice T83 i rc83, .slice A107 (r.length + 1) cc107]) rfl (by simp [rowsV, B8, U8_len, List.length_set, Nat.min_eq_left (Nat.le_of_lt hir)])))), trivial⟩ (by decide)) ?_
      refine C.freeze 0 rfl [1, 2] (by decide) (by decide) ?_
      refine C.norm (H' := [_, _]) [0, 1] ⟨rfl, rfl, trivial⟩ (by decide) ?_
      refine C.freeze 0 rfl [1] (by decide) (by decide) ?_
      refine C.norm (H' := [_]) [0] ⟨rfl, trivial⟩ (by decide) ?_
      refine C.freeze 0 rfl [] (by decide) (by decide) ?_
      refine C.more (r := Rd T83 (U8 (r.take i))) ((Has.take (Has.r 6 rfl) i).cast (U8_take _ _)) ?_
      refine C.region ?_
      refine L.step (Ev.pure rfl) rfl ?_
      refine L.nil ?_
      refine QE.seq ?_
      refine C.block ?_
      refine C.more (r := KidsR [] []) Has.kids0 ?_
      refine C.more (r := KidsR [(A94, cc94)] (B8 [(r.set i w3)])) (Has.kidsSnoc (hs := []) (vss := []) 0 (3 + 1) cc94 rfl rfl rfl) ?_
      refine C.more (r := KidsR [(A94, cc94), (T83, rc83)] (B8 [(r.set i w3), r.take i])) (Has.kidsSnoc (hs := [(A94, cc94)]) (vss := B8 [(r.set i w3)]) 0 (0 + 2) rc83 rfl rfl rfl) ?_
      refine C.more (r := KidsR [(A94, cc94), (T83, rc83), (A107, cc107)] (B8 [(r.set i w3), r.take i, (r.set i w3 ++ [w1])])) (Has.kidsSnoc (hs := [(A94, cc94), (T83, rc83)]) (vss := B8 [(r.set i w3), r.take i]) 0 (2 + 3) cc107 rfl rfl rfl) ?_
      refine C.loop (fun k : Nat => [(5, ptrOf A5 0), (7, .bool true), (12, ptrOf A12 0), (18, ptrOf A18 0), (19, .int .i64 (k : Int))]) (fun k : Nat => [KidsR [(A94, cc94), (T83, rc83), (A107, cc107)] (B8 [(r.set i w3), r.take i, (r.set i w3 ++ [w1])]), KidsR [(A94, cc94), (T83, rc83)] (B8 [(r.set i w3), r.take i]), KidsR [(A94, cc94)] (B8 [(r.set i w3)]), KidsR [] [], Rd T83 (U8 (r.take i)), Rd A18 (rowsV [(A94, cc94), (T83, rc83), (A107, cc107)] (B8 [(r.set i w3), r.take i, (r.set i w3 ++ [w1])])), Rd A107 (U8 (r.set i w3 ++ [w1])), Rd A94 (U8 (r.set i w3)), Rd N (U8 w), Rd A12 [.int .i64 0, .slice O 8 oc, .slice N 8 nc], Rd A5 [.int .u8 (w0.toNat : Int), .int .u8 (w1.toNat : Int), .int .u8 (w2.toNat : Int), .int .u8 (w3.toNat : Int)], Rd T83 (U8 r)]) (fun k : Nat => []) (fun k : Nat => k ≤ 3) (fun k : Nat => 3 - k) 0 (Nat.zero_le _) (by exact Le.mk' (rs := [0, 1, 2, 3, 4, 5, 6, 7, 8, 9, 10, 11]) (hs := []) ⟨rfl, rfl, rfl, rfl, rfl, trivial⟩ ⟨rfl, rfl, rfl, rfl, rfl, rfl, rfl, rfl, rfl, rfl, rfl, rfl, trivial⟩ trivial (by decide)) ?_
      intro k hk
      refine C.seq ?_
      refine C.seq ?_
      refine C.region ?_
      refine L.step (Ev.pure rfl) rfl ?_
      refine L.step (Ev.pure rfl) rfl ?_
      refine L.nil ?_
      refine QE.seq ?_
      refine C.condB 115 rfl (fun hc115 => ?_) (fun hc115 => ?_)
      · skip
        replace hc115 := of_decide_eq_true hc115
        have hk3 : k < 3 := by omega
        refine C.skip ?_
        refine QE.seq ?_
        refine C.seq ?_
        refine C.block ?_
        refine C.seq ?_
        have hl9 : ([(r.set i w3), r.take i, (r.set i w3 ++ [w1])].getD k []).length ≤ 900000 := lst3_len hir rle hk3
        have hcp3 : ([(r.set i w3), r.take i, (r.set i w3 ++ [w1])].getD k []).length ≤ ([(A94, cc94), (T83, rc83), (A107, cc107)].getD k (none, 0)).2 := lst3_cap hir hc94 hrc hc107 hk3
        refine C.regionM [KidsR [(A94, cc94), (T83, rc83), (A107, cc107)] (B8 [(r.set i w3), r.take i, (r.set i w3 ++ [w1])]), KidsR [(A94, cc94), (T83, rc83)] (B8 [(r.set i w3), r.take i]), KidsR [(A94, cc94)] (B8 [(r.set i w3)]), KidsR [] [], Rd T83 (U8 (r.take i)), Rd A18 (rowsV [(A94, cc94), (T83, rc83), (A107, cc107)] (B8 [(r.set i w3), r.take i, (r.set i w3 ++ [w1])])), Rd A107 (U8 (r.set i w3 ++ [w1])), Rd A94 (U8 (r.set i w3)), Rd N (U8 w), Rd A12 [.int .i64 0, .slice O 8 oc, .slice N 8 nc], Rd A5 [.int .u8 (w0.toNat : Int), .int .u8 (w1.toNat : Int), .int .u8 (w2.toNat : Int), .int .u8 (w3.toNat : Int)], Rd T83 (U8 r)] ⟨Has.r 0 rfl, Has.r 1 rfl, Has.r 2 rfl, Has.r 3 rfl, Has.r 4 rfl, Has.r 5 rfl, Has.r 6 rfl, Has.r 7 rfl, Has.r 8 rfl, Has.r 9 rfl, Has.r 10 rfl, Has.r 11 rfl, trivial⟩ ?_
        refine LM.q 0 rfl (by kernel_rfl) (Ev.fieldAddr rfl rfl rfl rfl rfl rfl (Src.r 9 rfl) (Nat.zero_lt_succ _) rfl) rfl ⟨Has.r 0 rfl, Has.r 1 rfl, Has.r 2 rfl, Has.r 3 rfl, Has.r 4 rfl, Has.r 5 rfl, Has.r 6 rfl, Has.r 7 rfl, Has.r 8 rfl, Has.r 9 rfl, Has.r 10 rfl, Has.r 11 rfl, trivial⟩ ?_
        refine LM.q 1 rfl (by kernel_rfl) (Ev.load rfl rfl rfl (Src.r 9 rfl) rfl) rfl ⟨Has.r 0 rfl, Has.r 1 rfl, Has.r 2 rfl, Has.r 3 rfl, Has.r 4 rfl, Has.r 5 rfl, Has.r 6 rfl, Has.r 7 rfl, Has.r 8 rfl, Has.r 9 rfl, Has.r 10 rfl, Has.r 11 rfl, trivial⟩ ?_
        refine LM.q 2 rfl (by kernel_rfl) (Ev.pure rfl) rfl ⟨Has.r 0 rfl, Has.r 1 rfl, Has.r 2 rfl, Has.r 3 rfl, Has.r 4 rfl, Has.r 5 rfl, Has.r 6 rfl, Has.r 7 rfl, Has.r 8 rfl, Has.r 9 rfl, Has.r 10 rfl, Has.r 11 rfl, trivial⟩ ?_
        refine LM.q 3 rfl (by kernel_rfl) (Ev.idxArr (k := k) (m := k) rfl rfl rfl rfl rfl rfl (by omega) (Src.r 5 rfl) (by rw [rowsV_len (by rfl)]; exact Nat.zero_lt_succ _) (by show 0 + k * 1 = k; omega)) rfl ⟨Has.r 0 rfl, Has.r 1 rfl, Has.r 2 rfl, Has.r 3 rfl, Has.r 4 rfl, Has.r 5 rfl, Has.r 6 rfl, Has.r 7 rfl, Has.r 8 rfl, Has.r 9 rfl, Has.r 10 rfl, Has.r 11 rfl, trivial⟩ ?_
        refine LM.q 4 rfl (by kernel_rfl) (Ev.load rfl rfl rfl (Src.r 5 rfl) (rows8_get (by rfl) (by show k < 3; omega))) rfl ⟨Has.r 0 rfl, Has.r 1 rfl, Has.r 2 rfl, Has.r 3 rfl, Has.r 4 rfl, Has.r 5 rfl, Has.r 6 rfl, Has.r 7 rfl, Has.r 8 rfl, Has.r 9 rfl, Has.r 10 rfl, Has.r 11 rfl, trivial⟩ ?_
        refine LM.f 5 rfl (by kernel_rfl) ⟨Has.r 0 rfl, Has.r 1 rfl, Has.r 2 rfl, Has.r 3 rfl, Has.r 4 rfl, Has.r 5 rfl, Has.r 6 rfl, Has.r 7 rfl, Has.r 8 rfl, Has.r 9 rfl, Has.r 10 rfl, Has.r 11 rfl, trivial⟩ ?_
        refine L.call (js := []) (js' := []) (res_g N ([(A94, cc94), (T83, rc83), (A107, cc107)].getD k (none, 0)).1 w ([(r.set i w3), r.take i, (r.set i w3 ++ [w1])].getD k []) 8 nc ([(A94, cc94), (T83, rc83), (A107, cc107)].getD k (none, 0)).2 (resS w ([(r.set i w3), r.take i, (r.set i w3 ++ [w1])].getD k [])) (resE w ([(r.set i w3), r.take i, (r.set i w3 ++ [w1])].getD k [])) hlw rfl rfl (by omega) hl9 hcp3) rfl rfl rfl (by decide) ⟨(Has.r 8 rfl), ((Has.kid 0 rfl (by rfl) (k) (by show k < 3; omega)).cast (B8_get _)), trivial⟩ rfl ?_
        rintro _ _ _ ⟨R124, rc124, rfl, rfl, rfl⟩
        refine L.norm (H' := [_]) [0] ⟨rfl, trivial⟩ (by decide) ?_
        refine L.nil (QE.m (by kernel_rfl) ?_)
        refine LM.q 6 rfl (by kernel_rfl) (Ev.pure rfl) rfl ⟨Has.r 0 rfl, Has.r 1 rfl, Has.r 2 rfl, Has.r 3 rfl, Has.r 4 rfl, Has.r 5 rfl, Has.r 6 rfl, Has.r 7 rfl, Has.r 8 rfl, Has.r 9 rfl, Has.r 10 rfl, Has.r 11 rfl, trivial⟩ ?_
        refine LM.q 7 rfl (by kernel_rfl) (Ev.pure rfl) rfl ⟨Has.r 0 rfl, Has.r 1 rfl, Has.r 2 rfl, Has.r 3 rfl, Has.r 4 rfl, Has.r 5 rfl, Has.r 6 rfl, Has.r 7 rfl, Has.r 8 rfl, Has.r 9 rfl, Has.r 10 rfl, Has.r 11 rfl, trivial⟩ ?_
        refine LM.q 8 rfl (by kernel_rfl) (Ev.pure rfl) rfl ⟨Has.r 0 rfl, Has.r 1 rfl, Has.r 2 rfl, Has.r 3 rfl, Has.r 4 rfl, Has.r 5 rfl, Has.r 6 rfl, Has.r 7 rfl, Has.r 8 rfl, Has.r 9 rfl, Has.r 10 rfl, Has.r 11 rfl, trivial⟩ ?_
        refine LM.f 9 rfl (by kernel_rfl) ⟨Has.r 0 rfl, Has.r 1 rfl, Has.r 2 rfl, Has.r 3 rfl, Has.r 4 rfl, Has.r 5 rfl, Has.r 6 rfl, Has.r 7 rfl, Has.r 8 rfl, Has.r 9 rfl, Has.r 10 rfl, Has.r 11 rfl, trivial⟩ ?_
        refine L.step (Ev.pure rfl) rfl ?_
        refine L.nil (QE.m (by kernel_rfl) ?_)
        refine LM.cut [] (by kernel_rfl) ⟨Has.r 0 rfl, Has.r 1 rfl, Has.r 2 rfl, Has.r 3 rfl, Has.r 4 rfl, Has.r 5 rfl, Has.r 6 rfl, Has.r 7 rfl, Has.r 8 rfl, Has.r 9 rfl, Has.r 10 rfl, Has.r 11 rfl, trivial⟩ ?_
        refine LM.f 10 rfl (by kernel_rfl) trivial ?_
        refine L.step (Ev.pure rfl) rfl ?_
        refine L.nil (QE.m (by kernel_rfl) ?_)
        refine LM.nil (by kernel_rfl) trivial ?_
        refine QE.seq ?_
        refine C.seq ?_
        refine C.regionM [KidsR [(A94, cc94), (T83, rc83), (A107, cc107)] (B8 [(r.set i w3), r.take i, (r.set i w3 ++ [w1])]), KidsR [(A94, cc94), (T83, rc83)] (B8 [(r.set i w3), r.take i]), KidsR [(A94, cc94)] (B8 [(r.set i w3)]), KidsR [] [], Rd T83 (U8 (r.take i)), Rd A18 (rowsV [(A94, cc94), (T83, rc83), (A107, cc107)] (B8 [(r.set i w3), r.take i, (r.set i w3 ++ [w1])])), Rd A107 (U8 (r.set i w3 ++ [w1])), Rd A94 (U8 (r.set i w3)), Rd N (U8 w), Rd A12 [.int .i64 0, .slice O 8 oc, .slice N 8 nc], Rd A5 [.int .u8 (w0.toNat : Int), .int .u8 (w1.toNat : Int), .int .u8 (w2.toNat : Int), .int .u8 (w3.toNat : Int)], Rd T83 (U8 r)] ⟨Has.r 0 rfl, Has.r 1 rfl, Has.r 2 rfl, Has.r 3 rfl, Has.r 4 rfl, Has.r 5 rfl, Has.r 6 rfl, Has.r 7 rfl, Has.r 8 rfl, Has.r 9 rfl, Has.r 10 rfl, Has.r 11 rfl, trivial⟩ ?_
        refine LM.q 0 rfl (by kernel_rfl) (Ev.fieldAddr rfl rfl rfl rfl rfl rfl (Src.r 9 rfl) (Nat.zero_lt_succ _) rfl) rfl ⟨Has.r 0 rfl, Has.r 1 rfl, Has.r 2 rfl, Has.r 3 rfl, Has.r 4 rfl, Has.r 5 rfl, Has.r 6 rfl, Has.r 7 rfl, Has.r 8 rfl, Has.r 9 rfl, Has.r 10 rfl, Has.r 11 rfl, trivial⟩ ?_
        refine LM.q 1 rfl (by kernel_rfl) (Ev.load rfl rfl rfl (Src.r 9 rfl) rfl) rfl ⟨Has.r 0 rfl, Has.r 1 rfl, Has.r 2 rfl, Has.r 3 rfl, Has.r 4 rfl, Has.r 5 rfl, Has.r 6 rfl, Has.r 7 rfl, Has.r 8 rfl, Has.r 9 rfl, Has.r 10 rfl, Has.r 11 rfl, trivial⟩ ?_
        refine LM.q 2 rfl (by kernel_rfl) (Ev.pure rfl) rfl ⟨Has.r 0 rfl, Has.r 1 rfl, Has.r 2 rfl, Has.r 3 rfl, Has.r 4 rfl, Has.r 5 rfl, Has.r 6 rfl, Has.r 7 rfl, Has.r 8 rfl, Has.r 9 rfl, Has.r 10 rfl, Has.r 11 rfl, trivial⟩ ?_
        refine LM.q 3 rfl (by kernel_rfl) (Ev.idxArr (k := k) (m := k) rfl rfl rfl rfl rfl rfl (by omega) (Src.r 5 rfl) (by rw [rowsV_len (by rfl)]; exact Nat.zero_lt_succ _) (by show 0 + k * 1 = k; omega)) rfl ⟨Has.r 0 rfl, Has.r 1 rfl, Has.r 2 rfl, Has.r 3 rfl, Has.r 4 rfl, Has.r 5 rfl, Has.r 6 rfl, Has.r 7 rfl, Has.r 8 rfl, Has.r 9 rfl, Has.r 10 rfl, Has.r 11 rfl, trivial⟩ ?_
        refine LM.q 4 rfl (by kernel_rfl) (Ev.load rfl rfl rfl (Src.r 5 rfl) (rows8_get (by rfl) (by show k < 3; omega))) rfl ⟨Has.r 0 rfl, Has.r 1 rfl, Has.r 2 rfl, Has.r 3 rfl, Has.r 4 rfl, Has.r 5 rfl, Has.r 6 rfl, Has.r 7 rfl, Has.r 8 rfl, Has.r 9 rfl, Has.r 10 rfl, Has.r 11 rfl, trivial⟩ ?_
        refine LM.f 5 rfl (by kernel_rfl) ⟨Has.r 0 rfl, Has.r 1 rfl, Has.r 2 rfl, Has.r 3 rfl, Has.r 4 rfl, Has.r 5 rfl, Has.r 6 rfl, Has.r 7 rfl, Has.r 8 rfl, Has.r 9 rfl, Has.r 10 rfl, Has.r 11 rfl, trivial⟩ ?_
        refine L.call (js := []) (js' := [0]) (res21_g N ([(A94, cc94), (T83, rc83), (A107, cc107)].getD k (none, 0)).1 w ([(r.set i w3), r.take i, (r.set i w3 ++ [w1])].getD k []) 8 nc ([(A94, cc94), (T83, rc83), (A107, cc107)].getD k (none, 0)).2 (resS w ([(r.set i w3), r.take i, (r.set i w3 ++ [w1])].getD k [])) (resE w ([(r.set i w3), r.take i, (r.set i w3 ++ [w1])].getD k [])) hlw rfl rfl (by omega) hl9) rfl rfl rfl (by decide) ⟨(Has.r 8 rfl), ((Has.kid 0 rfl (by rfl) (k) (by show k < 3; omega)).cast (B8_get _)), trivial⟩ rfl ?_
        rintro _ _ _ ⟨R133, rc133, rfl, rfl, rfl⟩
        have hsl := resS_len (b := w) (rec := ([(r.set i w3), r.take i, (r.set i w3 ++ [w1])].getD k []))
        refine L.norm (H' := [_, _]) [0, 1] ⟨rfl, rfl, trivial⟩ (by decide) ?_
        refine L.nil (QE.m (by kernel_rfl) ?_)
        refine LM.q 6 rfl (by kernel_rfl) (Ev.pure rfl) rfl ⟨Has.r 0 rfl, Has.r 1 rfl, Has.r 2 rfl, Has.r 3 rfl, Has.r 4 rfl, Has.r 5 rfl, Has.r 6 rfl, Has.r 7 rfl, Has.r 8 rfl, Has.r 9 rfl, Has.r 10 rfl, Has.r 11 rfl, trivial⟩ ?_
        refine LM.q 7 rfl (by kernel_rfl) (Ev.pure rfl) rfl ⟨Has.r 0 rfl, Has.r 1 rfl, Has.r 2 rfl, Has.r 3 rfl, Has.r 4 rfl, Has.r 5 rfl, Has.r 6 rfl, Has.r 7 rfl, Has.r 8 rfl, Has.r 9 rfl, Has.r 10 rfl, Has.r 11 rfl, trivial⟩ ?_
        refine LM.q 8 rfl (by kernel_rfl) (Ev.pure rfl) rfl ⟨Has.r 0 rfl, Has.r 1 rfl, Has.r 2 rfl, Has.r 3 rfl, Has.r 4 rfl, Has.r 5 rfl, Has.r 6 rfl, Has.r 7 rfl, Has.r 8 rfl, Has.r 9 rfl, Has.r 10 rfl, Has.r 11 rfl, trivial⟩ ?_
        refine LM.f 9 rfl (by kernel_rfl) ⟨Has.r 0 rfl, Has.r 1 rfl, Has.r 2 rfl, Has.r 3 rfl, Has.r 4 rfl, Has.r 5 rfl, Has.r 6 rfl, Has.r 7 rfl, Has.r 8 rfl, Has.r 9 rfl, Has.r 10 rfl, Has.r 11 rfl, trivial⟩ ?_
        refine L.step (Ev.pure rfl) rfl ?_
        refine L.nil (QE.m (by kernel_rfl) ?_)
        refine LM.cut [] (by kernel_rfl) ⟨Has.r 0 rfl, Has.r 1 rfl, Has.r 2 rfl, Has.r 3 rfl, Has.r 4 rfl, Has.r 5 rfl, Has.r 6 rfl, Has.r 7 rfl, Has.r 8 rfl, Has.r 9 rfl, Has.r 10 rfl, Has.r 11 rfl, trivial⟩ ?_
        refine LM.f 10 rfl (by kernel_rfl) trivial ?_
        refine L.step (Ev.pure rfl) rfl ?_
        refine L.nil (QE.m (by kernel_rfl) ?_)
        refine LM.nil (by kernel_rfl) trivial ?_
        refine QE.seq ?_
        refine C.seq ?_
        refine C.region ?_
        refine L.step (Ev.pure rfl) rfl ?_
        refine L.step (Ev.pure rfl) rfl ?_
        refine L.call (js := []) (js' := [0, 1]) (Ctr.tb true (same_g R124 R133 rc124 rc133 (resS w ([(r.set i w3), r.take i, (r.set i w3 ++ [w1])].getD k [])) (resS w ([(r.set i w3), r.take i, (r.set i w3 ++ [w1])].getD k [])) (resS w ([(r.set i w3), r.take i, (r.set i w3 ++ [w1])].getD k [])).length (resS w ([(r.set i w3), r.take i, (r.set i w3 ++ [w1])].getD k [])).length rfl rfl (by omega) (by omega)) (by simp)) rfl rfl rfl (by decide) ⟨(Has.o 1 rfl), (Has.o 0 rfl), trivial⟩ rfl ?_
        rintro _ _ _ ⟨rfl, rfl, rfl⟩
        refine L.norm (H' := [_, _]) [0, 1] ⟨rfl, rfl, trivial⟩ (by decide) ?_
        refine L.step (Ev.pure rfl) rfl ?_
        refine L.step (Ev.pure rfl) rfl ?_
        refine L.yes rfl ?_
        refine L.step (Ev.pure rfl) rfl ?_
        refine L.yes rfl ?_
        refine L.step (Ev.pure rfl) rfl ?_
        refine L.yes rfl ?_
        refine L.step (Ev.pure rfl) rfl ?_
        refine L.step (Ev.pure rfl) rfl ?_
        refine L.nil ?_
        refine QE.seq ?_
        refine C.condB 144 rfl (fun hc144 => ?_) (fun hc144 => ?_)
        · skip
          replace hc144 := b_ne hc144
          exact (hc144 rfl).elim
        · skip
          replace hc144 := b_eq hc144
          refine C.skip ?_
          refine QE.blkN ?_
          refine QE.seq ?_
          refine C.region ?_
          refine L.step (Ev.pure rfl) rfl ?_
          refine L.step (Ev.add rfl rfl (by omega) (by omega)) rfl ?_
          refine L.step (Ev.pure rfl) rfl ?_
          refine L.nil ?_
          refine QE.round (k + 1) (by omega) (by omega) (by exact Le.mk' (rs := [0, 1, 2, 3, 4, 5, 6, 7, 8, 9, 10, 11]) (hs := []) ⟨rfl, rfl, rfl, rfl, rfl, trivial⟩ ⟨rfl, rfl, rfl, rfl, rfl, rfl, rfl, rfl, rfl, rfl, rfl, rfl, trivial⟩ trivial (by decide))
      · skip
        replace hc115 := of_decide_eq_false hc115
        refine C.exit ?_
        refine QE.tX ?_
        refine QE.tX ?_
        refine QE.blk ?_
        refine QE.seq ?_
        refine C.seq ?_
        obtain ⟨f, hf⟩ : ∃ f, f = fl0 (4 + w0.toNat % 12) 5 9 := ⟨_, rfl⟩
        obtain ⟨us, hus⟩ : ∃ us, us = undoL w1 := ⟨_, rfl⟩
        have hbk : Blank f us := made_blank w0 w1 hf hus
        have ok := hbk.ok
        have hu := hbk.hu
        obtain ⟨os1, os2, on1, on2, owl, odl, orows, ol1, ol2, owear⟩ := id ok
        have hone := hbk.one
        have hu0 := hu.r 0 hone
        have hfour := hbk.four
        refine C.region ?_
        refine L.step (Ev.idxArr (k := 0) (m := 0) rfl rfl rfl rfl rfl rfl (by decide) (Src.r 10 rfl) (Nat.zero_lt_succ _) rfl) rfl ?_
        refine L.step (Ev.load rfl rfl rfl (Src.r 10 rfl) rfl) rfl ?_
        refine L.step (Ev.idxArr (k := 1) (m := 1) rfl rfl rfl rfl rfl rfl (by decide) (Src.r 10 rfl) (Nat.zero_lt_succ _) rfl) rfl ?_
        refine L.step (Ev.load rfl rfl rfl (Src.r 10 rfl) rfl) rfl ?_
        refine L.step (Ev.build rfl rfl rfl rfl rfl rfl rfl) rfl ?_
        refine L.call (js := []) (js' := []) (made21_c w0 w1 f us hf hus) rfl rfl rfl (by decide) trivial rfl ?_
        rintro _ _ _ ⟨a, U, uc, hb, hcp, rfl, rfl, rfl⟩
        refine L.norm (H' := [_, _, _, _, _]) [0, 1, 2, 3, 4] ⟨rfl, rfl, rfl, rfl, rfl, trivial⟩ (by decide) ?_
        refine L.step (Ev.pure rfl) rfl ?_
        refine L.step (Ev.pure rfl) rfl ?_
        refine L.step (Ev.pure rfl) rfl ?_
        refine L.alloc rfl rfl rfl (fun A24 => ?_)
        refine L.alloc rfl rfl rfl (fun A25 => ?_)
        refine L.storeA (j := 5) rfl rfl rfl rfl rfl (Nat.zero_lt_succ _) rfl rfl ?_
        refine L.storeA (j := 6) rfl rfl rfl rfl rfl (Nat.zero_lt_succ _) rfl rfl ?_
        refine L.nil ?_
        refine QE.seq ?_
        refine C.seq ?_
        refine C.regionM [KidsR [(A94, cc94), (T83, rc83), (A107, cc107)] (B8 [(r.set i w3), r.take i, (r.set i w3 ++ [w1])]), KidsR [(A94, cc94), (T83, rc83)] (B8 [(r.set i w3), r.take i]), KidsR [(A94, cc94)] (B8 [(r.set i w3)]), KidsR [] [], Rd T83 (U8 (r.take i)), Rd A18 (rowsV [(A94, cc94), (T83, rc83), (A107, cc107)] (B8 [(r.set i w3), r.take i, (r.set i w3 ++ [w1])])), Rd A107 (U8 (r.set i w3 ++ [w1])), Rd A94 (U8 (r.set i w3)), Rd N (U8 w), Rd A12 [.int .i64 0, .slice O 8 oc, .slice N 8 nc], Rd A5 [.int .u8 (w0.toNat : Int), .int .u8 (w1.toNat : Int), .int .u8 (w2.toNat : Int), .int .u8 (w3.toNat : Int)], Rd T83 (U8 r), Rd A24 [.int .i64 (f.size : Int), .slice a.D f.data.length a.cD, .slice a.W f.wear.length a.cW, .int .i64 f.limit, .slice a.E f.dead.length a.cE], Rd A25 [.int .i64 0, .int .i64 0, .int .i64 0, .int .i64 0, .int .i64 0, .slice none 0 0, .slice U us.length uc, .slice none 0 0], Rd a.D (rowsV a.hs (B8 f.data)), KidsR a.hs (B8 f.data), Rd U (I64 us)] ⟨Has.r 0 rfl, Has.r 1 rfl, Has.r 2 rfl, Has.r 3 rfl, Has.r 4 rfl, Has.r 5 rfl, Has.r 6 rfl, Has.r 7 rfl, Has.r 8 rfl, Has.r 9 rfl, Has.r 10 rfl, Has.r 11 rfl, Has.o 5 rfl, Has.o 6 rfl, Has.o 0 rfl, Has.okids 1 rfl, Has.o 4 rfl, trivial⟩ ?_
        refine LM.q 0 rfl (by kernel_rfl) (Ev.fieldAddr rfl rfl rfl rfl rfl rfl (Src.r 12 rfl) (Nat.zero_lt_succ _) rfl) rfl ⟨Has.r 0 rfl, Has.r 1 rfl, Has.r 2 rfl, Has.r 3 rfl, Has.r 4 rfl, Has.r 5 rfl, Has.r 6 rfl, Has.r 7 rfl, Has.r 8 rfl, Has.r 9 rfl, Has.r 10 rfl, Has.r 11 rfl, Has.o 5 rfl, Has.o 6 rfl, Has.o 0 rfl, Has.okids 1 rfl, Has.o 4 rfl, trivial⟩ ?_
        refine LM.q 1 rfl (by kernel_rfl) (Ev.load rfl rfl rfl (Src.r 12 rfl) rfl) rfl ⟨Has.r 0 rfl, Has.r 1 rfl, Has.r 2 rfl, Has.r 3 rfl, Has.r 4 rfl, Has.r 5 rfl, Has.r 6 rfl, Has.r 7 rfl, Has.r 8 rfl, Has.r 9 rfl, Has.r 10 rfl, Has.r 11 rfl, Has.o 5 rfl, Has.o 6 rfl, Has.o 0 rfl, Has.okids 1 rfl, Has.o 4 rfl, trivial⟩ ?_
        refine LM.q 2 rfl (by kernel_rfl) (Ev.fieldAddr rfl rfl rfl rfl rfl rfl (Src.r 13 rfl) (Nat.zero_lt_succ _) rfl) rfl ⟨Has.r 0 rfl, Has.r 1 rfl, Has.r 2 rfl, Has.r 3 rfl, Has.r 4 rfl, Has.r 5 rfl, Has.r 6 rfl, Has.r 7 rfl, Has.r 8 rfl, Has.r 9 rfl, Has.r 10 rfl, Has.r 11 rfl, Has.o 5 rfl, Has.o 6 rfl, Has.o 0 rfl, Has.okids 1 rfl, Has.o 4 rfl, trivial⟩ ?_
        refine LM.q 3 rfl (by kernel_rfl) (Ev.load rfl rfl rfl (Src.r 13 rfl) rfl) rfl ⟨Has.r 0 rfl, Has.r 1 rfl, Has.r 2 rfl, Has.r 3 rfl, Has.r 4 rfl, Has.r 5 rfl, Has.r 6 rfl, Has.r 7 rfl, Has.r 8 rfl, Has.r 9 rfl, Has.r 10 rfl, Has.r 11 rfl, Has.o 5 rfl, Has.o 6 rfl, Has.o 0 rfl, Has.okids 1 rfl, Has.o 4 rfl, trivial⟩ ?_
        refine LM.q 4 rfl (by kernel_rfl) (Ev.idx1 (k := 0) rfl rfl rfl rfl rfl rfl rfl (by omega) (Src.r 16 rfl) (by rw [I64_len]; omega)) rfl ⟨Has.r 0 rfl, Has.r 1 rfl, Has.r 2 rfl, Has.r 3 rfl, Has.r 4 rfl, Has.r 5 rfl, Has.r 6 rfl, Has.r 7 rfl, Has.r 8 rfl, Has.r 9 rfl, Has.r 10 rfl, Has.r 11 rfl, Has.o 5 rfl, Has.o 6 rfl, Has.o 0 rfl, Has.okids 1 rfl, Has.o 4 rfl, trivial⟩ ?_
        refine LM.q 5 rfl (by kernel_rfl) (Ev.load rfl rfl rfl (Src.r 16 rfl) (I64_get (by omega))) rfl ⟨Has.r 0 rfl, Has.r 1 rfl, Has.r 2 rfl, Has.r 3 rfl, Has.r 4 rfl, Has.r 5 rfl, Has.r 6 rfl, Has.r 7 rfl, Has.r 8 rfl, Has.r 9 rfl, Has.r 10 rfl, Has.r 11 rfl, Has.o 5 rfl, Has.o 6 rfl, Has.o 0 rfl, Has.okids 1 rfl, Has.o 4 rfl, trivial⟩ ?_
        refine LM.q 6 rfl (by kernel_rfl) (Ev.idx1 (k := (us.getD 0 0).toNat) rfl rfl rfl rfl rfl rfl (by omega) (by omega) (Src.r 14 rfl) (by rw [rowsV_len (by rw [B8_len]; exact hb), B8_len]; omega)) rfl ⟨Has.r 0 rfl, Has.r 1 rfl, Has.r 2 rfl, Has.r 3 rfl, Has.r 4 rfl, Has.r 5 rfl, Has.r 6 rfl, Has.r 7 rfl, Has.r 8 rfl, Has.r 9 rfl, Has.r 10 rfl, Has.r 11 rfl, Has.o 5 rfl, Has.o 6 rfl, Has.o 0 rfl, Has.okids 1 rfl, Has.o 4 rfl, trivial⟩ ?_
        refine LM.q 7 rfl (by kernel_rfl) (Ev.load rfl rfl rfl (Src.r 14 rfl) (rows8_get hb hbk.u)) rfl ⟨Has.r 0 rfl, Has.r 1 rfl, Has.r 2 rfl, Has.r 3 rfl, Has.r 4 rfl, Has.r 5 rfl, Has.r 6 rfl, Has.r 7 rfl, Has.r 8 rfl, Has.r 9 rfl, Has.r 10 rfl, Has.r 11 rfl, Has.o 5 rfl, Has.o 6 rfl, Has.o 0 rfl, Has.okids 1 rfl, Has.o 4 rfl, trivial⟩ ?_
        refine LM.f 8 rfl (by kernel_rfl) ⟨Has.r 0 rfl, Has.r 1 rfl, Has.r 2 rfl, Has.r 3 rfl, Has.r 4 rfl, Has.r 5 rfl, Has.r 6 rfl, Has.r 7 rfl, Has.r 8 rfl, Has.r 9 rfl, Has.r 10 rfl, Has.r 11 rfl, Has.o 5 rfl, Has.o 6 rfl, Has.o 0 rfl, Has.okids 1 rfl, Has.o 4 rfl, trivial⟩ ?_
        refine L.step (Ev.idxArr (k := 2) (m := 2) rfl rfl rfl rfl rfl rfl (by decide) (Src.r 10 rfl) (Nat.zero_lt_succ _) rfl) rfl ?_
        refine L.nil (QE.m (by kernel_rfl) ?_)
        refine LM.f 9 rfl (by kernel_rfl) ⟨Has.r 0 rfl, Has.r 1 rfl, Has.r 2 rfl, Has.r 3 rfl, Has.r 4 rfl, Has.r 5 rfl, Has.r 6 rfl, Has.r 7 rfl, Has.r 8 rfl, Has.r 9 rfl, Has.r 10 rfl, Has.r 11 rfl, Has.o 5 rfl, Has.o 6 rfl, Has.o 0 rfl, Has.okids 1 rfl, Has.o 4 rfl, trivial⟩ ?_
        refine L.step (Ev.load rfl rfl rfl (Src.r 10 rfl) rfl) rfl ?_
        refine L.nil (QE.m (by kernel_rfl) ?_)
        refine LM.cut [] (by kernel_rfl) ⟨Has.r 0 rfl, Has.r 1 rfl, Has.r 2 rfl, Has.r 3 rfl, Has.r 4 rfl, Has.r 5 rfl, Has.r 6 rfl, Has.r 7 rfl, Has.r 8 rfl, Has.r 9 rfl, Has.r 10 rfl, Has.r 11 rfl, Has.o 5 rfl, Has.o 6 rfl, Has.o 0 rfl, Has.okids 1 rfl, Has.o 4 rfl, trivial⟩ ?_
        refine LM.f 10 rfl (by kernel_rfl) trivial ?_
        refine L.step (Ev.idx1 (k := 1) rfl rfl rfl rfl rfl rfl rfl (by have := orows (us.getD 0 0).toNat hbk.u; omega) (Src.okid 1 rfl (by rw [B8_len]; exact hb) (us.getD 0 0).toNat (by rw [B8_len]; exact hbk.u)) (by rw [B8_get, U8_len]; have := orows (us.getD 0 0).toNat hbk.u; omega)) rfl ?_
        refine L.nil (QE.m (by kernel_rfl) ?_)
        refine LM.f 11 rfl (by kernel_rfl) trivial ?_
        refine L.storeKid (j := 1) (i := (us.getD 0 0).toNat) rfl rfl (by rw [B8_len]; exact hb) (by rw [B8_len]; exact hbk.u) rfl rfl rfl rfl rfl (by rw [B8_get, U8_len]; have := orows (us.getD 0 0).toNat hbk.u; omega) ?_
        refine L.nil (QE.m (by kernel_rfl) ?_)
        refine LM.nil (by kernel_rfl) trivial ?_
        refine QE.seq ?_
        refine C.seq ?_
        refine C.le (Γ' := [(5, ptrOf A5 0), (7, .bool true), (24, ptrOf A24 0), (25, ptrOf A25 0)]) (R' := [Rd A5 [.int .u8 (w0.toNat : Int), .int .u8 (w1.toNat : Int), .int .u8 (w2.toNat : Int), .int .u8 (w3.toNat : Int)]]) (H' := [Own 24 1 a.D (byteF f (us.getD 0 0).toNat w2).data.length a.cD (rowsV a.hs (B8 (byteF f (us.getD 0 0).toNat w2).data)), OwnKids 5 a.hs (B8 (byteF f (us.getD 0 0).toNat w2).data), Own 3 1 a.W (byteF f (us.getD 0 0).toNat w2).wear.length a.cW (I64 (byteF f (us.getD 0 0).toNat w2).wear), Own 4 1 a.E (byteF f (us.getD 0 0).toNat w2).dead.length a.cE (Bs (byteF f (us.getD 0 0).toNat w2).dead), Own 3 1 U us.length uc (I64 us), Own 32 5 A24 1 1 [.int .i64 (f.size : Int), .slice a.D (byteF f (us.getD 0 0).toNat w2).data.length a.cD, .slice a.W f.wear.length a.cW, .int .i64 f.limit, .slice a.E f.dead.length a.cE], Own 35 8 A25 1 1 [.int .i64 0, .int .i64 0, .int .i64 0, .int .i64 0, .int .i64 0, .slice none 0 0, .slice U us.length uc, .slice none 0 0]]) (by exact Le.mk' (rs := [10]) (hs := [0, 1, 2, 3, 4, 5, 6]) ⟨rfl, rfl, rfl, rfl, trivial⟩ ⟨rfl, trivial⟩ ⟨(congrArg some (own_eq (byteF_dl _ _).symm (rowsV_set hb hbk.u (List.length_set ..)).symm)), (congrArg some (by rw [B8_get, U8_set, B8_set]; rfl)), rfl, rfl, rfl, (congrArg some (own_eq rfl (by rw [show (byteF f (us.getD 0 0).toNat w2).data.length = f.data.length from byteF_dl _ _]; rfl))), rfl, trivial⟩ (by decide)) ?_
        refine C.freeze 0 rfl [1, 2, 3, 4, 5, 6] (by decide) (by decide) ?_
        refine C.norm (H' := [_, _, _, _, _, _]) [0, 1, 2, 3, 4, 5] ⟨rfl, rfl, rfl, rfl, rfl, rfl, trivial⟩ (by decide) ?_
        refine C.freezeKids 0 rfl [1, 2, 3, 4, 5] (by decide) (by decide) ?_
        refine C.norm (H' := [_, _, _, _, _]) [0, 1, 2, 3, 4] ⟨rfl, rfl, rfl, rfl, rfl, trivial⟩ (by decide) ?_
        refine C.freeze 0 rfl [1, 2, 3, 4] (by decide) (by decide) ?_
        refine C.norm (H' := [_, _, _, _]) [0, 1, 2, 3] ⟨rfl, rfl, rfl, rfl, trivial⟩ (by decide) ?_
        refine C.freeze 0 rfl [1, 2, 3] (by decide) (by decide) ?_
        refine C.norm (H' := [_, _, _]) [0, 1, 2] ⟨rfl, rfl, rfl, trivial⟩ (by decide) ?_
        refine C.freeze 0 rfl [1, 2] (by decide) (by decide) ?_
        refine C.norm (H' := [_, _]) [0, 1] ⟨rfl, rfl, trivial⟩ (by decide) ?_
        refine C.freeze 0 rfl [1] (by decide) (by decide) ?_
        refine C.norm (H' := [_]) [0] ⟨rfl, trivial⟩ (by decide) ?_
        refine C.freeze 0 rfl [] (by decide) (by decide) ?_
        refine C.region ?_
        refine L.step (Ev.loadA rfl rfl rfl (Src.r 1 rfl) rfl rfl (by decide)) rfl ?_
        refine L.step (Ev.loadA rfl rfl rfl (Src.r 0 rfl) rfl rfl (by decide)) rfl ?_
        refine L.step (Ev.idxArr (k := 3) (m := 3) rfl rfl rfl rfl rfl rfl (by decide) (Src.r 7 rfl) (Nat.zero_lt_succ _) rfl) rfl ?_
        refine L.step (Ev.load rfl rfl rfl (Src.r 7 rfl) rfl) rfl ?_
        refine L.lit rfl rfl rfl rfl rfl (by rfl) (by rfl) (by rfl) rfl rfl (fun A169 => ?_)
        refine L.step (Ev.build rfl rfl rfl rfl rfl rfl rfl) rfl ?_
        refine L.freeze 0 rfl [] (by decide) (by decide) ?_
        refine L.callR (js := []) (js' := []) (ltow_k (byteF f (us.getD 0 0).toNat w2) a (byteF_ok ok _ _) (by rw [byteF_dl]; exact hb) us U uc (hu.of (byteF_dl _ _)) 0 [255, w3] A169 2 (by simp) (by simp) (hcp.of (byteF_dl _ _) rfl) (towS (byteF f (us.getD 0 0).toNat w2) us 0 [255, w3]) rfl) rfl rfl rfl (by decide) ⟨(Has.r 7 rfl), (Has.r 6 rfl), (Has.r 5 rfl), (Has.r 4 rfl), (Has.r 3 rfl), (Has.r 0 rfl), trivial⟩ rfl ?_
        rintro _ _ _ ⟨T171, t171, rfl, rfl, rfl⟩
        refine L.alloc rfl rfl rfl (fun A26 => ?_)
        refine L.storeA (j := 0) rfl rfl rfl rfl rfl (Nat.zero_lt_succ _) rfl rfl ?_
        refine L.nil ?_
        refine QE.seq ?_
        refine C.seq ?_
        refine C.freeze 0 rfl [] (by decide) (by decide) ?_
        refine C.region ?_
        refine L.step (Ev.fieldAddr rfl rfl rfl rfl rfl rfl (Src.r 0 rfl) (Nat.zero_lt_succ _) rfl) rfl ?_
        refine L.step (Ev.load rfl rfl rfl (Src.r 0 rfl) rfl) rfl ?_
        refine L.step (Ev.pure rfl) rfl ?_
        refine L.step (Ev.idxArr (k := 2) (m := 2) rfl rfl rfl rfl rfl rfl (by decide) (Src.r 10 rfl) (Nat.zero_lt_succ _) rfl) rfl ?_
        refine L.step (Ev.load rfl rfl rfl (Src.r 10 rfl) rfl) rfl ?_
        refine L.step (Ev.idxArr (k := 3) (m := 3) rfl rfl rfl rfl rfl rfl (by decide) (Src.r 10 rfl) (Nat.zero_lt_succ _) rfl) rfl ?_
        refine L.step (Ev.load rfl rfl rfl (Src.r 10 rfl) rfl) rfl ?_
        first | refine L.step (Ev.and8 rfl rfl) rfl ?_ | refine L.step (Ev.pure rfl) rfl ?_
        refine L.step (Ev.idxArr (k := 3) (m := 3) rfl rfl rfl rfl rfl rfl (by decide) (Src.r 10 rfl) (Nat.zero_lt_succ _) rfl) rfl ?_
        refine L.step (Ev.load rfl rfl rfl (Src.r 10 rfl) rfl) rfl ?_
        refine L.step (Ev.pure rfl) rfl ?_
        refine L.step (Ev.eqBool rfl rfl rfl rfl) rfl ?_
        refine L.step (Ev.pure rfl) rfl ?_
        refine L.bool 184 rfl (fun hg184 => ?_) (fun hg184 => ?_)
        · skip
          refine L.yes rfl ?_
          refine L.step (Ev.pure rfl) rfl ?_
          refine L.step (Ev.pure rfl) rfl ?_
          refine L.step (Ev.pure rfl) rfl ?_
          refine L.nil ?_
          refine QE.seq ?_
          refine C.ret ?_
          refine QE.ret (js := []) (hs := []) (vs := [_]) rfl ⟨rfl, trivial⟩ (by decide) ?_
          exact ⟨rfl, rfl, rfl⟩
        · skip
          exact (tow_fin hbk w2 w3 hg184).elim

end Go.Proofs.Ythfjkdgopkmgoaa
