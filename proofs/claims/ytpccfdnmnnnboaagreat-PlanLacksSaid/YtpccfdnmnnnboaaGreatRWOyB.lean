/-
  Apply of the program.
-/
import Derived.Test.YtpccfdnmnnnboaaGreatROm
import Derived.Test.YtpccfdnmnnnboaaGreatROj
section
namespace Go.Proofs.YtpccfdnmnnnboaaGreat
open Go.Sl

theorem apply_ok {old : List UInt8} {inn out : Int} {ops : List Po} (hE : chkE inn out ops = 0) (hin : inn = (old.length : Int)) : runOk old (syS inn out ops) ∧ (syS inn out ops).length ≤ 1000000 := by
 obtain ⟨k1, k2, k3, k4, k5, k6⟩ := chkE_ok hE
 have hs : syS inn out ops = symL ops := by unfold syS; rw [if_pos hE]
 have htot := chkG_tot ops out k3 k6
 rw [hs]
 refine ⟨fun i hi ho => ?_, by omega⟩
 have hat := symL_atI k6 (k := i) hi
 have := hat.2.1 ho
 omega

set_option maxHeartbeats 1000000 in
theorem apply_c (B : Option Addr) (old : List UInt8) (bc : Nat) (lf : Bool) (inn out : Int) (ops : List Po) (OA : Option Addr) (oc : Nat) (hops : ops.length ≤ 9223372036854775807) (hlf : lf = false) (hE : chkE inn out ops = 0) (hin : inn = (old.length : Int)) :
   Ctr X 26 [.slice B old.length bc, .agg (List.toArray [.bool lf, .int .i64 inn, .int .i64 out, .slice OA ops.length oc])] [Rd B (U8 old), Rd OA (opsV ops)] [] (fun v R' H' => ∃ (A : Option Addr) (c : Nat), v = .tuple #[.slice A (runB old (syS inn out ops)).length c, .int .i64 0] ∧ R' = [] ∧ H' = [Own 5 1 A (runB old (syS inn out ops)).length c (U8 (runB old (syS inn out ops)))]) := by
 refine Ctr.of (X := X) (fn := Tryz.f26) Tryz.func26 rfl (by kernel_rfl) rfl ?_
 intro β
 have hrun := apply_ok hE hin
 refine C.seq (C.region ?_)
 refine L.boxA rfl rfl (fun A3 => ?_)
 refine Lpu rfl rfl ?_; refine Lpu rfl rfl ?_; refine L.nil (QE.seq (C.seq ?_)); refine C.freeze 0 rfl [] (by decide) (by decide) ?_; refine C.region ?_; refine L.step (Ev.loadA (vs := [.bool lf, .int .i64 inn, .int .i64 out, .slice OA ops.length oc]) rfl rfl rfl (Src.r 0 rfl) rfl rfl (by decide)) rfl ?_; refine L.call (js := []) (js' := []) (symbols_c lf inn out ops OA oc hops) rfl rfl rfl (by decide) (Hq [2] rfl) rfl ?_
 rintro _ _ _ ⟨SA, sc, rfl, rfl, rfl⟩
 refine L.norm (H' := [_]) [0] ⟨rfl, trivial⟩ (by decide) ?_; refine Lpu rfl rfl ?_; refine Lpu rfl rfl ?_; refine Lpu rfl rfl ?_; refine Lpu rfl rfl ?_; refine Lpu rfl rfl ?_; refine L.nil (QE.seq (C.seq (C.seq ?_))); refine C.freeze 0 rfl [] (by decide) (by decide) ?_; refine C.region ?_; refine Lpu rfl rfl ?_; refine Lpu rfl rfl ?_; refine L.nil (QE.seq ?_)
 refine C.condB 18 rfl (fun hc18 => ?_) (fun hc18 => ?_)
 ·
  replace hc18 := b_ne hc18
  exact absurd hE hc18
 ·
  replace hc18 := b_eq hc18
  refine C.skip (QE.seq (C.seq (C.seq (C.region ?_)))); refine L.step (Ev.fieldAddr rfl rfl rfl rfl rfl rfl (Src.r 1 rfl) (Nat.zero_lt_succ _) rfl) rfl ?_; refine L.step (Ev.load rfl rfl rfl (Src.r 1 rfl) rfl) rfl ?_; refine L.nil (QE.seq ?_)
  refine C.condB 21 rfl (fun hc21 => ?_) (fun hc21 => ?_)
  ·
   rw [hlf] at hc21; cases hc21
  ·
   refine C.skip (QE.seq (C.seq (C.seq (C.region ?_)))); refine Lpu rfl rfl ?_; refine Lpu rfl rfl ?_; refine L.step (Ev.fieldAddr rfl rfl rfl rfl rfl rfl (Src.r 1 rfl) (Nat.zero_lt_succ _) rfl) rfl ?_; refine L.step (Ev.load rfl rfl rfl (Src.r 1 rfl) rfl) rfl ?_; refine Lpu rfl rfl ?_; refine L.nil (QE.seq ?_)
   refine C.condB 35 rfl (fun hc35 => ?_) (fun hc35 => ?_)
   ·
    replace hc35 := b_ne hc35
    omega
   ·
    replace hc35 := b_eq hc35
    refine C.skip (QE.seq (C.seq (C.region ?_))); refine Lpu rfl rfl ?_; refine Lpu rfl rfl ?_; refine L.call (js := []) (js' := []) (run_c B SA old (syS inn out ops) bc sc hrun.2 hrun.1) rfl rfl rfl (by decide) (Hq [2, 0] rfl) rfl ?_
    rintro _ _ _ ⟨YA, yc, rfl, rfl, rfl⟩
    refine L.norm (H' := [_]) [0] ⟨rfl, trivial⟩ (by decide) ?_; refine Lpu rfl rfl ?_; refine Lpu rfl rfl ?_; refine Lpu rfl rfl ?_; refine Lpu rfl rfl ?_; refine Lpu rfl rfl ?_; refine L.nil (QE.seq (C.seq (C.seq (C.region ?_)))); refine Lpu rfl rfl ?_; refine Lpu rfl rfl ?_; refine Lpu rfl rfl ?_
    refine L.bool 44 rfl (fun hg44 => ?_) (fun hg44 => ?_)
    ·
     replace hg44 := b_ne hg44
     exact absurd rfl hg44
    ·
     replace hg44 := b_eq hg44
     refine L.yes rfl ?_; refine L.step (Ev.fieldAddr rfl rfl rfl rfl rfl rfl (Src.r 1 rfl) (Nat.zero_lt_succ _) rfl) rfl ?_; refine L.yes rfl ?_; refine L.step (Ev.load rfl rfl rfl (Src.r 1 rfl) rfl) rfl ?_; refine L.yes rfl ?_; refine Lpu rfl rfl ?_; refine Lpu rfl rfl ?_; refine L.nil (QE.seq ?_)
     refine C.condB 48 rfl (fun hc48 => ?_) (fun hc48 => ?_)
     ·
      refine C.seq (C.region ?_); refine Lpu rfl rfl ?_; refine Lpu rfl rfl ?_; refine Lpu rfl rfl ?_; refine Lpu rfl rfl ?_; refine L.nil (QE.seq (C.ret (QE.tR ?_))); refine QE.ret (js := []) (hs := [0]) (vs := [_, _]) rfl ⟨rfl, rfl, trivial⟩ (by decide) ?_
      exact ⟨YA, yc, rfl, rfl, rfl⟩
     ·
      rw [hlf] at hc48; cases hc48

end Go.Proofs.YtpccfdnmnnnboaaGreat
end
/-
  An image that is written in the order, sector by sector.
-/
section
namespace Go.Sl

/-! ### The stash and the order that are found, at most sixteen sectors -/
theorem ord16 {ls : List (List Int)} (hr : readB ls = true) (hn : ls.length ≤ 16) : ∃ s, s < 2 ^ ls.length ∧ ordH ls = mem s 64 ∧ ordQ ls = frs ls.length (rdP ls) s.testBit ls.length ∧ fullB ls.length (rdP ls) s.testBit = true ∧ ordE ls = 0 := by
 have hle : ∀ s, s < 2 ^ ls.length → (mem s 64).length ≤ ls.length := fun s hs => by rw [mem64 (by omega) hs]; exact mem_len _ _
 have hb : 2 ^ ls.length ≤ 2 ^ 16 := Nat.pow_le_pow_right (by decide) hn
 have h16 : (2 : Nat) ^ 16 = 65536 := by decide
 cases h : ordR ls with
 | none =>
   have h0 := srch_none_iff.1 h
   have hs : 2 ^ ls.length - 1 < 2 ^ ls.length := by have := Nat.two_pow_pos ls.length; omega
   have := bst_none.1 (h0 (mem (2 ^ ls.length - 1) 64).length (by have := hle _ hs; omega)) _ hs rfl
   rw [full_prg.2 (Prg.all fun t ht => by rw [Nat.testBit_two_pow_sub_one]; exact decide_eq_true ht)] at this
   cases this
 | some b =>
   obtain ⟨k, h1, h2, h3⟩ := srch_some h
   obtain ⟨⟨s, a1, rfl, a3, a4⟩, _⟩ := bst_some h2
   refine ⟨s, a1, ?_, ?_, a4, ordE_0 hr hn⟩
   · rw [ordH_ok hr hn, h]; rfl
   · rw [ordQ_ok hr hn, h, sqO_mem (by omega)]
/-! ### Readings -/
section
variable {l : List Sy} {inn : Int} {S n : Nat}
end
/-! ### Blocks are right -/
end Go.Sl
end
/-
  An image that is written in the order, sector by sector: it gives the output.
-/
section
namespace Go.Sl

def playX (sy : List Sy) (cp now : List UInt8) (st : List Nat) (S i : Nat) : UInt8 :=
 if (sy.getD i Sy.zero).old = true then (sy.getD i Sy.zero).b + (if st.contains (rdT (sy.getD i Sy.zero) S) = true then cp.getD (sy.getD i Sy.zero).at_.toNat 0 else now.getD (sy.getD i Sy.zero).at_.toNat 0) else (sy.getD i Sy.zero).b
def playT (sy : List Sy) (cp now : List UInt8) (st : List Nat) (S t : Nat) : Nat → List UInt8
 | 0 => now
 | j + 1 => (playT sy cp now st S t j).set (t * S + j) (playX sy cp now st S (t * S + j))
def playM (sy : List Sy) (S t : Nat) : Nat := min S (sy.length - t * S)
def playN (sy : List Sy) (cp : List UInt8) (st seq : List Nat) (S : Nat) : Nat → List UInt8
 | 0 => cp
 | k + 1 => playT sy cp (playN sy cp st seq S k) st S (seq.getD k 0) (playM sy S (seq.getD k 0))
theorem playT_len (sy : List Sy) (cp now : List UInt8) (st : List Nat) (S t : Nat) : ∀ j, (playT sy cp now st S t j).length = now.length
 | 0 => rfl
 | j + 1 => by rw [playT, List.length_set, playT_len sy cp now st S t j]
theorem playN_len (sy : List Sy) (cp : List UInt8) (st seq : List Nat) (S : Nat) : ∀ k, (playN sy cp st seq S k).length = cp.length
 | 0 => rfl
 | k + 1 => by rw [playN, playT_len, playN_len sy cp st seq S k]
theorem playT_get {sy : List Sy} {cp now : List UInt8} {st : List Nat} {S t : Nat} (i : Nat) : ∀ j, t * S + j ≤ now.length → (playT sy cp now st S t j).getD i 0 = if t * S ≤ i ∧ i < t * S + j then playX sy cp now st S i else now.getD i 0
 | 0, _ => by rw [playT, if_neg (by omega)]
 | j + 1, h => by
   rw [playT, List.getD_eq_getElem?_getD, List.getElem?_set, playT_len]
   by_cases e : t * S + j = i
   · rw [if_pos e, if_pos (by omega), if_pos (by omega), e]
     rfl
   · rw [if_neg e, ← List.getD_eq_getElem?_getD, playT_get i j (by omega)]
     by_cases g : t * S ≤ i ∧ i < t * S + j
     · rw [if_pos g, if_pos (by omega)]
     · rw [if_neg g, if_neg (by omega)]
structure Plays (sy : List Sy) (old cp : List UInt8) (st seq : List Nat) (S n : Nat) : Prop where
 s : 1 ≤ S
 out : sy.length ≤ n * S
 cl : cp.length = n * S
 inn : old.length ≤ n * S
 c : ∀ i, i < old.length → cp.getD i 0 = old.getD i 0
 nd : seq.Nodup
 lt : ∀ t ∈ seq, t < n
 ok : runOk old sy
 ord : ∀ k, k < seq.length → ∀ i, i < sy.length → i / S = seq.getD k 0 → (sy.getD i Sy.zero).old = true → rdT (sy.getD i Sy.zero) S ∈ st ∨ rdT (sy.getD i Sy.zero) S ∉ seq.take k ∨ ∀ i', i' / S = rdT (sy.getD i Sy.zero) S → i' < old.length → i' < sy.length ∧ sy.getD i' Sy.zero = ⟨true, (i' : Int), 0⟩
theorem runB_get {old : List UInt8} {l : List Sy} {i : Nat} (h : i < l.length) : (runB old l).getD i 0 = symB old (l.getD i Sy.zero) := by
 unfold runB
 rw [List.getD_eq_getElem?_getD, List.getElem?_map, List.getElem?_eq_getElem h, List.getD_eq_getElem?_getD, List.getElem?_eq_getElem h]
 rfl
theorem sec_lt {S n t : Nat} (h : t < n) : t * S + S ≤ n * S := by
 have := Nat.mul_le_mul_right S (Nat.succ_le_of_lt h)
 rwa [Nat.succ_mul] at this
section
variable {sy : List Sy} {old cp : List UInt8} {st seq : List Nat} {S n : Nat} (H : Plays sy old cp st seq S n)
include H
theorem Plays.inv : ∀ k, k ≤ seq.length → ∀ i, i < n * S → (playN sy cp st seq S k).getD i 0 = if i < sy.length ∧ i / S ∈ seq.take k then symB old (sy.getD i Sy.zero) else cp.getD i 0
 | 0, _, i, _ => by
   rw [if_neg (by simp)]
   rfl
 | k + 1, hk, i, hi => by
   have hS := H.s
   have ht : seq.getD k 0 ∈ seq := by
     rw [List.getD_eq_getElem?_getD, List.getElem?_eq_getElem (by omega)]
     exact List.getElem_mem (by omega)
   have htn := sec_lt (S := S) (H.lt _ ht)
   have hlen := playN_len sy cp st seq S k
   have hm : playM sy S (seq.getD k 0) ≤ S := Nat.min_le_left _ _
   have hnot : seq.getD k 0 ∉ seq.take k := by
     intro h
     obtain ⟨j, hj, e⟩ := List.getElem_of_mem h
     rw [List.length_take] at hj
     rw [List.getElem_take] at e
     rw [List.getD_eq_getElem?_getD, List.getElem?_eq_getElem (show k < seq.length by omega)] at e
     have := (List.getElem_inj H.nd).1 e
     omega
   have htk : seq.take (k + 1) = seq.take k ++ [seq.getD k 0] := take_snoc' seq 0 k (by omega)
   have ih := Plays.inv k (by omega)
   rw [playN, playT_get i _ (by rw [hlen, H.cl]; omega)]
   have hin : (seq.getD k 0 * S ≤ i ∧ i < seq.getD k 0 * S + S) ↔ i / S = seq.getD k 0 := (in_sector hS).symm
   generalize ht0 : seq.getD k 0 = t at *
   by_cases g : t * S ≤ i ∧ i < t * S + playM sy S t
   · rw [if_pos g]
     have hit : i / S = t := hin.1 (by omega)
     have hio : i < sy.length := by unfold playM at g; omega
     rw [if_pos ⟨hio, by rw [htk, hit]; simp⟩]
     unfold playX symB
     by_cases ho : (sy.getD i Sy.zero).old = true
     · rw [if_pos ho, if_pos ho]
       congr 1
       have hat := H.ok i hio ho
       have hin2 := H.inn
       have hc : cp.getD (sy.getD i Sy.zero).at_.toNat 0 = old.getD (sy.getD i Sy.zero).at_.toNat 0 := H.c _ (by omega)
       split
       · exact hc
       · rename_i hst
         rw [ih _ (by omega)]
         have hu : (sy.getD i Sy.zero).at_.toNat / S = rdT (sy.getD i Sy.zero) S := rfl
         rw [hu]
         rcases H.ord k (by omega) i hio (by rw [ht0]; exact hit) ho with h | h | h
         · exact absurd (List.contains_iff_mem.2 h) hst
         · rw [if_neg (fun q => h q.2)]
           exact hc
         · obtain ⟨h1, h2⟩ := h _ hu (by omega)
           split
           · rw [h2]
             unfold symB
             rw [if_pos rfl]
             dsimp only
             rw [Int.toNat_natCast, UInt8.zero_add]
           · exact hc
     · rw [if_neg ho, if_neg ho]
   · rw [if_neg g, ih i hi]
     by_cases hit : i / S = t
     · have hio : ¬ i < sy.length := by
         intro q
         have := hin.2 hit
         unfold playM at g
         omega
       rw [if_neg (fun q => hio q.1), if_neg (fun q => hio q.1)]
     · have : i / S ∈ seq.take (k + 1) ↔ i / S ∈ seq.take k := by
         rw [htk]
         simp [hit]
       simp only [this]
theorem Plays.all (hc : seq.length = n) : (playN sy cp st seq S seq.length).take sy.length = runB old sy := by
 have hS := H.s
 have hout := H.out
 have hl : (playN sy cp st seq S seq.length).length = n * S := by rw [playN_len, H.cl]
 refine List.ext_getElem (by rw [List.length_take, hl, runB_len]; omega) fun i h1 h2 => ?_
 rw [runB_len] at h2
 have h3 := H.inv seq.length (Nat.le_refl _) i (by omega)
 have hin : i / S < n := by
   rw [Nat.div_lt_iff_lt_mul (by omega)]
   omega
 rw [if_pos ⟨h2, by rw [List.take_length]; exact full_has H.nd H.lt hc hin⟩, ← runB_get h2] at h3
 rw [List.getElem_take]
 rw [List.getD_eq_getElem?_getD, List.getD_eq_getElem?_getD, List.getElem?_eq_getElem (by omega), List.getElem?_eq_getElem (by rw [runB_len]; exact h2)] at h3
 exact h3
end
end Go.Sl
end
/-
  The order of a patch's readings lets its image be written.
-/
section
namespace Go.Sl

theorem rdN_cover {inn out : Int} {S : Nat} (hS : 1 ≤ S) : inn ≤ ((rdN inn out S * S : Nat) : Int) ∧ out ≤ ((rdN inn out S * S : Nat) : Int) := by
 have h : (max inn out).toNat ≤ rdN inn out S * S := by
   unfold rdN
   have h1 := Nat.div_add_mod ((max inn out).toNat + S - 1) S
   have h2 := Nat.mod_lt ((max inn out).toNat + S - 1) (show 0 < S by omega)
   rw [Nat.mul_comm] at h1
   omega
 omega
end Go.Sl
end
